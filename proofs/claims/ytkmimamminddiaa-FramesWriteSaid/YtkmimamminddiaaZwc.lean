/- Texts of this claim, merged: PBx14, PBx15, PBx17, PBx18, PBx6, PBx19. -/
import Derived.Test.YtkmimamminddiaaZwb
-- written by a patched print
namespace Go.Proofs.Ytkmimamminddiaa.PB
open Go.RowKit Go.Proofs.YtkmimamminddiaaW.PrintWords Go.Proofs.YtkmimamminddiaaW.PrintLast Go.Proofs.YtkmimamminddiaaW.PrintMore
attribute [local go_sem] max2_int min2_int max_two min_two max_three min_three max_four min_four   -- for this text's walks alone
set_option linter.unusedVariables false
set_option linter.unusedSimpArgs false

/-! ### ip_reader_packet: function 95 -/
def ip_reader_packet.j0 : Nat → List Int → Int → Int → Option (Int × Int × Int × Int × Int × Int × Int × Int × List Int × List Int)
 | 0, _, _, _ => none
 | k + 1, x0, x3, x4 => (ip_must.f (decide ((x0.length : Int) ≥ x4)) 20).bind fun _ => (if 0 ≤ x3 then (if x3 ≤ (x0.length : Int) then ((sum_Add.f k 0 (x0.take (x3 : Int).toNat)).bind fun t208 => ((sum_Fold.f k t208).bind fun t209 => ((ip_must.f (t209 == 65535) 22).bind fun _ => ((ip_reader_two.f x0 6).bind fun t210 => (if 1 < (x0.length : Int) then ((ip_reader_two.f x0 4).bind fun t212 => (if 8 < (x0.length : Int) then (if 9 < (x0.length : Int) then ((ip_reader_four.f x0 12).bind fun t215 => ((ip_reader_four.f x0 16).bind fun t216 => (if 20 ≤ x3 then ((ip_reader_byte.f ((x0.take (x3 : Int).toNat).drop 20)).bind fun t218 => (if x3 ≤ x4 then (if x4 ≤ (x0.length : Int) then ((ip_reader_byte.f ((x0.take (x4 : Int).toNat).drop (x3 : Int).toNat)).bind fun t222 => (some (rd x0 1, rd x0 8, rd x0 9, t212, (t210 / 8192) % 256, Go.bits .and .u16 t210 8191, t215, t216, t218, t222))) else (none)) else (none))) else (none)))) else (none)) else (none))) else (none)))))) else (none)) else (none))
def ip_reader_packet.f (k : Nat) (l0 : List Int) : Option (Int × Int × Int × Int × Int × Int × Int × Int × List Int × List Int) := (ip_must.f (decide ((l0.length : Int) ≥ 20)) 20).bind fun _ => (if 0 < (l0.length : Int) then ((ip_reader_two.f l0 2).bind fun t205 => (if ((rd l0 0) / 16) = 4 then (if (wrap64 (4 * (wrap64 (Go.bits .and .u8 (rd l0 0) 15)))) ≥ 20 then ((ip_must.f (decide ((wrap64 (t205)) ≥ (wrap64 (4 * (wrap64 (Go.bits .and .u8 (rd l0 0) 15)))))) 21).bind fun _ => (ip_reader_packet.j0 k l0 (wrap64 (4 * (wrap64 (Go.bits .and .u8 (rd l0 0) 15)))) (wrap64 (t205)))) else ((ip_must.f false 21).bind fun _ => (ip_reader_packet.j0 k l0 (wrap64 (4 * (wrap64 (Go.bits .and .u8 (rd l0 0) 15)))) (wrap64 (t205))))) else ((ip_must.f false 21).bind fun _ => (ip_reader_packet.j0 k l0 (wrap64 (4 * (wrap64 (Go.bits .and .u8 (rd l0 0) 15)))) (wrap64 (t205)))))) else (none))
def ip_reader_packet.T2 : Bool × List (List Nat × List Nat) := (true, [([], []), ([0], [0]), ([1], [1]), ([2], [2]), ([3], [3]), ([4], [4]), ([], []), ([6], [6]), ([7], [7]), ([5, 7, 0, 1, 2, 3, 4, 5], [5]), ([8, 9, 0, 1, 2, 3, 4, 5, 6, 7, 8, 9], [8])])
def ip_reader_packet.B2 : List Nat := [0, 1, 3, 7, 15, 31, 0, 64, 192, 255, 1023]
theorem ip_reader_packet.tab2 : rtab .any (opsOf Try.f95 2) = ip_reader_packet.T2 := by kernel_rfl
theorem ip_reader_packet.bits2 : waitsOk ip_reader_packet.T2.2 ip_reader_packet.B2 = true := by kernel_rfl
def ip_reader_packet.T7 : Bool × List (List Nat × List Nat) := (true, [([], []), ([0], [0]), ([1], [1]), ([], []), ([3], [3]), ([], []), ([5], [5]), ([6], [6]), ([], []), ([8], [8]), ([], []), ([10], [10]), ([11], [11]), ([], []), ([13], [13]), ([14], [14]), ([], []), ([16, 4], [16]), ([], []), ([18, 17], [18]), ([], []), ([], []), ([20, 21], [20, 21]), ([22, 19], [22]), ([], []), ([], []), ([], []), ([24, 25, 26], [24, 25, 26]), ([27, 23], [27]), ([2, 4, 7, 9, 12, 15, 17, 19, 23, 28], [2, 4, 7, 9, 12, 15, 17, 19, 23, 28]), ([29, 28, 0, 1, 2, 3, 4, 5, 6, 7, 8, 9, 10, 11, 12, 13, 14, 15, 16, 17, 18, 19, 20, 21, 22, 23, 24, 25, 26, 27, 28, 29], [29])])
def ip_reader_packet.B7 : List Nat := [0, 1, 3, 0, 8, 0, 32, 96, 0, 256, 0, 1024, 3072, 0, 8192, 24576, 0, 65560, 0, 458776, 0, 0, 3145728, 8323096, 0, 0, 0, 117440512, 268369944, 536870911, 1073741823]
theorem ip_reader_packet.tab7 : rtab .any (opsOf Try.f95 7) = ip_reader_packet.T7 := by kernel_rfl
theorem ip_reader_packet.bits7 : waitsOk ip_reader_packet.T7.2 ip_reader_packet.B7 = true := by kernel_rfl
set_option maxHeartbeats 8000000 in
set_option maxRecDepth 100000 in
theorem ip_reader_packet.calls (k : Nat) (A0 : Option Addr) (c0 : Nat) (l0 : List Int) (r1 : Int) (r2 : Int) (r3 : Int) (r4 : Int) (r5 : Int) (r6 : Int) (r7 : Int) (r8 : Int) (r9 : List Int) (r10 : List Int) (w : World) (hr0 : Kd.C (Kd.int .u8) w A0 l0.length l0) (hc0 : l0.length ≤ c0) (h : ip_reader_packet.f k l0 = some (r1, r2, r3, r4, r5, r6, r7, r8, r9, r10)) :
  Calls Try.prog 95 #[.slice A0 l0.length c0] w fun e w' => ∃ v8_ v9_ : Value, e = .returned (.agg #[.int .u8 r1, .int .u8 r2, .int .u8 r3, .int .u16 r4, .int .u8 r5, .int .u16 r6, .int .u32 r7, .int .u32 r8, v8_, v9_]) ∧ Kd.R (Kd.int .u8) 5 w' w.heap.size (fun k_ => some k_ ≠ (v9_ : Value).ownBlock) v8_ r9 ∧ Kd.R (Kd.int .u8) 5 w' w.heap.size (fun k_ => some k_ ≠ (v8_ : Value).ownBlock) v9_ r10 ∧ Below w.heap.size w w' := by
 have hu73 := Try.underlying73
 have HR0 := Aside0.mk hr0
 have HC0 := Aside0.mk hc0
 clear hr0 hc0
 have HB := Aside0.mk (Below.refl w.heap.size w)
 have H : ((ip_must.f (decide ((l0.length : Int) ≥ 20)) 20).bind fun _ => (if 0 < (l0.length : Int) then ((ip_reader_two.f l0 2).bind fun t205 => (if ((rd l0 0) / 16) = 4 then (if (wrap64 (4 * (wrap64 (Go.bits .and .u8 (rd l0 0) 15)))) ≥ 20 then ((ip_must.f (decide ((wrap64 (t205)) ≥ (wrap64 (4 * (wrap64 (Go.bits .and .u8 (rd l0 0) 15)))))) 21).bind fun _ => (ip_reader_packet.j0 k l0 (wrap64 (4 * (wrap64 (Go.bits .and .u8 (rd l0 0) 15)))) (wrap64 (t205)))) else ((ip_must.f false 21).bind fun _ => (ip_reader_packet.j0 k l0 (wrap64 (4 * (wrap64 (Go.bits .and .u8 (rd l0 0) 15)))) (wrap64 (t205))))) else ((ip_must.f false 21).bind fun _ => (ip_reader_packet.j0 k l0 (wrap64 (4 * (wrap64 (Go.bits .and .u8 (rd l0 0) 15)))) (wrap64 (t205)))))) else (none))) = some (r1, r2, r3, r4, r5, r6, r7, r8, r9, r10) := h
 clear h
 replace H := Option.bind_eq_some_iff.mp H
 obtain ⟨_, A20, H⟩ := H
 replace H : (if 0 < (l0.length : Int) then ((ip_reader_two.f l0 2).bind fun t205 => (if ((rd l0 0) / 16) = 4 then (if (wrap64 (4 * (wrap64 (Go.bits .and .u8 (rd l0 0) 15)))) ≥ 20 then ((ip_must.f (decide ((wrap64 (t205)) ≥ (wrap64 (4 * (wrap64 (Go.bits .and .u8 (rd l0 0) 15)))))) 21).bind fun _ => (ip_reader_packet.j0 k l0 (wrap64 (4 * (wrap64 (Go.bits .and .u8 (rd l0 0) 15)))) (wrap64 (t205)))) else ((ip_must.f false 21).bind fun _ => (ip_reader_packet.j0 k l0 (wrap64 (4 * (wrap64 (Go.bits .and .u8 (rd l0 0) 15)))) (wrap64 (t205))))) else ((ip_must.f false 21).bind fun _ => (ip_reader_packet.j0 k l0 (wrap64 (4 * (wrap64 (Go.bits .and .u8 (rd l0 0) 15)))) (wrap64 (t205)))))) else (none)) = some (r1, r2, r3, r4, r5, r6, r7, r8, r9, r10) := H
 have A2 := Aside0.mk A20
 clear A20
 by_cases c3 : 0 < (l0.length : Int)
 ·rw [if_pos c3] at H
  have c3b0 : decide (0 < (l0.length : Int)) = true := decide_eq_true c3
  have c3b1 : decide (0 < l0.length) = true := decide_eq_true (by omega)
  clear c3
  replace H := Option.bind_eq_some_iff.mp H
  obtain ⟨t205, A40, H⟩ := H
  replace H : (if ((rd l0 0) / 16) = 4 then (if (wrap64 (4 * (wrap64 (Go.bits .and .u8 (rd l0 0) 15)))) ≥ 20 then ((ip_must.f (decide ((wrap64 (t205)) ≥ (wrap64 (4 * (wrap64 (Go.bits .and .u8 (rd l0 0) 15)))))) 21).bind fun _ => (ip_reader_packet.j0 k l0 (wrap64 (4 * (wrap64 (Go.bits .and .u8 (rd l0 0) 15)))) (wrap64 (t205)))) else ((ip_must.f false 21).bind fun _ => (ip_reader_packet.j0 k l0 (wrap64 (4 * (wrap64 (Go.bits .and .u8 (rd l0 0) 15)))) (wrap64 (t205))))) else ((ip_must.f false 21).bind fun _ => (ip_reader_packet.j0 k l0 (wrap64 (4 * (wrap64 (Go.bits .and .u8 (rd l0 0) 15)))) (wrap64 (t205))))) = some (r1, r2, r3, r4, r5, r6, r7, r8, r9, r10) := H
  have A4 := Aside0.mk A40
  clear A40
  have HC5 := Aside0.mk H
  clear H
  go_enter Try.func95, Try.ntmps95
  try go_wp2_with (first | ((with_reducible refine gate_dst (N := 2) rfl ?_); refine box_event ?hg (N := 2) ?hd (cs := #[.int .u8 0, .int .u8 0, .int .u8 0, .int .u16 0, .int .u8 0, .int .u16 0, .int .u32 0, .int .u32 0, .slice none 0 0, .slice none 0 0]) (t := 73) ?hr ?_; (case hd => rfl); (case hg => rfl); (case hr => first | (go_simp; done) | (go_simp; rfl)); intro gb203 hg w6 hbox hb; have n0_ := Aside0.mk (below_step (by repeat (first | (with_reducible first | exact HB.out | apply below_alloc | apply pw_below_drewN | apply below_drew1) | exact HB.out)) hb); have n1_ := Aside0.mk (hbox); have n2_ := Aside0.mk ((by rw [hg]; exact (below_size (by repeat (first | (with_reducible first | exact HB.out | apply below_alloc | apply pw_below_drewN | apply below_drew1) | exact HB.out))) : w.heap.size ≤ gb203)); have n3_ := Aside0.mk ((by rw [hg]; exact (below_size (by repeat (first | (with_reducible first | exact HB.out | apply below_alloc | apply pw_below_drewN | apply below_drew1) | exact HB.out))) : w.heap.size ≤ gb203)); clear HB; have HB := n0_; have BK203 := n1_; have GW203 := n2_; have GE203 := n3_; clear n0_ n1_ n2_ n3_; clear hb hbox hg) | ((with_reducible refine gate_callee (f := 117) rfl ?_); refine goesL_ (some 9) rfl rfl Try.func117 (by kernel_rfl) rfl #[.bool (decide ((l0.length : Int) ≥ 20)), .int .i64 20] rfl (by (try simp only [List.map_toArray, List.map_cons, List.map_nil]); first | done | rfl | (simp only [List.length_drop, List.length_take]; rfl) | (go_simp; done) | (simp [Act.eval, IntKind.signed]; done) | (simp [Act.eval, IntKind.signed]; rfl)) ?_; (with_reducible refine (ip_must.calls (decide ((l0.length : Int) ≥ 20)) 20  _ A2.out).mono ?_); rintro e w' ⟨rfl, ⟨nd, rfl⟩⟩; refine ⟨_, rfl, ?_⟩))
  (try (rw [drewN_self w6]; generalize hq_ : World.drewN w6 _ = w6; have n0_ : Aside0 (w6.heap[gb203]? = some (.cells #[.int .u8 0, .int .u8 0, .int .u8 0, .int .u16 0, .int .u8 0, .int .u16 0, .int .u32 0, .int .u32 0, .slice none 0 0, .slice none 0 0] 73 (0, 0))) := ⟨by rw [← hq_]; exact (by (with_reducible repeat (first | refine blk_drewN ?_ _ | refine blk_drew ?_ | refine blk_alloc ?_ _)); exact BK203.out)⟩; have n1_ : Aside0 (Below w.heap.size w w6) := ⟨by rw [← hq_]; exact (by repeat (first | (with_reducible first | exact HB.out | apply below_alloc | apply pw_below_drewN | apply below_drew1 | refine below_set ?_ GE203.out) | exact HB.out))⟩; clear BK203 HB hq_; have BK203 := n0_; have HB := n1_; clear n0_ n1_))
  have n0_ := Aside0.mk (blk_drew BK203.out)
  have n1_ := Aside0.mk (below_drew1 HB.out)
  clear BK203
  clear HB
  have BK203 := n0_
  have HB := n1_
  clear n0_ n1_
  have p204 : 0 ≤ (0 : Int) := (by omega)
  have q204 : 0 < (l0.length : Int) := of_decide_eq_true (by first | (with_reducible assumption) | assumption)
  obtain ⟨ad204, e204, hx204_0⟩ := Kd.at_int HR0.out 0 p204 q204
  have hw204_0 := hx204_0
  (try rw [show ((0 : Int)).toNat = 0 from rfl] at hw204_0)
  (try rw [show 0 * 1 = 0 from rfl] at hw204_0)
  (try rw [Addr.add_zero'] at hw204_0)
  cases e204
  have qi204 : (0 < l0.length) = True := eq_true (by omega)
  (try rw [show ((0 : Int)).toNat = 0 from rfl] at hx204_0)
  (try rw [Addr.add_zero'] at hx204_0)
  replace hx204_0 := (HB.out.cell (World.block_lt_of_cell? w _ hx204_0)).trans hx204_0
  replace p204 := eq_true p204
  replace q204 := eq_true q204
  refine start_ (n := 11) (S := fun w' => w'.cell? ad204 = some (.int .u8 (rd l0 0))) (ds := []) #[false, false, false, false, false, false, false, false, false, false, false] (by kernel_rfl) rfl rfl (((HB.out.cell (World.block_lt_of_cell? w _ hw204_0)).trans hw204_0)) (fun hHeld => ?_); refine with_tabW ip_reader_packet.tab2 ip_reader_packet.bits2 (fun HT_ HW_ => ?_)
  generalize w6.drew = w7 at BK203 HB hx204_0 hHeld ⊢
  refine pure_ (i := 0) (N := some 10) (v := ?_) (a' := ?_) #[true, false, false, false, false, false, false, false, false, false, false] rfl rfl (any_of HT_.out (by kernel_rfl)) (fun _ _ _ h => h) (Or.inl ⟨by rfl, ?_⟩) ?_ ?_
  rotate_left
  ·intro w'
   go_simp
   with_reducible rfl
  rotate_left
  ·simp only [Act.put, List.setIfInBounds_toArray, List.set_cons_zero, List.set_cons_succ, i64_w, i32_w]
   rfl
  refine pure_ (i := 1) (N := some 11) (v := ?_) (a' := ?_) #[true, true, false, false, false, false, false, false, false, false, false] rfl rfl (any_of HT_.out (by kernel_rfl)) (fun _ _ _ h => h) (Or.inl ⟨by rfl, ?_⟩) ?_ ?_
  rotate_left
  ·intro w'
   go_simp
   with_reducible rfl
  rotate_left
  ·simp only [Act.put, List.setIfInBounds_toArray, List.set_cons_zero, List.set_cons_succ, i64_w, i32_w]
   rfl
  refine pure_ (i := 6) (N := some 16) (v := ?_) (a' := ?_) #[true, true, false, false, false, false, true, false, false, false, false] rfl rfl (any_of HT_.out (by kernel_rfl)) (fun _ _ _ h => h) (Or.inl ⟨by rfl, ?_⟩) ?_ ?_
  rotate_left
  ·intro w'
   go_simp
   with_reducible rfl
  rotate_left
  ·simp only [Act.put, List.setIfInBounds_toArray, List.set_cons_zero, List.set_cons_succ, i64_w, i32_w]
   rfl
  refine take_ (i := 2) (N := some 12) (v := ?_) (a' := ?_) #[true, true, true, false, false, false, true, false, false, false, false] rfl rfl (take_ofW HT_.out HW_.out (by kernel_rfl)) (fun _ _ _ h => h) (Or.inl ⟨by rfl, ?_⟩) hHeld ?_ ?_
  rotate_left
  ·intro w' s0
   go_simp
   with_reducible rfl
  rotate_left
  ·simp only [Act.put, List.setIfInBounds_toArray, List.set_cons_zero, List.set_cons_succ, i64_w, i32_w]
   rfl
  refine pure_ (i := 3) (N := some 13) (v := ?_) (a' := ?_) #[true, true, true, true, false, false, true, false, false, false, false] rfl rfl (any_of HT_.out (by kernel_rfl)) (fun _ _ _ h => h) (Or.inl ⟨by rfl, ?_⟩) ?_ ?_
  rotate_left
  ·intro w'
   go_simp
   with_reducible rfl
  rotate_left
  ·simp only [Act.put, List.setIfInBounds_toArray, List.set_cons_zero, List.set_cons_succ, i64_w, i32_w]
   rfl
  refine pure_ (i := 4) (N := some 14) (v := ?_) (a' := ?_) #[true, true, true, true, true, false, true, false, false, false, false] rfl rfl (any_of HT_.out (by kernel_rfl)) (fun _ _ _ h => h) (Or.inl ⟨by rfl, ?_⟩) ?_ ?_
  rotate_left
  ·intro w'
   go_simp
   with_reducible rfl
  rotate_left
  ·simp only [Act.put, List.setIfInBounds_toArray, List.set_cons_zero, List.set_cons_succ, i64_w, i32_w]
   rfl
  refine pure_ (i := 5) (N := some 15) (v := ?_) (a' := ?_) #[true, true, true, true, true, true, true, false, false, false, false] rfl rfl (any_of HT_.out (by kernel_rfl)) (fun _ _ _ h => h) (Or.inl ⟨by rfl, ?_⟩) ?_ ?_
  rotate_left
  ·intro w'
   go_simp
   with_reducible rfl
  rotate_left
  ·simp only [Act.put, List.setIfInBounds_toArray, List.set_cons_zero, List.set_cons_succ, i64_w, i32_w]
   rfl
  refine one_ (i := 7) (N := some 17) #[true, true, true, true, true, true, true, true, false, false, false] rfl rfl (one_of HT_.out (by kernel_rfl)) (by decide) (fun K hK => ?_)
  refine goes_ Try.func118 (by kernel_rfl) rfl #[.slice (some ad204) l0.length c0, .int .i64 2] (by rfl) rfl rfl (by (try simp only [List.map_toArray, List.map_cons, List.map_nil]); first | done | rfl | (simp only [List.length_drop, List.length_take]; rfl) | (go_simp; done) | (simp [Act.eval, IntKind.signed]; done) | (simp [Act.eval, IntKind.signed]; rfl)) ?_
  with_reducible refine (ip_reader_two.calls _ _ l0 2 t205 _ ?side1 ?side2 A4.out).mono ?_
  (case side1 => repeat (first | exact (Kd.C_below HR0.out HB.out) | (with_reducible refine Kd.C_alloc ?_ _) | (with_reducible refine Kd.C_drewN ?_ _) | (with_reducible refine Kd.C_drew ?_)))
  (case side2 => exact HC0.out)
  rintro e w' ⟨rfl, ⟨nd, rfl⟩⟩
  refine ⟨_, rfl, ?_⟩
  refine hK.out _ _ (((HB.out.cell (World.block_lt_of_cell? w _ hw204_0)).trans hw204_0)) (fun hHeld => ?_)
  clear hK K
  refine norm_ (a' := ?_) ?_ ?_
  rotate_left
  ·show Act.put _ (some 17) _ = _
   simp only [Act.put, List.setIfInBounds_toArray, List.set_cons_zero, List.set_cons_succ, i64_w, i32_w]
   rfl
  refine pure_ (i := 8) (N := some 18) (v := ?_) (a' := ?_) #[true, true, true, true, true, true, true, true, true, false, false] rfl rfl (any_of HT_.out (by kernel_rfl)) (fun _ _ _ h => h) (Or.inl ⟨by rfl, ?_⟩) ?_ ?_
  rotate_left
  ·intro w'
   go_simp
   with_reducible rfl
  rotate_left
  ·simp only [Act.put, List.setIfInBounds_toArray, List.set_cons_zero, List.set_cons_succ, i64_w, i32_w]
   rfl
  refine pure_ (i := 9) (N := some 3) (v := ?_) (a' := ?_) #[true, true, true, true, true, true, true, true, true, true, false] rfl rfl (any_of HT_.out (by kernel_rfl)) (fun _ _ _ h => h) (Or.inl ⟨by rfl, ?_⟩) ?_ ?_
  rotate_left
  ·intro w'
   go_simp
   with_reducible rfl
  rotate_left
  ·simp only [Act.put, List.setIfInBounds_toArray, List.set_cons_zero, List.set_cons_succ, i64_w, i32_w]
   rfl
  refine pure_ (i := 10) (N := some 4) (v := ?_) (a' := ?_) #[true, true, true, true, true, true, true, true, true, true, true] rfl rfl (any_of HT_.out (by kernel_rfl)) (fun _ _ _ h => h) (Or.inl ⟨by rfl, ?_⟩) ?_ ?_
  rotate_left
  ·intro w'
   go_simp
   with_reducible rfl
  rotate_left
  ·simp only [Act.put, List.setIfInBounds_toArray, List.set_cons_zero, List.set_cons_succ, i64_w, i32_w]
   rfl
  refine done_ (done_of HT_.out (by kernel_rfl)) ?_
  go_upto_region 3 with (fail)
  go_cut [] (fun wc => ∃ (kq : Nat), Aside0 (ip_reader_packet.j0 kq l0 (wrap64 (4 * (wrap64 (Go.bits .and .u8 (rd l0 0) 15)))) (wrap64 (t205)) = some (r1, r2, r3, r4, r5, r6, r7, r8, r9, r10)) ∧ Aside0 (kq ≤ k) ∧ Aside0 (wc.heap[gb203]? = some (.cells #[.int .u8 0, .int .u8 0, .int .u8 0, .int .u16 0, .int .u8 0, .int .u16 0, .int .u32 0, .int .u32 0, (.slice none 0 0), (.slice none 0 0)] 73 (0, 0))) ∧ Aside0 (Below w.heap.size w wc))
  case first =>
   have H := HC5.out
   clear HC5
   by_cases c8 : ((rd l0 0) / 16) = 4
   ·rw [if_pos c8] at H
    have c8b0 : (((rd l0 0) / 16) == 4) = true := beq_iff_eq.mpr c8
    have c8b1 : (((rd l0 0) / 16) != 4) = false := bne_eq_false_iff_eq.mpr c8
    clear c8
    (first | rw [c8b0] | (simp only [i64_w, i32_w]; rw [c8b0]) | skip)
    by_cases c9 : (wrap64 (4 * (wrap64 (Go.bits .and .u8 (rd l0 0) 15)))) ≥ 20
    ·rw [if_pos c9] at H
     have c9b0 : decide (20 ≤ (wrap64 (4 * (wrap64 (Go.bits .and .u8 (rd l0 0) 15))))) = true := decide_eq_true c9
     clear c9
     replace H := Option.bind_eq_some_iff.mp H
     obtain ⟨_, A100, H⟩ := H
     replace H : (ip_reader_packet.j0 k l0 (wrap64 (4 * (wrap64 (Go.bits .and .u8 (rd l0 0) 15)))) (wrap64 (t205))) = some (r1, r2, r3, r4, r5, r6, r7, r8, r9, r10) := H
     have A10 := Aside0.mk A100
     clear A100
     have H' := Aside0.mk H
     clear H
     have p206 : 0 ≤ (0 : Int) := (by omega)
     have q206 : 0 < (l0.length : Int) := of_decide_eq_true (by first | (with_reducible assumption) | assumption)
     obtain ⟨ad206, e206, hx206_0⟩ := Kd.at_int HR0.out 0 p206 q206
     obtain rfl : ad204 = ad206 := (by injection e206)
     have qi206 : (0 < l0.length) = True := eq_true (by omega)
     (try rw [show ((0 : Int)).toNat = 0 from rfl] at hx206_0)
     (try rw [Addr.add_zero'] at hx206_0)
     replace hx206_0 := (HB.out.cell (World.block_lt_of_cell? w _ hx206_0)).trans hx206_0
     replace p206 := eq_true p206
     replace q206 := eq_true q206
     go_wp2_with (first | ((with_reducible refine gate_callee (f := 117) rfl ?_); refine goesL_ (some 33) rfl rfl Try.func117 (by kernel_rfl) rfl #[.bool (decide ((wrap64 (t205)) ≥ (wrap64 (4 * (wrap64 (Go.bits .and .u8 (rd l0 0) 15)))))), .int .i64 21] rfl (by (try simp only [List.map_toArray, List.map_cons, List.map_nil]); first | done | rfl | (simp only [List.length_drop, List.length_take]; rfl) | (go_simp; done) | (simp [Act.eval, IntKind.signed]; done) | (simp [Act.eval, IntKind.signed]; rfl)) ?_; (with_reducible refine (ip_must.calls (decide ((wrap64 (t205)) ≥ (wrap64 (4 * (wrap64 (Go.bits .and .u8 (rd l0 0) 15)))))) 21  _ A10.out).mono ?_); rintro e w' ⟨rfl, ⟨nd, rfl⟩⟩; refine ⟨_, rfl, ?_⟩))
     go_meet
     case rel => exact ⟨_, H', ⟨by first | omega | exact Nat.le_refl _⟩, ⟨by (with_reducible repeat (first | refine blk_drewN ?_ _ | refine blk_drew ?_ | refine blk_alloc ?_ _)); exact BK203.out⟩, ⟨by repeat (first | (with_reducible first | exact HB.out | apply below_alloc | apply pw_below_drewN | apply below_drew1 | refine below_set ?_ GE203.out) | exact HB.out)⟩⟩
    ·rw [if_neg c9] at H
     have c9b0 : decide (20 ≤ (wrap64 (4 * (wrap64 (Go.bits .and .u8 (rd l0 0) 15))))) = false := decide_eq_false c9
     clear c9
     replace H := Option.bind_eq_some_iff.mp H
     obtain ⟨_, A110, H⟩ := H
     replace H : (ip_reader_packet.j0 k l0 (wrap64 (4 * (wrap64 (Go.bits .and .u8 (rd l0 0) 15)))) (wrap64 (t205))) = some (r1, r2, r3, r4, r5, r6, r7, r8, r9, r10) := H
     have A11 := Aside0.mk A110
     clear A110
     have H' := Aside0.mk H
     clear H
     have p206 : 0 ≤ (0 : Int) := (by omega)
     have q206 : 0 < (l0.length : Int) := of_decide_eq_true (by first | (with_reducible assumption) | assumption)
     obtain ⟨ad206, e206, hx206_0⟩ := Kd.at_int HR0.out 0 p206 q206
     obtain rfl : ad204 = ad206 := (by injection e206)
     have qi206 : (0 < l0.length) = True := eq_true (by omega)
     (try rw [show ((0 : Int)).toNat = 0 from rfl] at hx206_0)
     (try rw [Addr.add_zero'] at hx206_0)
     replace hx206_0 := (HB.out.cell (World.block_lt_of_cell? w _ hx206_0)).trans hx206_0
     replace p206 := eq_true p206
     replace q206 := eq_true q206
     go_wp2_with (first | ((with_reducible refine gate_callee (f := 117) rfl ?_); refine goesL_ (some 33) rfl rfl Try.func117 (by kernel_rfl) rfl #[.bool false, .int .i64 21] rfl (by (try simp only [List.map_toArray, List.map_cons, List.map_nil]); first | done | rfl | (simp only [List.length_drop, List.length_take]; rfl) | (go_simp; done) | (simp [Act.eval, IntKind.signed]; done) | (simp [Act.eval, IntKind.signed]; rfl)) ?_; (with_reducible refine (ip_must.calls false 21  _ A11.out).mono ?_); rintro e w' ⟨rfl, ⟨nd, rfl⟩⟩; refine ⟨_, rfl, ?_⟩))
     go_meet
     case rel => exact ⟨_, H', ⟨by first | omega | exact Nat.le_refl _⟩, ⟨by (with_reducible repeat (first | refine blk_drewN ?_ _ | refine blk_drew ?_ | refine blk_alloc ?_ _)); exact BK203.out⟩, ⟨by repeat (first | (with_reducible first | exact HB.out | apply below_alloc | apply pw_below_drewN | apply below_drew1 | refine below_set ?_ GE203.out) | exact HB.out)⟩⟩
   ·rw [if_neg c8] at H
    have c8b0 : (((rd l0 0) / 16) == 4) = false := beq_eq_false_iff_ne.mpr c8
    have c8b1 : (((rd l0 0) / 16) != 4) = true := bne_iff_ne.mpr c8
    (first | rw [c8b0] | (simp only [i64_w, i32_w]; rw [c8b0]) | skip)
    replace H := Option.bind_eq_some_iff.mp H
    obtain ⟨_, A120, H⟩ := H
    replace H : (ip_reader_packet.j0 k l0 (wrap64 (4 * (wrap64 (Go.bits .and .u8 (rd l0 0) 15)))) (wrap64 (t205))) = some (r1, r2, r3, r4, r5, r6, r7, r8, r9, r10) := H
    have A12 := Aside0.mk A120
    clear A120
    have H' := Aside0.mk H
    clear H
    have p206 : 0 ≤ (0 : Int) := (by omega)
    have q206 : 0 < (l0.length : Int) := of_decide_eq_true (by first | (with_reducible assumption) | assumption)
    obtain ⟨ad206, e206, hx206_0⟩ := Kd.at_int HR0.out 0 p206 q206
    obtain rfl : ad204 = ad206 := (by injection e206)
    have qi206 : (0 < l0.length) = True := eq_true (by omega)
    (try rw [show ((0 : Int)).toNat = 0 from rfl] at hx206_0)
    (try rw [Addr.add_zero'] at hx206_0)
    replace hx206_0 := (HB.out.cell (World.block_lt_of_cell? w _ hx206_0)).trans hx206_0
    replace p206 := eq_true p206
    replace q206 := eq_true q206
    go_wp2_with (first | ((with_reducible refine gate_callee (f := 117) rfl ?_); refine goesL_ (some 33) rfl rfl Try.func117 (by kernel_rfl) rfl #[.bool false, .int .i64 21] rfl (by (try simp only [List.map_toArray, List.map_cons, List.map_nil]); first | done | rfl | (simp only [List.length_drop, List.length_take]; rfl) | (go_simp; done) | (simp [Act.eval, IntKind.signed]; done) | (simp [Act.eval, IntKind.signed]; rfl)) ?_; (with_reducible refine (ip_must.calls false 21  _ A12.out).mono ?_); rintro e w' ⟨rfl, ⟨nd, rfl⟩⟩; refine ⟨_, rfl, ?_⟩))
    go_meet
    case rel => exact ⟨_, H', ⟨by first | omega | exact Nat.le_refl _⟩, ⟨by (with_reducible repeat (first | refine blk_drewN ?_ _ | refine blk_drew ?_ | refine blk_alloc ?_ _)); exact BK203.out⟩, ⟨by repeat (first | (with_reducible first | exact HB.out | apply below_alloc | apply pw_below_drewN | apply below_drew1 | refine below_set ?_ GE203.out) | exact HB.out)⟩⟩
  case rest =>
   clear HC5
   try clear c1
   try clear p2
   try clear q2
   try clear hx2
   try clear qi2
   try clear c3
   try clear c3b0
   try clear c3b1
   try clear p6
   try clear c8
   try clear c8b0
   try clear c8b1
   try clear c9
   try clear c9b0
   try clear c11
   try clear hx204_0
   try clear hx206_0
   try clear p204
   try clear p206
   try clear q204
   try clear q206
   obtain ⟨kq, HA, HJ4, BK203, HB⟩ := hcut
   cases kq with
   | zero => exact absurd HA.out (by simp [ip_reader_packet.j0])
   | succ kj4 =>
    have H := HA.out
    clear HA
    simp only [ip_reader_packet.j0] at H
    replace H := Option.bind_eq_some_iff.mp H
    obtain ⟨_, A130, H⟩ := H
    replace H : (if 0 ≤ (wrap64 (4 * (wrap64 (Go.bits .and .u8 (rd l0 0) 15)))) then (if (wrap64 (4 * (wrap64 (Go.bits .and .u8 (rd l0 0) 15)))) ≤ (l0.length : Int) then ((sum_Add.f kj4 0 (l0.take ((wrap64 (4 * (wrap64 (Go.bits .and .u8 (rd l0 0) 15)))) : Int).toNat)).bind fun t208 => ((sum_Fold.f kj4 t208).bind fun t209 => ((ip_must.f (t209 == 65535) 22).bind fun _ => ((ip_reader_two.f l0 6).bind fun t210 => (if 1 < (l0.length : Int) then ((ip_reader_two.f l0 4).bind fun t212 => (if 8 < (l0.length : Int) then (if 9 < (l0.length : Int) then ((ip_reader_four.f l0 12).bind fun t215 => ((ip_reader_four.f l0 16).bind fun t216 => (if 20 ≤ (wrap64 (4 * (wrap64 (Go.bits .and .u8 (rd l0 0) 15)))) then ((ip_reader_byte.f ((l0.take ((wrap64 (4 * (wrap64 (Go.bits .and .u8 (rd l0 0) 15)))) : Int).toNat).drop 20)).bind fun t218 => (if (wrap64 (4 * (wrap64 (Go.bits .and .u8 (rd l0 0) 15)))) ≤ (wrap64 (t205)) then (if (wrap64 (t205)) ≤ (l0.length : Int) then ((ip_reader_byte.f ((l0.take ((wrap64 (t205)) : Int).toNat).drop ((wrap64 (4 * (wrap64 (Go.bits .and .u8 (rd l0 0) 15)))) : Int).toNat)).bind fun t222 => (some (rd l0 1, rd l0 8, rd l0 9, t212, (t210 / 8192) % 256, Go.bits .and .u16 t210 8191, t215, t216, t218, t222))) else (none)) else (none))) else (none)))) else (none)) else (none))) else (none)))))) else (none)) else (none)) = some (r1, r2, r3, r4, r5, r6, r7, r8, r9, r10) := H
    have A13 := Aside0.mk A130
    clear A130
    obtain ⟨ji14, hji14⟩ : ∃ j_ : Int, (wrap64 (4 * (wrap64 (Go.bits .and .u8 (rd l0 0) 15)))) = j_ := ⟨_, rfl⟩
    replace H : (if 0 ≤ (ji14) then (if (ji14) ≤ (l0.length : Int) then ((sum_Add.f kj4 0 (l0.take ((ji14) : Int).toNat)).bind fun t208 => ((sum_Fold.f kj4 t208).bind fun t209 => ((ip_must.f (t209 == 65535) 22).bind fun _ => ((ip_reader_two.f l0 6).bind fun t210 => (if 1 < (l0.length : Int) then ((ip_reader_two.f l0 4).bind fun t212 => (if 8 < (l0.length : Int) then (if 9 < (l0.length : Int) then ((ip_reader_four.f l0 12).bind fun t215 => ((ip_reader_four.f l0 16).bind fun t216 => (if 20 ≤ (ji14) then ((ip_reader_byte.f ((l0.take ((ji14) : Int).toNat).drop 20)).bind fun t218 => (if (ji14) ≤ (wrap64 (t205)) then (if (wrap64 (t205)) ≤ (l0.length : Int) then ((ip_reader_byte.f ((l0.take ((wrap64 (t205)) : Int).toNat).drop ((ji14) : Int).toNat)).bind fun t222 => (some (rd l0 1, rd l0 8, rd l0 9, t212, (t210 / 8192) % 256, Go.bits .and .u16 t210 8191, t215, t216, t218, t222))) else (none)) else (none))) else (none)))) else (none)) else (none))) else (none)))))) else (none)) else (none)) = some (r1, r2, r3, r4, r5, r6, r7, r8, r9, r10) := by first | (rw [hji14] at H; exact H) | (simp only [hji14] at H ⊢; exact H)
    (try rw [hji14] at A13)
    have hji14w : (IntKind.i64.wrap (4 * (wrap64 (Go.bits .and .u8 (rd l0 0) 15)))) = ji14 := (i64_w _).trans hji14
    by_cases c15 : 0 ≤ (ji14)
    ·rw [if_pos c15] at H
     have c15b0 := eq_true c15
     have c15b1 : decide (0 ≤ (ji14)) = true := decide_eq_true c15
     clear c15
     by_cases c16 : (ji14) ≤ (l0.length : Int)
     ·rw [if_pos c16] at H
      have c16b0 := eq_true c16
      have c16b1 : decide ((ji14) ≤ (l0.length : Int)) = true := decide_eq_true c16
      clear c16
      replace H := Option.bind_eq_some_iff.mp H
      obtain ⟨t208, A170, H⟩ := H
      replace H : ((sum_Fold.f kj4 t208).bind fun t209 => ((ip_must.f (t209 == 65535) 22).bind fun _ => ((ip_reader_two.f l0 6).bind fun t210 => (if 1 < (l0.length : Int) then ((ip_reader_two.f l0 4).bind fun t212 => (if 8 < (l0.length : Int) then (if 9 < (l0.length : Int) then ((ip_reader_four.f l0 12).bind fun t215 => ((ip_reader_four.f l0 16).bind fun t216 => (if 20 ≤ (ji14) then ((ip_reader_byte.f ((l0.take ((ji14) : Int).toNat).drop 20)).bind fun t218 => (if (ji14) ≤ (wrap64 (t205)) then (if (wrap64 (t205)) ≤ (l0.length : Int) then ((ip_reader_byte.f ((l0.take ((wrap64 (t205)) : Int).toNat).drop ((ji14) : Int).toNat)).bind fun t222 => (some (rd l0 1, rd l0 8, rd l0 9, t212, (t210 / 8192) % 256, Go.bits .and .u16 t210 8191, t215, t216, t218, t222))) else (none)) else (none))) else (none)))) else (none)) else (none))) else (none))))) = some (r1, r2, r3, r4, r5, r6, r7, r8, r9, r10) := H
      have A17 := Aside0.mk A170
      clear A170
      replace H := Option.bind_eq_some_iff.mp H
      obtain ⟨t209, A180, H⟩ := H
      replace H : ((ip_must.f (t209 == 65535) 22).bind fun _ => ((ip_reader_two.f l0 6).bind fun t210 => (if 1 < (l0.length : Int) then ((ip_reader_two.f l0 4).bind fun t212 => (if 8 < (l0.length : Int) then (if 9 < (l0.length : Int) then ((ip_reader_four.f l0 12).bind fun t215 => ((ip_reader_four.f l0 16).bind fun t216 => (if 20 ≤ (ji14) then ((ip_reader_byte.f ((l0.take ((ji14) : Int).toNat).drop 20)).bind fun t218 => (if (ji14) ≤ (wrap64 (t205)) then (if (wrap64 (t205)) ≤ (l0.length : Int) then ((ip_reader_byte.f ((l0.take ((wrap64 (t205)) : Int).toNat).drop ((ji14) : Int).toNat)).bind fun t222 => (some (rd l0 1, rd l0 8, rd l0 9, t212, (t210 / 8192) % 256, Go.bits .and .u16 t210 8191, t215, t216, t218, t222))) else (none)) else (none))) else (none)))) else (none)) else (none))) else (none)))) = some (r1, r2, r3, r4, r5, r6, r7, r8, r9, r10) := H
      have A18 := Aside0.mk A180
      clear A180
      replace H := Option.bind_eq_some_iff.mp H
      obtain ⟨_, A190, H⟩ := H
      replace H : ((ip_reader_two.f l0 6).bind fun t210 => (if 1 < (l0.length : Int) then ((ip_reader_two.f l0 4).bind fun t212 => (if 8 < (l0.length : Int) then (if 9 < (l0.length : Int) then ((ip_reader_four.f l0 12).bind fun t215 => ((ip_reader_four.f l0 16).bind fun t216 => (if 20 ≤ (ji14) then ((ip_reader_byte.f ((l0.take ((ji14) : Int).toNat).drop 20)).bind fun t218 => (if (ji14) ≤ (wrap64 (t205)) then (if (wrap64 (t205)) ≤ (l0.length : Int) then ((ip_reader_byte.f ((l0.take ((wrap64 (t205)) : Int).toNat).drop ((ji14) : Int).toNat)).bind fun t222 => (some (rd l0 1, rd l0 8, rd l0 9, t212, (t210 / 8192) % 256, Go.bits .and .u16 t210 8191, t215, t216, t218, t222))) else (none)) else (none))) else (none)))) else (none)) else (none))) else (none))) = some (r1, r2, r3, r4, r5, r6, r7, r8, r9, r10) := H
      have A19 := Aside0.mk A190
      clear A190
      replace H := Option.bind_eq_some_iff.mp H
      obtain ⟨t210, A200, H⟩ := H
      replace H : (if 1 < (l0.length : Int) then ((ip_reader_two.f l0 4).bind fun t212 => (if 8 < (l0.length : Int) then (if 9 < (l0.length : Int) then ((ip_reader_four.f l0 12).bind fun t215 => ((ip_reader_four.f l0 16).bind fun t216 => (if 20 ≤ (ji14) then ((ip_reader_byte.f ((l0.take ((ji14) : Int).toNat).drop 20)).bind fun t218 => (if (ji14) ≤ (wrap64 (t205)) then (if (wrap64 (t205)) ≤ (l0.length : Int) then ((ip_reader_byte.f ((l0.take ((wrap64 (t205)) : Int).toNat).drop ((ji14) : Int).toNat)).bind fun t222 => (some (rd l0 1, rd l0 8, rd l0 9, t212, (t210 / 8192) % 256, Go.bits .and .u16 t210 8191, t215, t216, t218, t222))) else (none)) else (none))) else (none)))) else (none)) else (none))) else (none)) = some (r1, r2, r3, r4, r5, r6, r7, r8, r9, r10) := H
      have A20 := Aside0.mk A200
      clear A200
      by_cases c21 : 1 < (l0.length : Int)
      ·rw [if_pos c21] at H
       have c21b0 : decide (1 < (l0.length : Int)) = true := decide_eq_true c21
       have c21b1 : decide (1 < l0.length) = true := decide_eq_true (by omega)
       clear c21
       replace H := Option.bind_eq_some_iff.mp H
       obtain ⟨t212, A220, H⟩ := H
       replace H : (if 8 < (l0.length : Int) then (if 9 < (l0.length : Int) then ((ip_reader_four.f l0 12).bind fun t215 => ((ip_reader_four.f l0 16).bind fun t216 => (if 20 ≤ (ji14) then ((ip_reader_byte.f ((l0.take ((ji14) : Int).toNat).drop 20)).bind fun t218 => (if (ji14) ≤ (wrap64 (t205)) then (if (wrap64 (t205)) ≤ (l0.length : Int) then ((ip_reader_byte.f ((l0.take ((wrap64 (t205)) : Int).toNat).drop ((ji14) : Int).toNat)).bind fun t222 => (some (rd l0 1, rd l0 8, rd l0 9, t212, (t210 / 8192) % 256, Go.bits .and .u16 t210 8191, t215, t216, t218, t222))) else (none)) else (none))) else (none)))) else (none)) else (none)) = some (r1, r2, r3, r4, r5, r6, r7, r8, r9, r10) := H
       have A22 := Aside0.mk A220
       clear A220
       by_cases c23 : 8 < (l0.length : Int)
       ·rw [if_pos c23] at H
        have c23b0 : decide (8 < (l0.length : Int)) = true := decide_eq_true c23
        have c23b1 : decide (8 < l0.length) = true := decide_eq_true (by omega)
        clear c23
        by_cases c24 : 9 < (l0.length : Int)
        ·rw [if_pos c24] at H
         have c24b0 : decide (9 < (l0.length : Int)) = true := decide_eq_true c24
         have c24b1 : decide (9 < l0.length) = true := decide_eq_true (by omega)
         clear c24
         replace H := Option.bind_eq_some_iff.mp H
         obtain ⟨t215, A250, H⟩ := H
         replace H : ((ip_reader_four.f l0 16).bind fun t216 => (if 20 ≤ (ji14) then ((ip_reader_byte.f ((l0.take ((ji14) : Int).toNat).drop 20)).bind fun t218 => (if (ji14) ≤ (wrap64 (t205)) then (if (wrap64 (t205)) ≤ (l0.length : Int) then ((ip_reader_byte.f ((l0.take ((wrap64 (t205)) : Int).toNat).drop ((ji14) : Int).toNat)).bind fun t222 => (some (rd l0 1, rd l0 8, rd l0 9, t212, (t210 / 8192) % 256, Go.bits .and .u16 t210 8191, t215, t216, t218, t222))) else (none)) else (none))) else (none))) = some (r1, r2, r3, r4, r5, r6, r7, r8, r9, r10) := H
         have A25 := Aside0.mk A250
         clear A250
         replace H := Option.bind_eq_some_iff.mp H
         obtain ⟨t216, A260, H⟩ := H
         replace H : (if 20 ≤ (ji14) then ((ip_reader_byte.f ((l0.take ((ji14) : Int).toNat).drop 20)).bind fun t218 => (if (ji14) ≤ (wrap64 (t205)) then (if (wrap64 (t205)) ≤ (l0.length : Int) then ((ip_reader_byte.f ((l0.take ((wrap64 (t205)) : Int).toNat).drop ((ji14) : Int).toNat)).bind fun t222 => (some (rd l0 1, rd l0 8, rd l0 9, t212, (t210 / 8192) % 256, Go.bits .and .u16 t210 8191, t215, t216, t218, t222))) else (none)) else (none))) else (none)) = some (r1, r2, r3, r4, r5, r6, r7, r8, r9, r10) := H
         have A26 := Aside0.mk A260
         clear A260
         by_cases c27 : 20 ≤ (ji14)
         ·rw [if_pos c27] at H
          have c27b0 := eq_true c27
          have c27b1 : decide (20 ≤ (ji14)) = true := decide_eq_true c27
          clear c27
          have c28b0 := eq_true (of_decide_eq_true (by first | (with_reducible assumption) | assumption) : (ji14) ≤ (l0.length : Int))
          replace H := Option.bind_eq_some_iff.mp H
          obtain ⟨t218, A290, H⟩ := H
          replace H : (if (ji14) ≤ (wrap64 (t205)) then (if (wrap64 (t205)) ≤ (l0.length : Int) then ((ip_reader_byte.f ((l0.take ((wrap64 (t205)) : Int).toNat).drop ((ji14) : Int).toNat)).bind fun t222 => (some (rd l0 1, rd l0 8, rd l0 9, t212, (t210 / 8192) % 256, Go.bits .and .u16 t210 8191, t215, t216, t218, t222))) else (none)) else (none)) = some (r1, r2, r3, r4, r5, r6, r7, r8, r9, r10) := H
          have A29 := Aside0.mk A290
          clear A290
          have c30b0 := eq_true (of_decide_eq_true (by first | (with_reducible assumption) | assumption) : 0 ≤ (ji14))
          by_cases c31 : (ji14) ≤ (wrap64 (t205))
          ·rw [if_pos c31] at H
           have c31b0 := eq_true c31
           have c31b1 : decide ((ji14) ≤ (wrap64 (t205))) = true := decide_eq_true c31
           clear c31
           by_cases c32 : (wrap64 (t205)) ≤ (l0.length : Int)
           ·rw [if_pos c32] at H
            have c32b0 := eq_true c32
            have c32b1 : decide ((wrap64 (t205)) ≤ (l0.length : Int)) = true := decide_eq_true c32
            clear c32
            replace H := Option.bind_eq_some_iff.mp H
            obtain ⟨t222, A330, H⟩ := H
            replace H : (some (rd l0 1, rd l0 8, rd l0 9, t212, (t210 / 8192) % 256, Go.bits .and .u16 t210 8191, t215, t216, t218, t222)) = some (r1, r2, r3, r4, r5, r6, r7, r8, r9, r10) := H
            have A33 := Aside0.mk A330
            clear A330
            simp only [Option.some.injEq, Prod.mk.injEq] at H
            obtain ⟨rfl, rfl, rfl, rfl, rfl, rfl, rfl, rfl, rfl, rfl⟩ := H
            try go_wp2_with (first | ((with_reducible refine gate_callee (f := 117) rfl ?_); refine goesL_ (some 38) rfl rfl Try.func117 (by kernel_rfl) rfl #[.bool (decide ((l0.length : Int) ≥ (wrap64 (t205)))), .int .i64 20] rfl (by (try simp only [List.map_toArray, List.map_cons, List.map_nil]); first | done | rfl | (simp only [List.length_drop, List.length_take]; rfl) | (go_simp; done) | (simp [Act.eval, IntKind.signed]; done) | (simp [Act.eval, IntKind.signed]; rfl)) ?_; (with_reducible refine (ip_must.calls (decide ((l0.length : Int) ≥ (wrap64 (t205)))) 20  _ A13.out).mono ?_); rintro e w' ⟨rfl, ⟨nd, rfl⟩⟩; refine ⟨_, rfl, ?_⟩; (try (rw [drewN_self wc]; generalize hq_ : World.drewN wc _ = wc; have n0_ : Aside0 (wc.heap[gb203]? = some (.cells #[.int .u8 0, .int .u8 0, .int .u8 0, .int .u16 0, .int .u8 0, .int .u16 0, .int .u32 0, .int .u32 0, .slice none 0 0, .slice none 0 0] 73 (0, 0))) := ⟨by rw [← hq_]; exact (by (with_reducible repeat (first | refine blk_drewN ?_ _ | refine blk_drew ?_ | refine blk_alloc ?_ _)); exact BK203.out)⟩; have n1_ : Aside0 (Below w.heap.size w wc) := ⟨by rw [← hq_]; exact (by repeat (first | (with_reducible first | exact HB.out | apply below_alloc | apply pw_below_drewN | apply below_drew1 | refine below_set ?_ GE203.out) | exact HB.out))⟩; clear BK203 HB hq_; have BK203 := n0_; have HB := n1_; clear n0_ n1_)); obtain ⟨i034, hi034, _, hsz34, _⟩ := info_parts info5; obtain ⟨hcut34, hA34, hC34⟩ := print_take_of (P := Try.prog) (Value.int .u8) 0 165 5 .i64 Try.underlying165 hi034 hsz34 (some ad204) c0 l0 (ji14) (of_decide_eq_true (by first | (with_reducible assumption) | assumption)) (of_decide_eq_true (by first | (with_reducible assumption) | assumption)) HC0.out; have HR207 := Aside0.mk (Kd.C_of_reads (h1 := fun _ => rfl) (hA34 _ (Kd.reads_of_C HR0.out))); have HC207 := Aside0.mk hC34; clear hA34 hC34 hi034 hsz34) | ((with_reducible refine gate_callee (f := 116) rfl ?_); refine goesL_ (some 42) rfl rfl Try.func116 (by kernel_rfl) rfl #[.int .u32 0, .slice (some ad204) (l0.take ((ji14) : Int).toNat).length c0] rfl (by (try simp only [List.map_toArray, List.map_cons, List.map_nil]); first | done | (rw [show (l0.take ((ji14) : Int).toNat).length = (ji14).toNat from (by rw [List.length_take]; have h_ : ((ji14) : Int) ≤ (l0.length : Int) := of_decide_eq_true (by first | (with_reducible assumption) | assumption); omega)] <;> rfl) | (simp only [hji14]; rfl) | rfl | (simp only [List.length_drop, List.length_take]; rfl) | (go_simp; done) | (simp [Act.eval, IntKind.signed]; done) | (simp [Act.eval, IntKind.signed]; rfl)) ?_; (with_reducible refine (sum_Add.calls kj4 0 _ _ (l0.take ((ji14) : Int).toNat) t208 _ ?side1 ?side2 A17.out).mono ?_); (case side1 => repeat (first | exact (Kd.C_below HR207.out HB.out) | (with_reducible refine Kd.C_alloc ?_ _) | (with_reducible refine Kd.C_drewN ?_ _) | (with_reducible refine Kd.C_drew ?_))); (case side2 => exact HC207.out); rintro e w35 ⟨rfl, hb⟩; refine ⟨_, rfl, ?_⟩; have n0_ := Aside0.mk (blk_below (g := gb203) (o := .cells #[.int .u8 0, .int .u8 0, .int .u8 0, .int .u16 0, .int .u8 0, .int .u16 0, .int .u32 0, .int .u32 0, .slice none 0 0, .slice none 0 0] 73 (0, 0)) (by (with_reducible repeat (first | refine blk_drewN ?_ _ | refine blk_drew ?_ | refine blk_alloc ?_ _)); exact BK203.out) hb); have n1_ := Aside0.mk (below_step (by repeat (first | (with_reducible first | exact HB.out | apply below_alloc | apply pw_below_drewN | apply below_drew1 | refine below_set ?_ GE203.out) | exact HB.out)) hb); clear BK203; clear HB; have BK203 := n0_; have HB := n1_; clear n0_ n1_; (try clear hb); (try clear hb2); (try clear hk); (try clear hi)) | ((with_reducible refine gate_callee (f := 115) rfl ?_); refine goesL_ (some 43) rfl rfl Try.func115 (by kernel_rfl) rfl #[.int .u32 t208] rfl (by (try simp only [List.map_toArray, List.map_cons, List.map_nil]); first | done | rfl | (simp only [List.length_drop, List.length_take]; rfl) | (go_simp; done) | (simp [Act.eval, IntKind.signed]; done) | (simp [Act.eval, IntKind.signed]; rfl)) ?_; (with_reducible refine (sum_Fold.calls kj4 t208 t209 _ A18.out).mono ?_); rintro e w' ⟨rfl, ⟨nd, rfl⟩⟩; refine ⟨_, rfl, ?_⟩; (try (rw [drewN_self w35]; generalize hq_ : World.drewN w35 _ = w35; have n0_ : Aside0 (w35.heap[gb203]? = some (.cells #[.int .u8 0, .int .u8 0, .int .u8 0, .int .u16 0, .int .u8 0, .int .u16 0, .int .u32 0, .int .u32 0, .slice none 0 0, .slice none 0 0] 73 (0, 0))) := ⟨by rw [← hq_]; exact (by (with_reducible repeat (first | refine blk_drewN ?_ _ | refine blk_drew ?_ | refine blk_alloc ?_ _)); exact BK203.out)⟩; have n1_ : Aside0 (Below w.heap.size w w35) := ⟨by rw [← hq_]; exact (by repeat (first | (with_reducible first | exact HB.out | apply below_alloc | apply pw_below_drewN | apply below_drew1 | refine below_set ?_ GE203.out) | exact HB.out))⟩; clear BK203 HB hq_; have BK203 := n0_; have HB := n1_; clear n0_ n1_))) | ((with_reducible refine gate_callee (f := 117) rfl ?_); refine goesL_ (some 45) rfl rfl Try.func117 (by kernel_rfl) rfl #[.bool (t209 == 65535), .int .i64 22] rfl (by (try simp only [List.map_toArray, List.map_cons, List.map_nil]); first | done | rfl | (simp only [List.length_drop, List.length_take]; rfl) | (go_simp; done) | (simp [Act.eval, IntKind.signed]; done) | (simp [Act.eval, IntKind.signed]; rfl)) ?_; (with_reducible refine (ip_must.calls (t209 == 65535) 22  _ A19.out).mono ?_); rintro e w' ⟨rfl, ⟨nd, rfl⟩⟩; refine ⟨_, rfl, ?_⟩; (try (rw [drewN_self w35]; generalize hq_ : World.drewN w35 _ = w35; have n0_ : Aside0 (w35.heap[gb203]? = some (.cells #[.int .u8 0, .int .u8 0, .int .u8 0, .int .u16 0, .int .u8 0, .int .u16 0, .int .u32 0, .int .u32 0, .slice none 0 0, .slice none 0 0] 73 (0, 0))) := ⟨by rw [← hq_]; exact (by (with_reducible repeat (first | refine blk_drewN ?_ _ | refine blk_drew ?_ | refine blk_alloc ?_ _)); exact BK203.out)⟩; have n1_ : Aside0 (Below w.heap.size w w35) := ⟨by rw [← hq_]; exact (by repeat (first | (with_reducible first | exact HB.out | apply below_alloc | apply pw_below_drewN | apply below_drew1 | refine below_set ?_ GE203.out) | exact HB.out))⟩; clear BK203 HB hq_; have BK203 := n0_; have HB := n1_; clear n0_ n1_))) | ((with_reducible refine gate_callee (f := 118) rfl ?_); refine goesL_ (some 47) rfl rfl Try.func118 (by kernel_rfl) rfl #[.slice (some ad204) l0.length c0, .int .i64 6] rfl (by (try simp only [List.map_toArray, List.map_cons, List.map_nil]); first | done | rfl | (simp only [List.length_drop, List.length_take]; rfl) | (go_simp; done) | (simp [Act.eval, IntKind.signed]; done) | (simp [Act.eval, IntKind.signed]; rfl)) ?_; (with_reducible refine (ip_reader_two.calls _ _ l0 6 t210 _ ?side1 ?side2 A20.out).mono ?_); (case side1 => repeat (first | exact (Kd.C_below HR0.out HB.out) | (with_reducible refine Kd.C_alloc ?_ _) | (with_reducible refine Kd.C_drewN ?_ _) | (with_reducible refine Kd.C_drew ?_))); (case side2 => exact HC0.out); rintro e w' ⟨rfl, ⟨nd, rfl⟩⟩; refine ⟨_, rfl, ?_⟩; (try (rw [drewN_self w35]; generalize hq_ : World.drewN w35 _ = w35; have n0_ : Aside0 (w35.heap[gb203]? = some (.cells #[.int .u8 0, .int .u8 0, .int .u8 0, .int .u16 0, .int .u8 0, .int .u16 0, .int .u32 0, .int .u32 0, .slice none 0 0, .slice none 0 0] 73 (0, 0))) := ⟨by rw [← hq_]; exact (by (with_reducible repeat (first | refine blk_drewN ?_ _ | refine blk_drew ?_ | refine blk_alloc ?_ _)); exact BK203.out)⟩; have n1_ : Aside0 (Below w.heap.size w w35) := ⟨by rw [← hq_]; exact (by repeat (first | (with_reducible first | exact HB.out | apply below_alloc | apply pw_below_drewN | apply below_drew1 | refine below_set ?_ GE203.out) | exact HB.out))⟩; clear BK203 HB hq_; have BK203 := n0_; have HB := n1_; clear n0_ n1_))))
            have n0_ := Aside0.mk (blk_drew BK203.out)
            have n1_ := Aside0.mk (below_drew1 HB.out)
            clear BK203
            clear HB
            have BK203 := n0_
            have HB := n1_
            clear n0_ n1_
            have p211 : 0 ≤ (1 : Int) := (by omega)
            have q211 : 1 < (l0.length : Int) := of_decide_eq_true (by first | (with_reducible assumption) | assumption)
            obtain ⟨ad211, e211, hx211_0⟩ := Kd.at_int HR0.out 1 p211 q211
            have hw211_0 := hx211_0
            (try rw [show ((1 : Int)).toNat = 1 from rfl] at hw211_0)
            (try rw [show 1 * 1 = 1 from rfl] at hw211_0)
            (try simp only [Nat.reduceMul, Nat.reduceEqDiff, Go.Addr.add, ↓reduceIte] at hw211_0)
            obtain rfl : ad204 = ad211 := (by injection e211)
            (try simp only [show (1 : Int).toNat = 1 from rfl, Nat.reduceMul, Nat.reduceEqDiff, Go.Addr.add, ↓reduceIte] at hx211_0)
            have qi211 : (1 < l0.length) = True := eq_true (by omega)
            (try rw [show ((1 : Int)).toNat = 1 from rfl] at hx211_0)
            replace hx211_0 := (HB.out.cell (World.block_lt_of_cell? w _ hx211_0)).trans hx211_0
            replace p211 := eq_true p211
            replace q211 := eq_true q211
            have p213 : 0 ≤ (8 : Int) := (by omega)
            have q213 : 8 < (l0.length : Int) := of_decide_eq_true (by first | (with_reducible assumption) | assumption)
            obtain ⟨ad213, e213, hx213_0⟩ := Kd.at_int HR0.out 8 p213 q213
            have hw213_0 := hx213_0
            (try rw [show ((8 : Int)).toNat = 8 from rfl] at hw213_0)
            (try rw [show 8 * 1 = 8 from rfl] at hw213_0)
            (try simp only [Nat.reduceMul, Nat.reduceEqDiff, Go.Addr.add, ↓reduceIte] at hw213_0)
            obtain rfl : ad204 = ad213 := (by injection e213)
            (try simp only [show (8 : Int).toNat = 8 from rfl, Nat.reduceMul, Nat.reduceEqDiff, Go.Addr.add, ↓reduceIte] at hx213_0)
            have qi213 : (8 < l0.length) = True := eq_true (by omega)
            (try rw [show ((8 : Int)).toNat = 8 from rfl] at hx213_0)
            replace hx213_0 := (HB.out.cell (World.block_lt_of_cell? w _ hx213_0)).trans hx213_0
            replace p213 := eq_true p213
            replace q213 := eq_true q213
            have p214 : 0 ≤ (9 : Int) := (by omega)
            have q214 : 9 < (l0.length : Int) := of_decide_eq_true (by first | (with_reducible assumption) | assumption)
            obtain ⟨ad214, e214, hx214_0⟩ := Kd.at_int HR0.out 9 p214 q214
            have hw214_0 := hx214_0
            (try rw [show ((9 : Int)).toNat = 9 from rfl] at hw214_0)
            (try rw [show 9 * 1 = 9 from rfl] at hw214_0)
            (try simp only [Nat.reduceMul, Nat.reduceEqDiff, Go.Addr.add, ↓reduceIte] at hw214_0)
            obtain rfl : ad204 = ad214 := (by injection e214)
            (try simp only [show (9 : Int).toNat = 9 from rfl, Nat.reduceMul, Nat.reduceEqDiff, Go.Addr.add, ↓reduceIte] at hx214_0)
            have qi214 : (9 < l0.length) = True := eq_true (by omega)
            (try rw [show ((9 : Int)).toNat = 9 from rfl] at hx214_0)
            replace hx214_0 := (HB.out.cell (World.block_lt_of_cell? w _ hx214_0)).trans hx214_0
            replace p214 := eq_true p214
            replace q214 := eq_true q214
            obtain ⟨i037, hi037, _, hsz37, _⟩ := info_parts info5
            obtain ⟨A37, hcut37, hA37, hC37⟩ := print_mid_of (P := Try.prog) (Value.int .u8) 0 165 5 .i64 .i64 Try.underlying165 hi037 hsz37 (some ad204) c0 l0 20 (ji14) (by omega) (by first | omega | exact of_decide_eq_true (by first | (with_reducible assumption) | assumption)) (of_decide_eq_true (by first | (with_reducible assumption) | assumption)) HC0.out
            have HR217 := Aside0.mk (Kd.C_of_reads (h1 := fun _ => rfl) (hA37 _ (Kd.reads_of_C HR0.out)))
            have HC217 := Aside0.mk hC37
            clear hA37 hC37 hi037 hsz37
            obtain ⟨i038, hi038, _, hsz38, _⟩ := info_parts info5
            obtain ⟨A38, hcut38, hA38, hC38⟩ := print_mid_of (P := Try.prog) (Value.int .u8) 0 165 5 .i64 .i64 Try.underlying165 hi038 hsz38 (some ad204) c0 l0 (ji14) (wrap64 (t205)) (of_decide_eq_true (by first | (with_reducible assumption) | assumption)) (by first | omega | exact of_decide_eq_true (by first | (with_reducible assumption) | assumption)) (of_decide_eq_true (by first | (with_reducible assumption) | assumption)) HC0.out
            have HR221 := Aside0.mk (Kd.C_of_reads (h1 := fun _ => rfl) (hA38 _ (Kd.reads_of_C HR0.out)))
            have HC221 := Aside0.mk hC38
            clear hA38 hC38 hi038 hsz38
            refine start_ (n := 31) (S := fun w' => w'.cell? ⟨ad204.block, ad204.off + 1, none⟩ = some (.int .u8 (rd l0 1)) ∧ w'.cell? ⟨ad204.block, ad204.off + 8, none⟩ = some (.int .u8 (rd l0 8)) ∧ w'.cell? ⟨ad204.block, ad204.off + 9, none⟩ = some (.int .u8 (rd l0 9))) (ds := []) #[false, false, false, false, false, false, false, false, false, false, false, false, false, false, false, false, false, false, false, false, false, false, false, false, false, false, false, false, false, false, false] (by kernel_rfl) rfl rfl ⟨((HB.out.cell (World.block_lt_of_cell? w _ hw211_0)).trans hw211_0), ((HB.out.cell (World.block_lt_of_cell? w _ hw213_0)).trans hw213_0), ((HB.out.cell (World.block_lt_of_cell? w _ hw214_0)).trans hw214_0)⟩ (fun hHeld => ?_); refine with_tabW ip_reader_packet.tab7 ip_reader_packet.bits7 (fun HT_ HW_ => ?_)
            generalize w35.drew = w36 at BK203 HB HR217 HR221 hx211_0 hx213_0 hx214_0 hHeld ⊢
            refine pure_ (i := 0) (N := some 48) (v := ?_) (a' := ?_) #[true, false, false, false, false, false, false, false, false, false, false, false, false, false, false, false, false, false, false, false, false, false, false, false, false, false, false, false, false, false, false] rfl rfl (any_of HT_.out (by kernel_rfl)) (fun _ _ _ h => h) (Or.inl ⟨by rfl, ?_⟩) ?_ ?_
            rotate_left
            ·intro w'
             go_simp
             with_reducible rfl
            rotate_left
            ·simp only [Act.put, List.setIfInBounds_toArray, List.set_cons_zero, List.set_cons_succ, i64_w, i32_w]
             rfl
            refine pure_ (i := 1) (N := some 49) (v := ?_) (a' := ?_) #[true, true, false, false, false, false, false, false, false, false, false, false, false, false, false, false, false, false, false, false, false, false, false, false, false, false, false, false, false, false, false] rfl rfl (any_of HT_.out (by kernel_rfl)) (fun _ _ _ h => h) (Or.inl ⟨by rfl, ?_⟩) ?_ ?_
            rotate_left
            ·intro w'
             go_simp
             with_reducible rfl
            rotate_left
            ·simp only [Act.put, List.setIfInBounds_toArray, List.set_cons_zero, List.set_cons_succ, i64_w, i32_w]
             rfl
            refine pure_ (i := 3) (N := some 51) (v := ?_) (a' := ?_) #[true, true, false, true, false, false, false, false, false, false, false, false, false, false, false, false, false, false, false, false, false, false, false, false, false, false, false, false, false, false, false] rfl rfl (any_of HT_.out (by kernel_rfl)) (fun _ _ _ h => h) (Or.inl ⟨by rfl, ?_⟩) ?_ ?_
            rotate_left
            ·intro w'
             go_simp
             with_reducible rfl
            rotate_left
            ·simp only [Act.put, List.setIfInBounds_toArray, List.set_cons_zero, List.set_cons_succ, i64_w, i32_w]
             rfl
            refine pure_ (i := 5) (N := some 53) (v := ?_) (a' := ?_) #[true, true, false, true, false, true, false, false, false, false, false, false, false, false, false, false, false, false, false, false, false, false, false, false, false, false, false, false, false, false, false] rfl rfl (any_of HT_.out (by kernel_rfl)) (fun _ _ _ h => h) (Or.inl ⟨by rfl, ?_⟩) ?_ ?_
            rotate_left
            ·intro w'
             go_simp
             with_reducible rfl
            rotate_left
            ·simp only [Act.put, List.setIfInBounds_toArray, List.set_cons_zero, List.set_cons_succ, i64_w, i32_w]
             rfl
            refine pure_ (i := 6) (N := some 54) (v := ?_) (a' := ?_) #[true, true, false, true, false, true, true, false, false, false, false, false, false, false, false, false, false, false, false, false, false, false, false, false, false, false, false, false, false, false, false] rfl rfl (any_of HT_.out (by kernel_rfl)) (fun _ _ _ h => h) (Or.inl ⟨by rfl, ?_⟩) ?_ ?_
            rotate_left
            ·intro w'
             go_simp
             with_reducible rfl
            rotate_left
            ·simp only [Act.put, List.setIfInBounds_toArray, List.set_cons_zero, List.set_cons_succ, i64_w, i32_w]
             rfl
            refine pure_ (i := 7) (N := some 55) (v := ?_) (a' := ?_) #[true, true, false, true, false, true, true, true, false, false, false, false, false, false, false, false, false, false, false, false, false, false, false, false, false, false, false, false, false, false, false] rfl rfl (any_of HT_.out (by kernel_rfl)) (fun _ _ _ h => h) (Or.inl ⟨by rfl, ?_⟩) ?_ ?_
            rotate_left
            ·intro w'
             go_simp
             with_reducible rfl
            rotate_left
            ·simp only [Act.put, List.setIfInBounds_toArray, List.set_cons_zero, List.set_cons_succ, i64_w, i32_w]
             rfl
            refine pure_ (i := 8) (N := some 56) (v := ?_) (a' := ?_) #[true, true, false, true, false, true, true, true, true, false, false, false, false, false, false, false, false, false, false, false, false, false, false, false, false, false, false, false, false, false, false] rfl rfl (any_of HT_.out (by kernel_rfl)) (fun _ _ _ h => h) (Or.inl ⟨by rfl, ?_⟩) ?_ ?_
            rotate_left
            ·intro w'
             go_simp
             with_reducible rfl
            rotate_left
            ·simp only [Act.put, List.setIfInBounds_toArray, List.set_cons_zero, List.set_cons_succ, i64_w, i32_w]
             rfl
            refine pure_ (i := 9) (N := some 57) (v := ?_) (a' := ?_) #[true, true, false, true, false, true, true, true, true, true, false, false, false, false, false, false, false, false, false, false, false, false, false, false, false, false, false, false, false, false, false] rfl rfl (any_of HT_.out (by kernel_rfl)) (fun _ _ _ h => h) (Or.inl ⟨by rfl, ?_⟩) ?_ ?_
            rotate_left
            ·intro w'
             go_simp
             with_reducible rfl
            rotate_left
            ·simp only [Act.put, List.setIfInBounds_toArray, List.set_cons_zero, List.set_cons_succ, i64_w, i32_w]
             rfl
            refine pure_ (i := 10) (N := some 58) (v := ?_) (a' := ?_) #[true, true, false, true, false, true, true, true, true, true, true, false, false, false, false, false, false, false, false, false, false, false, false, false, false, false, false, false, false, false, false] rfl rfl (any_of HT_.out (by kernel_rfl)) (fun _ _ _ h => h) (Or.inl ⟨by rfl, ?_⟩) ?_ ?_
            rotate_left
            ·intro w'
             go_simp
             with_reducible rfl
            rotate_left
            ·simp only [Act.put, List.setIfInBounds_toArray, List.set_cons_zero, List.set_cons_succ, i64_w, i32_w]
             rfl
            refine pure_ (i := 11) (N := some 59) (v := ?_) (a' := ?_) #[true, true, false, true, false, true, true, true, true, true, true, true, false, false, false, false, false, false, false, false, false, false, false, false, false, false, false, false, false, false, false] rfl rfl (any_of HT_.out (by kernel_rfl)) (fun _ _ _ h => h) (Or.inl ⟨by rfl, ?_⟩) ?_ ?_
            rotate_left
            ·intro w'
             go_simp
             with_reducible rfl
            rotate_left
            ·simp only [Act.put, List.setIfInBounds_toArray, List.set_cons_zero, List.set_cons_succ, i64_w, i32_w]
             rfl
            refine pure_ (i := 13) (N := some 61) (v := ?_) (a' := ?_) #[true, true, false, true, false, true, true, true, true, true, true, true, false, true, false, false, false, false, false, false, false, false, false, false, false, false, false, false, false, false, false] rfl rfl (any_of HT_.out (by kernel_rfl)) (fun _ _ _ h => h) (Or.inl ⟨by rfl, ?_⟩) ?_ ?_
            rotate_left
            ·intro w'
             go_simp
             with_reducible rfl
            rotate_left
            ·simp only [Act.put, List.setIfInBounds_toArray, List.set_cons_zero, List.set_cons_succ, i64_w, i32_w]
             rfl
            refine pure_ (i := 14) (N := some 62) (v := ?_) (a' := ?_) #[true, true, false, true, false, true, true, true, true, true, true, true, false, true, true, false, false, false, false, false, false, false, false, false, false, false, false, false, false, false, false] rfl rfl (any_of HT_.out (by kernel_rfl)) (fun _ _ _ h => h) (Or.inl ⟨by rfl, ?_⟩) ?_ ?_
            rotate_left
            ·intro w'
             go_simp
             with_reducible rfl
            rotate_left
            ·simp only [Act.put, List.setIfInBounds_toArray, List.set_cons_zero, List.set_cons_succ, i64_w, i32_w]
             rfl
            refine pure_ (i := 16) (N := some 64) (v := ?_) (a' := ?_) #[true, true, false, true, false, true, true, true, true, true, true, true, false, true, true, false, true, false, false, false, false, false, false, false, false, false, false, false, false, false, false] rfl rfl (any_of HT_.out (by kernel_rfl)) (fun _ _ _ h => h) (Or.inl ⟨by rfl, ?_⟩) ?_ ?_
            rotate_left
            ·intro w'
             go_simp
             with_reducible rfl
            rotate_left
            ·simp only [Act.put, List.setIfInBounds_toArray, List.set_cons_zero, List.set_cons_succ, i64_w, i32_w]
             rfl
            refine pure_ (i := 18) (N := some 66) (v := ?_) (a' := ?_) #[true, true, false, true, false, true, true, true, true, true, true, true, false, true, true, false, true, false, true, false, false, false, false, false, false, false, false, false, false, false, false] rfl rfl (any_of HT_.out (by kernel_rfl)) (fun _ _ _ h => h) (Or.inl ⟨by rfl, ?_⟩) ?_ ?_
            rotate_left
            ·intro w'
             go_simp
             with_reducible rfl
            rotate_left
            ·simp only [Act.put, List.setIfInBounds_toArray, List.set_cons_zero, List.set_cons_succ, i64_w, i32_w]
             rfl
            refine pure_ (i := 20) (N := some 68) (v := ?_) (a' := ?_) #[true, true, false, true, false, true, true, true, true, true, true, true, false, true, true, false, true, false, true, false, true, false, false, false, false, false, false, false, false, false, false] rfl rfl (any_of HT_.out (by kernel_rfl)) (fun _ _ _ h => h) (Or.inl ⟨by rfl, ?_⟩) ?_ ?_
            rotate_left
            ·intro w'
             go_simp
             with_reducible rfl
            rotate_left
            ·simp only [Act.put, List.setIfInBounds_toArray, List.set_cons_zero, List.set_cons_succ, i64_w, i32_w]
             rfl
            refine pure_ (i := 21) (N := some 69) (v := ?_) (a' := ?_) #[true, true, false, true, false, true, true, true, true, true, true, true, false, true, true, false, true, false, true, false, true, true, false, false, false, false, false, false, false, false, false] rfl rfl (any_of HT_.out (by kernel_rfl)) (fun _ _ _ h => h) (Or.inl ⟨by rfl, ?_⟩) ?_ ?_
            rotate_left
            ·intro w'
             go_simp
             with_reducible rfl
            rotate_left
            ·simp only [Act.put, List.setIfInBounds_toArray, List.set_cons_zero, List.set_cons_succ, i64_w, i32_w]
             rfl
            refine pure_ (i := 22) (N := some 70) (v := ?_) (a' := ?_) #[true, true, false, true, false, true, true, true, true, true, true, true, false, true, true, false, true, false, true, false, true, true, true, false, false, false, false, false, false, false, false] rfl rfl (any_of HT_.out (by kernel_rfl)) (fun _ _ _ h => h) (Or.inl ⟨by rfl, ?_⟩) ?_ ?_
            rotate_left
            ·intro w'
             go_simp
             with_reducible rfl
            rotate_left
            ·simp only [Act.put, List.setIfInBounds_toArray, List.set_cons_zero, List.set_cons_succ, i64_w, i32_w]
             rfl
            refine pure_ (i := 24) (N := some 72) (v := ?_) (a' := ?_) #[true, true, false, true, false, true, true, true, true, true, true, true, false, true, true, false, true, false, true, false, true, true, true, false, true, false, false, false, false, false, false] rfl rfl (any_of HT_.out (by kernel_rfl)) (fun _ _ _ h => h) (Or.inl ⟨by rfl, ?_⟩) ?_ ?_
            rotate_left
            ·intro w'
             go_simp
             with_reducible rfl
            rotate_left
            ·simp only [Act.put, List.setIfInBounds_toArray, List.set_cons_zero, List.set_cons_succ, i64_w, i32_w]
             rfl
            refine pure_ (i := 25) (N := some 73) (v := ?_) (a' := ?_) #[true, true, false, true, false, true, true, true, true, true, true, true, false, true, true, false, true, false, true, false, true, true, true, false, true, true, false, false, false, false, false] rfl rfl (any_of HT_.out (by kernel_rfl)) (fun _ _ _ h => h) (Or.inl ⟨by rfl, ?_⟩) ?_ ?_
            rotate_left
            ·intro w'
             go_simp
             with_reducible rfl
            rotate_left
            ·simp only [Act.put, List.setIfInBounds_toArray, List.set_cons_zero, List.set_cons_succ, i64_w, i32_w]
             rfl
            refine pure_ (i := 26) (N := some 74) (v := ?_) (a' := ?_) #[true, true, false, true, false, true, true, true, true, true, true, true, false, true, true, false, true, false, true, false, true, true, true, false, true, true, true, false, false, false, false] rfl rfl (any_of HT_.out (by kernel_rfl)) (fun _ _ _ h => h) (Or.inl ⟨by rfl, ?_⟩) ?_ ?_
            rotate_left
            ·intro w'
             go_simp
             with_reducible rfl
            rotate_left
            ·simp only [Act.put, List.setIfInBounds_toArray, List.set_cons_zero, List.set_cons_succ, i64_w, i32_w]
             rfl
            refine pure_ (i := 27) (N := some 75) (v := ?_) (a' := ?_) #[true, true, false, true, false, true, true, true, true, true, true, true, false, true, true, false, true, false, true, false, true, true, true, false, true, true, true, true, false, false, false] rfl rfl (any_of HT_.out (by kernel_rfl)) (fun _ _ _ h => h) (Or.inl ⟨by rfl, ?_⟩) ?_ ?_
            rotate_left
            ·intro w'
             go_simp
             with_reducible rfl
            rotate_left
            ·simp only [Act.put, List.setIfInBounds_toArray, List.set_cons_zero, List.set_cons_succ, i64_w, i32_w]
             rfl
            refine take_ (i := 2) (N := some 50) (v := ?_) (a' := ?_) #[true, true, true, true, false, true, true, true, true, true, true, true, false, true, true, false, true, false, true, false, true, true, true, false, true, true, true, true, false, false, false] rfl rfl (take_ofW HT_.out HW_.out (by kernel_rfl)) (fun _ _ _ h => h) (Or.inl ⟨by rfl, ?_⟩) hHeld ?_ ?_
            rotate_left
            ·rintro w' ⟨s0, s1, s2⟩
             go_simp
             with_reducible rfl
            rotate_left
            ·simp only [Act.put, List.setIfInBounds_toArray, List.set_cons_zero, List.set_cons_succ, i64_w, i32_w]
             rfl
            refine take_ (i := 12) (N := some 60) (v := ?_) (a' := ?_) #[true, true, true, true, false, true, true, true, true, true, true, true, true, true, true, false, true, false, true, false, true, true, true, false, true, true, true, true, false, false, false] rfl rfl (take_ofW HT_.out HW_.out (by kernel_rfl)) (fun _ _ _ h => h) (Or.inl ⟨by rfl, ?_⟩) hHeld ?_ ?_
            rotate_left
            ·rintro w' ⟨s0, s1, s2⟩
             go_simp
             with_reducible rfl
            rotate_left
            ·simp only [Act.put, List.setIfInBounds_toArray, List.set_cons_zero, List.set_cons_succ, i64_w, i32_w]
             rfl
            refine take_ (i := 15) (N := some 63) (v := ?_) (a' := ?_) #[true, true, true, true, false, true, true, true, true, true, true, true, true, true, true, true, true, false, true, false, true, true, true, false, true, true, true, true, false, false, false] rfl rfl (take_ofW HT_.out HW_.out (by kernel_rfl)) (fun _ _ _ h => h) (Or.inl ⟨by rfl, ?_⟩) hHeld ?_ ?_
            rotate_left
            ·rintro w' ⟨s0, s1, s2⟩
             go_simp
             with_reducible rfl
            rotate_left
            ·simp only [Act.put, List.setIfInBounds_toArray, List.set_cons_zero, List.set_cons_succ, i64_w, i32_w]
             rfl
            refine one_ (i := 4) (N := some 52) #[true, true, true, true, true, true, true, true, true, true, true, true, true, true, true, true, true, false, true, false, true, true, true, false, true, true, true, true, false, false, false] rfl rfl (one_of HT_.out (by kernel_rfl)) (by decide) (fun K hK => ?_)
            refine goes_ Try.func118 (by kernel_rfl) rfl #[.slice (some ad204) l0.length c0, .int .i64 4] (by rfl) rfl rfl (by (try simp only [List.map_toArray, List.map_cons, List.map_nil]); first | done | rfl | (simp only [List.length_drop, List.length_take]; rfl) | (go_simp; done) | (simp [Act.eval, IntKind.signed]; done) | (simp [Act.eval, IntKind.signed]; rfl)) ?_
            with_reducible refine (ip_reader_two.calls _ _ l0 4 t212 _ ?side1 ?side2 A22.out).mono ?_
            (case side1 => repeat (first | exact (Kd.C_below HR0.out HB.out) | (with_reducible refine Kd.C_alloc ?_ _) | (with_reducible refine Kd.C_drewN ?_ _) | (with_reducible refine Kd.C_drew ?_)))
            (case side2 => exact HC0.out)
            rintro e w' ⟨rfl, ⟨nd, rfl⟩⟩
            refine ⟨_, rfl, ?_⟩
            refine hK.out _ _ ⟨((HB.out.cell (World.block_lt_of_cell? w _ hw211_0)).trans hw211_0), ((HB.out.cell (World.block_lt_of_cell? w _ hw213_0)).trans hw213_0), ((HB.out.cell (World.block_lt_of_cell? w _ hw214_0)).trans hw214_0)⟩ (fun hHeld => ?_)
            clear hK K
            refine norm_ (a' := ?_) ?_ ?_
            rotate_left
            ·show Act.put _ (some 52) _ = _
             simp only [Act.put, List.setIfInBounds_toArray, List.set_cons_zero, List.set_cons_succ, i64_w, i32_w]
             rfl
            refine one_ (i := 17) (N := some 65) #[true, true, true, true, true, true, true, true, true, true, true, true, true, true, true, true, true, true, true, false, true, true, true, false, true, true, true, true, false, false, false] rfl rfl (one_of HT_.out (by kernel_rfl)) (by decide) (fun K hK => ?_)
            refine goes_ Try.func119 (by kernel_rfl) rfl #[.slice (some ad204) l0.length c0, .int .i64 12] (by rfl) rfl rfl (by (try simp only [List.map_toArray, List.map_cons, List.map_nil]); first | done | rfl | (simp only [List.length_drop, List.length_take]; rfl) | (go_simp; done) | (simp [Act.eval, IntKind.signed]; done) | (simp [Act.eval, IntKind.signed]; rfl)) ?_
            with_reducible refine (ip_reader_four.calls _ _ l0 12 t215 _ ?side1 ?side2 A25.out).mono ?_
            (case side1 => repeat (first | exact (Kd.C_below HR0.out (by repeat (first | (with_reducible first | exact HB.out | apply below_alloc | apply pw_below_drewN | apply below_drew1 | refine below_set ?_ GE203.out) | exact HB.out))) | (with_reducible refine Kd.C_alloc ?_ _) | (with_reducible refine Kd.C_drewN ?_ _) | (with_reducible refine Kd.C_drew ?_)))
            (case side2 => exact HC0.out)
            rintro e w' ⟨rfl, ⟨nd, rfl⟩⟩
            refine ⟨_, rfl, ?_⟩
            refine hK.out _ _ ⟨((HB.out.cell (World.block_lt_of_cell? w _ hw211_0)).trans hw211_0), ((HB.out.cell (World.block_lt_of_cell? w _ hw213_0)).trans hw213_0), ((HB.out.cell (World.block_lt_of_cell? w _ hw214_0)).trans hw214_0)⟩ (fun hHeld => ?_)
            clear hK K
            refine norm_ (a' := ?_) ?_ ?_
            rotate_left
            ·show Act.put _ (some 65) _ = _
             simp only [Act.put, List.setIfInBounds_toArray, List.set_cons_zero, List.set_cons_succ, i64_w, i32_w]
             rfl
            refine one_ (i := 19) (N := some 67) #[true, true, true, true, true, true, true, true, true, true, true, true, true, true, true, true, true, true, true, true, true, true, true, false, true, true, true, true, false, false, false] rfl rfl (one_of HT_.out (by kernel_rfl)) (by decide) (fun K hK => ?_)
            refine goes_ Try.func119 (by kernel_rfl) rfl #[.slice (some ad204) l0.length c0, .int .i64 16] (by rfl) rfl rfl (by (try simp only [List.map_toArray, List.map_cons, List.map_nil]); first | done | rfl | (simp only [List.length_drop, List.length_take]; rfl) | (go_simp; done) | (simp [Act.eval, IntKind.signed]; done) | (simp [Act.eval, IntKind.signed]; rfl)) ?_
            with_reducible refine (ip_reader_four.calls _ _ l0 16 t216 _ ?side1 ?side2 A26.out).mono ?_
            (case side1 => repeat (first | exact (Kd.C_below HR0.out (by repeat (first | (with_reducible first | exact HB.out | apply below_alloc | apply pw_below_drewN | apply below_drew1 | refine below_set ?_ GE203.out) | exact HB.out))) | (with_reducible refine Kd.C_alloc ?_ _) | (with_reducible refine Kd.C_drewN ?_ _) | (with_reducible refine Kd.C_drew ?_)))
            (case side2 => exact HC0.out)
            rintro e w' ⟨rfl, ⟨nd, rfl⟩⟩
            refine ⟨_, rfl, ?_⟩
            refine hK.out _ _ ⟨((HB.out.cell (World.block_lt_of_cell? w _ hw211_0)).trans hw211_0), ((HB.out.cell (World.block_lt_of_cell? w _ hw213_0)).trans hw213_0), ((HB.out.cell (World.block_lt_of_cell? w _ hw214_0)).trans hw214_0)⟩ (fun hHeld => ?_)
            clear hK K
            refine norm_ (a' := ?_) ?_ ?_
            rotate_left
            ·show Act.put _ (some 67) _ = _
             simp only [Act.put, List.setIfInBounds_toArray, List.set_cons_zero, List.set_cons_succ, i64_w, i32_w]
             rfl
            refine one_ (i := 23) (N := some 71) #[true, true, true, true, true, true, true, true, true, true, true, true, true, true, true, true, true, true, true, true, true, true, true, true, true, true, true, true, false, false, false] rfl rfl (one_of HT_.out (by kernel_rfl)) (by decide) (fun K hK => ?_)
            refine goes_ Try.func120 (by kernel_rfl) rfl #[.slice A37 ((l0.take ((ji14) : Int).toNat).drop 20).length (c0 - 20)] (by rfl) rfl rfl (by (try simp only [List.map_toArray, List.map_cons, List.map_nil]); first | done | (rw [show ((l0.take ((ji14) : Int).toNat).drop 20).length = ((ji14).toNat - 20) from (by rw [List.length_drop, List.length_take]; have h_ : ((ji14) : Int) ≤ (l0.length : Int) := of_decide_eq_true (by first | (with_reducible assumption) | assumption); omega)] <;> rfl) | (simp only [hji14]; rfl) | rfl | (simp only [List.length_drop, List.length_take]; rfl) | (go_simp; done) | (simp [Act.eval, IntKind.signed]; done) | (simp [Act.eval, IntKind.signed]; rfl)) ?_
            with_reducible refine (ip_reader_byte.calls _ _ ((l0.take ((ji14) : Int).toNat).drop 20) t218 _ ?side1 ?side2 A29.out).mono ?_
            (case side1 => repeat (first | exact (Kd.C_below HR217.out (by repeat (first | (with_reducible first | exact HB.out | apply below_alloc | apply pw_below_drewN | apply below_drew1 | refine below_set ?_ GE203.out) | exact HB.out))) | (with_reducible refine Kd.C_alloc ?_ _) | (with_reducible refine Kd.C_drewN ?_ _) | (with_reducible refine Kd.C_drew ?_)))
            (case side2 => exact HC217.out)
            rintro e w39 ⟨v219, rfl, ho0, hb⟩
            refine ⟨_, rfl, ?_⟩
            have n0_ := Aside0.mk (Kd.R_lower ho0 (below_size (by repeat (first | (with_reducible first | exact HB.out | apply below_alloc | apply pw_below_drewN | apply below_drew1 | refine below_set ?_ GE203.out) | exact HB.out))))
            have n1_ := Aside0.mk (blk_below (g := gb203) (o := .cells #[.int .u8 0, .int .u8 0, .int .u8 0, .int .u16 0, .int .u8 0, .int .u16 0, .int .u32 0, .int .u32 0, .slice none 0 0, .slice none 0 0] 73 (0, 0)) (by (with_reducible repeat (first | refine blk_drewN ?_ _ | refine blk_drew ?_ | refine blk_alloc ?_ _)); exact BK203.out) hb)
            have n2_ := Aside0.mk (below_step (by repeat (first | (with_reducible first | exact HB.out | apply below_alloc | apply pw_below_drewN | apply below_drew1 | refine below_set ?_ GE203.out) | exact HB.out)) hb)
            clear BK203
            clear HB
            have HO220 := n0_
            have BK203 := n1_
            have HB := n2_
            clear n0_ n1_ n2_
            (try clear hb)
            (try clear hb2)
            (try clear hk)
            (try clear hi)
            (try clear ho0)
            refine hK.out _ _ ⟨((HB.out.cell (World.block_lt_of_cell? w _ hw211_0)).trans hw211_0), ((HB.out.cell (World.block_lt_of_cell? w _ hw213_0)).trans hw213_0), ((HB.out.cell (World.block_lt_of_cell? w _ hw214_0)).trans hw214_0)⟩ (fun hHeld => ?_)
            clear hK K
            refine norm_ (a' := ?_) ?_ ?_
            rotate_left
            ·show Act.put _ (some 71) _ = _
             simp only [Act.put, List.setIfInBounds_toArray, List.set_cons_zero, List.set_cons_succ, i64_w, i32_w]
             rfl
            refine one_ (i := 28) (N := some 76) #[true, true, true, true, true, true, true, true, true, true, true, true, true, true, true, true, true, true, true, true, true, true, true, true, true, true, true, true, true, false, false] rfl rfl (one_of HT_.out (by kernel_rfl)) (by decide) (fun K hK => ?_)
            refine goes_ Try.func120 (by kernel_rfl) rfl #[.slice A38 ((l0.take ((wrap64 (t205)) : Int).toNat).drop ((ji14) : Int).toNat).length (c0 - (ji14).toNat)] (by rfl) rfl rfl (by (try simp only [List.map_toArray, List.map_cons, List.map_nil]); first | done | (rw [show ((l0.take ((wrap64 (t205)) : Int).toNat).drop ((ji14) : Int).toNat).length = ((wrap64 (t205)).toNat - (ji14).toNat) from (by rw [List.length_drop, List.length_take]; have h_ : ((wrap64 (t205)) : Int) ≤ (l0.length : Int) := of_decide_eq_true (by first | (with_reducible assumption) | assumption); omega)] <;> rfl) | (simp only [hji14]; rfl) | rfl | (simp only [List.length_drop, List.length_take]; rfl) | (go_simp; done) | (simp [Act.eval, IntKind.signed]; done) | (simp [Act.eval, IntKind.signed]; rfl)) ?_
            with_reducible refine (ip_reader_byte.calls _ _ ((l0.take ((wrap64 (t205)) : Int).toNat).drop ((ji14) : Int).toNat) t222 _ ?side1 ?side2 A33.out).mono ?_
            (case side1 => repeat (first | exact (Kd.C_below HR221.out HB.out) | (with_reducible refine Kd.C_alloc ?_ _) | (with_reducible refine Kd.C_drewN ?_ _) | (with_reducible refine Kd.C_drew ?_)))
            (case side2 => exact HC221.out)
            rintro e w40 ⟨v223, rfl, ho0, hb⟩
            refine ⟨_, rfl, ?_⟩
            have n0_ := Aside0.mk (Kd.R_elder' (by (with_reducible repeat (first | apply Kd.R_alloc | apply Kd.R_drewN | apply Kd.R_drew)); exact HO220.out) (Kd.R_base ho0) hb)
            have n1_ := Aside0.mk (Kd.R_lower (Kd.R_new' ho0 (Kd.R_lt (by (with_reducible repeat (first | apply Kd.R_alloc | apply Kd.R_drewN | apply Kd.R_drew)); exact HO220.out))) (below_size (by repeat (first | (with_reducible first | exact HB.out | apply below_alloc | apply pw_below_drewN | apply below_drew1 | refine below_set ?_ GE203.out) | exact HB.out))))
            have n2_ := Aside0.mk (blk_below (g := gb203) (o := .cells #[.int .u8 0, .int .u8 0, .int .u8 0, .int .u16 0, .int .u8 0, .int .u16 0, .int .u32 0, .int .u32 0, .slice none 0 0, .slice none 0 0] 73 (0, 0)) (by (with_reducible repeat (first | refine blk_drewN ?_ _ | refine blk_drew ?_ | refine blk_alloc ?_ _)); exact BK203.out) hb)
            have n3_ := Aside0.mk (below_step (by repeat (first | (with_reducible first | exact HB.out | apply below_alloc | apply pw_below_drewN | apply below_drew1 | refine below_set ?_ GE203.out) | exact HB.out)) hb)
            clear HO220
            clear BK203
            clear HB
            have HO220 := n0_
            have HO224 := n1_
            have BK203 := n2_
            have HB := n3_
            clear n0_ n1_ n2_ n3_
            (try clear hb)
            (try clear hb2)
            (try clear hk)
            (try clear hi)
            (try clear ho0)
            obtain ⟨Ao41, co41, eo41⟩ := Kd.R_slice HO224.out
            (first | subst eo41 | (injection eo41 with f1_ f2_ f3_; have f4_ := f1_.symm; have f5_ := f3_.symm; clear f1_ f2_ f3_; subst f4_; subst f5_))
            obtain ⟨Ao42, co42, eo42⟩ := Kd.R_slice HO220.out
            (first | subst eo42 | (injection eo42 with f1_ f2_ f3_; have f4_ := f1_.symm; have f5_ := f3_.symm; clear f1_ f2_ f3_; subst f4_; subst f5_))
            refine hK.out _ _ ⟨((HB.out.cell (World.block_lt_of_cell? w _ hw211_0)).trans hw211_0), ((HB.out.cell (World.block_lt_of_cell? w _ hw213_0)).trans hw213_0), ((HB.out.cell (World.block_lt_of_cell? w _ hw214_0)).trans hw214_0)⟩ (fun hHeld => ?_)
            clear hK K
            refine norm_ (a' := ?_) ?_ ?_
            rotate_left
            ·show Act.put _ (some 76) _ = _
             simp only [Act.put, List.setIfInBounds_toArray, List.set_cons_zero, List.set_cons_succ, i64_w, i32_w]
             rfl
            refine pure_ (i := 29) (N := some 77) (v := ?_) (a' := ?_) #[true, true, true, true, true, true, true, true, true, true, true, true, true, true, true, true, true, true, true, true, true, true, true, true, true, true, true, true, true, true, false] rfl rfl (any_of HT_.out (by kernel_rfl)) (fun _ _ _ h => h) (Or.inl ⟨by rfl, ?_⟩) ?_ ?_
            rotate_left
            ·intro w'
             go_simp
             with_reducible rfl
            rotate_left
            ·simp only [Act.put, List.setIfInBounds_toArray, List.set_cons_zero, List.set_cons_succ, i64_w, i32_w]
             rfl
            refine one_ (i := 30) (N := none) #[true, true, true, true, true, true, true, true, true, true, true, true, true, true, true, true, true, true, true, true, true, true, true, true, true, true, true, true, true, true, true] rfl rfl (one_of HT_.out (by kernel_rfl)) (by decide) (fun K hK => ?_)
            have hs43 : w40.cell? ⟨gb203, 0, none⟩ = some (.int .u8 0) := (blk_cell BK203.out 0).trans rfl
            have hfs43 := blk_frozen BK203.out 0
            have hs44 : w40.cell? ⟨gb203, 1, none⟩ = some (.int .u8 0) := (blk_cell BK203.out 1).trans rfl
            have hfs44 := blk_frozen BK203.out 1
            have hs45 : w40.cell? ⟨gb203, 2, none⟩ = some (.int .u8 0) := (blk_cell BK203.out 2).trans rfl
            have hfs45 := blk_frozen BK203.out 2
            have hs46 : w40.cell? ⟨gb203, 3, none⟩ = some (.int .u16 0) := (blk_cell BK203.out 3).trans rfl
            have hfs46 := blk_frozen BK203.out 3
            have hs47 : w40.cell? ⟨gb203, 4, none⟩ = some (.int .u8 0) := (blk_cell BK203.out 4).trans rfl
            have hfs47 := blk_frozen BK203.out 4
            have hs48 : w40.cell? ⟨gb203, 5, none⟩ = some (.int .u16 0) := (blk_cell BK203.out 5).trans rfl
            have hfs48 := blk_frozen BK203.out 5
            have hs49 : w40.cell? ⟨gb203, 6, none⟩ = some (.int .u32 0) := (blk_cell BK203.out 6).trans rfl
            have hfs49 := blk_frozen BK203.out 6
            have hs50 : w40.cell? ⟨gb203, 7, none⟩ = some (.int .u32 0) := (blk_cell BK203.out 7).trans rfl
            have hfs50 := blk_frozen BK203.out 7
            have hs51 : w40.cell? ⟨gb203, 8, none⟩ = some (.slice none 0 0) := (blk_cell BK203.out 8).trans rfl
            have hfs51 := blk_frozen BK203.out 8
            have hs52 : w40.cell? ⟨gb203, 9, none⟩ = some (.slice none 0 0) := (blk_cell BK203.out 9).trans rfl
            have hfs52 := blk_frozen BK203.out 9
            refine skip_ (w1 := ?_) (by rfl) rfl ?_ ?_
            rotate_left
            ·go_simp
             rfl
            refine hK.out _ _ ⟨((cell_far (p := ⟨gb203, _, none⟩) (by first | exact Nat.ne_of_lt (Nat.lt_of_lt_of_le (by have := World.block_lt_of_cell? _ _ hw211_0; first | rwa [add_block] at this | exact this) GW203.out) | (rw [add_block]; exact Nat.ne_of_lt (Nat.lt_of_lt_of_le (by have := World.block_lt_of_cell? _ _ hw211_0; first | rwa [add_block] at this | exact this) GW203.out)) | (show (Addr.add _ _).block ≠ _; rw [add_block]; exact Nat.ne_of_lt (Nat.lt_of_lt_of_le (by have := World.block_lt_of_cell? _ _ hw211_0; first | rwa [add_block] at this | exact this) GW203.out)) | (dsimp only; exact Nat.ne_of_lt (Nat.lt_of_lt_of_le (by have := World.block_lt_of_cell? _ _ hw211_0; first | rwa [add_block] at this | exact this) GW203.out))) _).trans (((cell_far (p := ⟨gb203, _, none⟩) (by first | exact Nat.ne_of_lt (Nat.lt_of_lt_of_le (by have := World.block_lt_of_cell? _ _ hw211_0; first | rwa [add_block] at this | exact this) GW203.out) | (rw [add_block]; exact Nat.ne_of_lt (Nat.lt_of_lt_of_le (by have := World.block_lt_of_cell? _ _ hw211_0; first | rwa [add_block] at this | exact this) GW203.out)) | (show (Addr.add _ _).block ≠ _; rw [add_block]; exact Nat.ne_of_lt (Nat.lt_of_lt_of_le (by have := World.block_lt_of_cell? _ _ hw211_0; first | rwa [add_block] at this | exact this) GW203.out)) | (dsimp only; exact Nat.ne_of_lt (Nat.lt_of_lt_of_le (by have := World.block_lt_of_cell? _ _ hw211_0; first | rwa [add_block] at this | exact this) GW203.out))) _).trans (((cell_far (p := ⟨gb203, _, none⟩) (by first | exact Nat.ne_of_lt (Nat.lt_of_lt_of_le (by have := World.block_lt_of_cell? _ _ hw211_0; first | rwa [add_block] at this | exact this) GW203.out) | (rw [add_block]; exact Nat.ne_of_lt (Nat.lt_of_lt_of_le (by have := World.block_lt_of_cell? _ _ hw211_0; first | rwa [add_block] at this | exact this) GW203.out)) | (show (Addr.add _ _).block ≠ _; rw [add_block]; exact Nat.ne_of_lt (Nat.lt_of_lt_of_le (by have := World.block_lt_of_cell? _ _ hw211_0; first | rwa [add_block] at this | exact this) GW203.out)) | (dsimp only; exact Nat.ne_of_lt (Nat.lt_of_lt_of_le (by have := World.block_lt_of_cell? _ _ hw211_0; first | rwa [add_block] at this | exact this) GW203.out))) _).trans (((cell_far (p := ⟨gb203, _, none⟩) (by first | exact Nat.ne_of_lt (Nat.lt_of_lt_of_le (by have := World.block_lt_of_cell? _ _ hw211_0; first | rwa [add_block] at this | exact this) GW203.out) | (rw [add_block]; exact Nat.ne_of_lt (Nat.lt_of_lt_of_le (by have := World.block_lt_of_cell? _ _ hw211_0; first | rwa [add_block] at this | exact this) GW203.out)) | (show (Addr.add _ _).block ≠ _; rw [add_block]; exact Nat.ne_of_lt (Nat.lt_of_lt_of_le (by have := World.block_lt_of_cell? _ _ hw211_0; first | rwa [add_block] at this | exact this) GW203.out)) | (dsimp only; exact Nat.ne_of_lt (Nat.lt_of_lt_of_le (by have := World.block_lt_of_cell? _ _ hw211_0; first | rwa [add_block] at this | exact this) GW203.out))) _).trans (((cell_far (p := ⟨gb203, _, none⟩) (by first | exact Nat.ne_of_lt (Nat.lt_of_lt_of_le (by have := World.block_lt_of_cell? _ _ hw211_0; first | rwa [add_block] at this | exact this) GW203.out) | (rw [add_block]; exact Nat.ne_of_lt (Nat.lt_of_lt_of_le (by have := World.block_lt_of_cell? _ _ hw211_0; first | rwa [add_block] at this | exact this) GW203.out)) | (show (Addr.add _ _).block ≠ _; rw [add_block]; exact Nat.ne_of_lt (Nat.lt_of_lt_of_le (by have := World.block_lt_of_cell? _ _ hw211_0; first | rwa [add_block] at this | exact this) GW203.out)) | (dsimp only; exact Nat.ne_of_lt (Nat.lt_of_lt_of_le (by have := World.block_lt_of_cell? _ _ hw211_0; first | rwa [add_block] at this | exact this) GW203.out))) _).trans (((cell_far (p := ⟨gb203, _, none⟩) (by first | exact Nat.ne_of_lt (Nat.lt_of_lt_of_le (by have := World.block_lt_of_cell? _ _ hw211_0; first | rwa [add_block] at this | exact this) GW203.out) | (rw [add_block]; exact Nat.ne_of_lt (Nat.lt_of_lt_of_le (by have := World.block_lt_of_cell? _ _ hw211_0; first | rwa [add_block] at this | exact this) GW203.out)) | (show (Addr.add _ _).block ≠ _; rw [add_block]; exact Nat.ne_of_lt (Nat.lt_of_lt_of_le (by have := World.block_lt_of_cell? _ _ hw211_0; first | rwa [add_block] at this | exact this) GW203.out)) | (dsimp only; exact Nat.ne_of_lt (Nat.lt_of_lt_of_le (by have := World.block_lt_of_cell? _ _ hw211_0; first | rwa [add_block] at this | exact this) GW203.out))) _).trans (((cell_far (p := ⟨gb203, _, none⟩) (by first | exact Nat.ne_of_lt (Nat.lt_of_lt_of_le (by have := World.block_lt_of_cell? _ _ hw211_0; first | rwa [add_block] at this | exact this) GW203.out) | (rw [add_block]; exact Nat.ne_of_lt (Nat.lt_of_lt_of_le (by have := World.block_lt_of_cell? _ _ hw211_0; first | rwa [add_block] at this | exact this) GW203.out)) | (show (Addr.add _ _).block ≠ _; rw [add_block]; exact Nat.ne_of_lt (Nat.lt_of_lt_of_le (by have := World.block_lt_of_cell? _ _ hw211_0; first | rwa [add_block] at this | exact this) GW203.out)) | (dsimp only; exact Nat.ne_of_lt (Nat.lt_of_lt_of_le (by have := World.block_lt_of_cell? _ _ hw211_0; first | rwa [add_block] at this | exact this) GW203.out))) _).trans (((cell_far (p := ⟨gb203, _, none⟩) (by first | exact Nat.ne_of_lt (Nat.lt_of_lt_of_le (by have := World.block_lt_of_cell? _ _ hw211_0; first | rwa [add_block] at this | exact this) GW203.out) | (rw [add_block]; exact Nat.ne_of_lt (Nat.lt_of_lt_of_le (by have := World.block_lt_of_cell? _ _ hw211_0; first | rwa [add_block] at this | exact this) GW203.out)) | (show (Addr.add _ _).block ≠ _; rw [add_block]; exact Nat.ne_of_lt (Nat.lt_of_lt_of_le (by have := World.block_lt_of_cell? _ _ hw211_0; first | rwa [add_block] at this | exact this) GW203.out)) | (dsimp only; exact Nat.ne_of_lt (Nat.lt_of_lt_of_le (by have := World.block_lt_of_cell? _ _ hw211_0; first | rwa [add_block] at this | exact this) GW203.out))) _).trans (((cell_far (p := ⟨gb203, _, none⟩) (by first | exact Nat.ne_of_lt (Nat.lt_of_lt_of_le (by have := World.block_lt_of_cell? _ _ hw211_0; first | rwa [add_block] at this | exact this) GW203.out) | (rw [add_block]; exact Nat.ne_of_lt (Nat.lt_of_lt_of_le (by have := World.block_lt_of_cell? _ _ hw211_0; first | rwa [add_block] at this | exact this) GW203.out)) | (show (Addr.add _ _).block ≠ _; rw [add_block]; exact Nat.ne_of_lt (Nat.lt_of_lt_of_le (by have := World.block_lt_of_cell? _ _ hw211_0; first | rwa [add_block] at this | exact this) GW203.out)) | (dsimp only; exact Nat.ne_of_lt (Nat.lt_of_lt_of_le (by have := World.block_lt_of_cell? _ _ hw211_0; first | rwa [add_block] at this | exact this) GW203.out))) _).trans (((cell_far (p := ⟨gb203, _, none⟩) (by first | exact Nat.ne_of_lt (Nat.lt_of_lt_of_le (by have := World.block_lt_of_cell? _ _ hw211_0; first | rwa [add_block] at this | exact this) GW203.out) | (rw [add_block]; exact Nat.ne_of_lt (Nat.lt_of_lt_of_le (by have := World.block_lt_of_cell? _ _ hw211_0; first | rwa [add_block] at this | exact this) GW203.out)) | (show (Addr.add _ _).block ≠ _; rw [add_block]; exact Nat.ne_of_lt (Nat.lt_of_lt_of_le (by have := World.block_lt_of_cell? _ _ hw211_0; first | rwa [add_block] at this | exact this) GW203.out)) | (dsimp only; exact Nat.ne_of_lt (Nat.lt_of_lt_of_le (by have := World.block_lt_of_cell? _ _ hw211_0; first | rwa [add_block] at this | exact this) GW203.out))) _).trans (hHeld.1)))))))))))))))))))), ((cell_far (p := ⟨gb203, _, none⟩) (by first | exact Nat.ne_of_lt (Nat.lt_of_lt_of_le (by have := World.block_lt_of_cell? _ _ hw213_0; first | rwa [add_block] at this | exact this) GW203.out) | (rw [add_block]; exact Nat.ne_of_lt (Nat.lt_of_lt_of_le (by have := World.block_lt_of_cell? _ _ hw213_0; first | rwa [add_block] at this | exact this) GW203.out)) | (show (Addr.add _ _).block ≠ _; rw [add_block]; exact Nat.ne_of_lt (Nat.lt_of_lt_of_le (by have := World.block_lt_of_cell? _ _ hw213_0; first | rwa [add_block] at this | exact this) GW203.out)) | (dsimp only; exact Nat.ne_of_lt (Nat.lt_of_lt_of_le (by have := World.block_lt_of_cell? _ _ hw213_0; first | rwa [add_block] at this | exact this) GW203.out))) _).trans (((cell_far (p := ⟨gb203, _, none⟩) (by first | exact Nat.ne_of_lt (Nat.lt_of_lt_of_le (by have := World.block_lt_of_cell? _ _ hw213_0; first | rwa [add_block] at this | exact this) GW203.out) | (rw [add_block]; exact Nat.ne_of_lt (Nat.lt_of_lt_of_le (by have := World.block_lt_of_cell? _ _ hw213_0; first | rwa [add_block] at this | exact this) GW203.out)) | (show (Addr.add _ _).block ≠ _; rw [add_block]; exact Nat.ne_of_lt (Nat.lt_of_lt_of_le (by have := World.block_lt_of_cell? _ _ hw213_0; first | rwa [add_block] at this | exact this) GW203.out)) | (dsimp only; exact Nat.ne_of_lt (Nat.lt_of_lt_of_le (by have := World.block_lt_of_cell? _ _ hw213_0; first | rwa [add_block] at this | exact this) GW203.out))) _).trans (((cell_far (p := ⟨gb203, _, none⟩) (by first | exact Nat.ne_of_lt (Nat.lt_of_lt_of_le (by have := World.block_lt_of_cell? _ _ hw213_0; first | rwa [add_block] at this | exact this) GW203.out) | (rw [add_block]; exact Nat.ne_of_lt (Nat.lt_of_lt_of_le (by have := World.block_lt_of_cell? _ _ hw213_0; first | rwa [add_block] at this | exact this) GW203.out)) | (show (Addr.add _ _).block ≠ _; rw [add_block]; exact Nat.ne_of_lt (Nat.lt_of_lt_of_le (by have := World.block_lt_of_cell? _ _ hw213_0; first | rwa [add_block] at this | exact this) GW203.out)) | (dsimp only; exact Nat.ne_of_lt (Nat.lt_of_lt_of_le (by have := World.block_lt_of_cell? _ _ hw213_0; first | rwa [add_block] at this | exact this) GW203.out))) _).trans (((cell_far (p := ⟨gb203, _, none⟩) (by first | exact Nat.ne_of_lt (Nat.lt_of_lt_of_le (by have := World.block_lt_of_cell? _ _ hw213_0; first | rwa [add_block] at this | exact this) GW203.out) | (rw [add_block]; exact Nat.ne_of_lt (Nat.lt_of_lt_of_le (by have := World.block_lt_of_cell? _ _ hw213_0; first | rwa [add_block] at this | exact this) GW203.out)) | (show (Addr.add _ _).block ≠ _; rw [add_block]; exact Nat.ne_of_lt (Nat.lt_of_lt_of_le (by have := World.block_lt_of_cell? _ _ hw213_0; first | rwa [add_block] at this | exact this) GW203.out)) | (dsimp only; exact Nat.ne_of_lt (Nat.lt_of_lt_of_le (by have := World.block_lt_of_cell? _ _ hw213_0; first | rwa [add_block] at this | exact this) GW203.out))) _).trans (((cell_far (p := ⟨gb203, _, none⟩) (by first | exact Nat.ne_of_lt (Nat.lt_of_lt_of_le (by have := World.block_lt_of_cell? _ _ hw213_0; first | rwa [add_block] at this | exact this) GW203.out) | (rw [add_block]; exact Nat.ne_of_lt (Nat.lt_of_lt_of_le (by have := World.block_lt_of_cell? _ _ hw213_0; first | rwa [add_block] at this | exact this) GW203.out)) | (show (Addr.add _ _).block ≠ _; rw [add_block]; exact Nat.ne_of_lt (Nat.lt_of_lt_of_le (by have := World.block_lt_of_cell? _ _ hw213_0; first | rwa [add_block] at this | exact this) GW203.out)) | (dsimp only; exact Nat.ne_of_lt (Nat.lt_of_lt_of_le (by have := World.block_lt_of_cell? _ _ hw213_0; first | rwa [add_block] at this | exact this) GW203.out))) _).trans (((cell_far (p := ⟨gb203, _, none⟩) (by first | exact Nat.ne_of_lt (Nat.lt_of_lt_of_le (by have := World.block_lt_of_cell? _ _ hw213_0; first | rwa [add_block] at this | exact this) GW203.out) | (rw [add_block]; exact Nat.ne_of_lt (Nat.lt_of_lt_of_le (by have := World.block_lt_of_cell? _ _ hw213_0; first | rwa [add_block] at this | exact this) GW203.out)) | (show (Addr.add _ _).block ≠ _; rw [add_block]; exact Nat.ne_of_lt (Nat.lt_of_lt_of_le (by have := World.block_lt_of_cell? _ _ hw213_0; first | rwa [add_block] at this | exact this) GW203.out)) | (dsimp only; exact Nat.ne_of_lt (Nat.lt_of_lt_of_le (by have := World.block_lt_of_cell? _ _ hw213_0; first | rwa [add_block] at this | exact this) GW203.out))) _).trans (((cell_far (p := ⟨gb203, _, none⟩) (by first | exact Nat.ne_of_lt (Nat.lt_of_lt_of_le (by have := World.block_lt_of_cell? _ _ hw213_0; first | rwa [add_block] at this | exact this) GW203.out) | (rw [add_block]; exact Nat.ne_of_lt (Nat.lt_of_lt_of_le (by have := World.block_lt_of_cell? _ _ hw213_0; first | rwa [add_block] at this | exact this) GW203.out)) | (show (Addr.add _ _).block ≠ _; rw [add_block]; exact Nat.ne_of_lt (Nat.lt_of_lt_of_le (by have := World.block_lt_of_cell? _ _ hw213_0; first | rwa [add_block] at this | exact this) GW203.out)) | (dsimp only; exact Nat.ne_of_lt (Nat.lt_of_lt_of_le (by have := World.block_lt_of_cell? _ _ hw213_0; first | rwa [add_block] at this | exact this) GW203.out))) _).trans (((cell_far (p := ⟨gb203, _, none⟩) (by first | exact Nat.ne_of_lt (Nat.lt_of_lt_of_le (by have := World.block_lt_of_cell? _ _ hw213_0; first | rwa [add_block] at this | exact this) GW203.out) | (rw [add_block]; exact Nat.ne_of_lt (Nat.lt_of_lt_of_le (by have := World.block_lt_of_cell? _ _ hw213_0; first | rwa [add_block] at this | exact this) GW203.out)) | (show (Addr.add _ _).block ≠ _; rw [add_block]; exact Nat.ne_of_lt (Nat.lt_of_lt_of_le (by have := World.block_lt_of_cell? _ _ hw213_0; first | rwa [add_block] at this | exact this) GW203.out)) | (dsimp only; exact Nat.ne_of_lt (Nat.lt_of_lt_of_le (by have := World.block_lt_of_cell? _ _ hw213_0; first | rwa [add_block] at this | exact this) GW203.out))) _).trans (((cell_far (p := ⟨gb203, _, none⟩) (by first | exact Nat.ne_of_lt (Nat.lt_of_lt_of_le (by have := World.block_lt_of_cell? _ _ hw213_0; first | rwa [add_block] at this | exact this) GW203.out) | (rw [add_block]; exact Nat.ne_of_lt (Nat.lt_of_lt_of_le (by have := World.block_lt_of_cell? _ _ hw213_0; first | rwa [add_block] at this | exact this) GW203.out)) | (show (Addr.add _ _).block ≠ _; rw [add_block]; exact Nat.ne_of_lt (Nat.lt_of_lt_of_le (by have := World.block_lt_of_cell? _ _ hw213_0; first | rwa [add_block] at this | exact this) GW203.out)) | (dsimp only; exact Nat.ne_of_lt (Nat.lt_of_lt_of_le (by have := World.block_lt_of_cell? _ _ hw213_0; first | rwa [add_block] at this | exact this) GW203.out))) _).trans (((cell_far (p := ⟨gb203, _, none⟩) (by first | exact Nat.ne_of_lt (Nat.lt_of_lt_of_le (by have := World.block_lt_of_cell? _ _ hw213_0; first | rwa [add_block] at this | exact this) GW203.out) | (rw [add_block]; exact Nat.ne_of_lt (Nat.lt_of_lt_of_le (by have := World.block_lt_of_cell? _ _ hw213_0; first | rwa [add_block] at this | exact this) GW203.out)) | (show (Addr.add _ _).block ≠ _; rw [add_block]; exact Nat.ne_of_lt (Nat.lt_of_lt_of_le (by have := World.block_lt_of_cell? _ _ hw213_0; first | rwa [add_block] at this | exact this) GW203.out)) | (dsimp only; exact Nat.ne_of_lt (Nat.lt_of_lt_of_le (by have := World.block_lt_of_cell? _ _ hw213_0; first | rwa [add_block] at this | exact this) GW203.out))) _).trans (hHeld.2.1)))))))))))))))))))), ((cell_far (p := ⟨gb203, _, none⟩) (by first | exact Nat.ne_of_lt (Nat.lt_of_lt_of_le (by have := World.block_lt_of_cell? _ _ hw214_0; first | rwa [add_block] at this | exact this) GW203.out) | (rw [add_block]; exact Nat.ne_of_lt (Nat.lt_of_lt_of_le (by have := World.block_lt_of_cell? _ _ hw214_0; first | rwa [add_block] at this | exact this) GW203.out)) | (show (Addr.add _ _).block ≠ _; rw [add_block]; exact Nat.ne_of_lt (Nat.lt_of_lt_of_le (by have := World.block_lt_of_cell? _ _ hw214_0; first | rwa [add_block] at this | exact this) GW203.out)) | (dsimp only; exact Nat.ne_of_lt (Nat.lt_of_lt_of_le (by have := World.block_lt_of_cell? _ _ hw214_0; first | rwa [add_block] at this | exact this) GW203.out))) _).trans (((cell_far (p := ⟨gb203, _, none⟩) (by first | exact Nat.ne_of_lt (Nat.lt_of_lt_of_le (by have := World.block_lt_of_cell? _ _ hw214_0; first | rwa [add_block] at this | exact this) GW203.out) | (rw [add_block]; exact Nat.ne_of_lt (Nat.lt_of_lt_of_le (by have := World.block_lt_of_cell? _ _ hw214_0; first | rwa [add_block] at this | exact this) GW203.out)) | (show (Addr.add _ _).block ≠ _; rw [add_block]; exact Nat.ne_of_lt (Nat.lt_of_lt_of_le (by have := World.block_lt_of_cell? _ _ hw214_0; first | rwa [add_block] at this | exact this) GW203.out)) | (dsimp only; exact Nat.ne_of_lt (Nat.lt_of_lt_of_le (by have := World.block_lt_of_cell? _ _ hw214_0; first | rwa [add_block] at this | exact this) GW203.out))) _).trans (((cell_far (p := ⟨gb203, _, none⟩) (by first | exact Nat.ne_of_lt (Nat.lt_of_lt_of_le (by have := World.block_lt_of_cell? _ _ hw214_0; first | rwa [add_block] at this | exact this) GW203.out) | (rw [add_block]; exact Nat.ne_of_lt (Nat.lt_of_lt_of_le (by have := World.block_lt_of_cell? _ _ hw214_0; first | rwa [add_block] at this | exact this) GW203.out)) | (show (Addr.add _ _).block ≠ _; rw [add_block]; exact Nat.ne_of_lt (Nat.lt_of_lt_of_le (by have := World.block_lt_of_cell? _ _ hw214_0; first | rwa [add_block] at this | exact this) GW203.out)) | (dsimp only; exact Nat.ne_of_lt (Nat.lt_of_lt_of_le (by have := World.block_lt_of_cell? _ _ hw214_0; first | rwa [add_block] at this | exact this) GW203.out))) _).trans (((cell_far (p := ⟨gb203, _, none⟩) (by first | exact Nat.ne_of_lt (Nat.lt_of_lt_of_le (by have := World.block_lt_of_cell? _ _ hw214_0; first | rwa [add_block] at this | exact this) GW203.out) | (rw [add_block]; exact Nat.ne_of_lt (Nat.lt_of_lt_of_le (by have := World.block_lt_of_cell? _ _ hw214_0; first | rwa [add_block] at this | exact this) GW203.out)) | (show (Addr.add _ _).block ≠ _; rw [add_block]; exact Nat.ne_of_lt (Nat.lt_of_lt_of_le (by have := World.block_lt_of_cell? _ _ hw214_0; first | rwa [add_block] at this | exact this) GW203.out)) | (dsimp only; exact Nat.ne_of_lt (Nat.lt_of_lt_of_le (by have := World.block_lt_of_cell? _ _ hw214_0; first | rwa [add_block] at this | exact this) GW203.out))) _).trans (((cell_far (p := ⟨gb203, _, none⟩) (by first | exact Nat.ne_of_lt (Nat.lt_of_lt_of_le (by have := World.block_lt_of_cell? _ _ hw214_0; first | rwa [add_block] at this | exact this) GW203.out) | (rw [add_block]; exact Nat.ne_of_lt (Nat.lt_of_lt_of_le (by have := World.block_lt_of_cell? _ _ hw214_0; first | rwa [add_block] at this | exact this) GW203.out)) | (show (Addr.add _ _).block ≠ _; rw [add_block]; exact Nat.ne_of_lt (Nat.lt_of_lt_of_le (by have := World.block_lt_of_cell? _ _ hw214_0; first | rwa [add_block] at this | exact this) GW203.out)) | (dsimp only; exact Nat.ne_of_lt (Nat.lt_of_lt_of_le (by have := World.block_lt_of_cell? _ _ hw214_0; first | rwa [add_block] at this | exact this) GW203.out))) _).trans (((cell_far (p := ⟨gb203, _, none⟩) (by first | exact Nat.ne_of_lt (Nat.lt_of_lt_of_le (by have := World.block_lt_of_cell? _ _ hw214_0; first | rwa [add_block] at this | exact this) GW203.out) | (rw [add_block]; exact Nat.ne_of_lt (Nat.lt_of_lt_of_le (by have := World.block_lt_of_cell? _ _ hw214_0; first | rwa [add_block] at this | exact this) GW203.out)) | (show (Addr.add _ _).block ≠ _; rw [add_block]; exact Nat.ne_of_lt (Nat.lt_of_lt_of_le (by have := World.block_lt_of_cell? _ _ hw214_0; first | rwa [add_block] at this | exact this) GW203.out)) | (dsimp only; exact Nat.ne_of_lt (Nat.lt_of_lt_of_le (by have := World.block_lt_of_cell? _ _ hw214_0; first | rwa [add_block] at this | exact this) GW203.out))) _).trans (((cell_far (p := ⟨gb203, _, none⟩) (by first | exact Nat.ne_of_lt (Nat.lt_of_lt_of_le (by have := World.block_lt_of_cell? _ _ hw214_0; first | rwa [add_block] at this | exact this) GW203.out) | (rw [add_block]; exact Nat.ne_of_lt (Nat.lt_of_lt_of_le (by have := World.block_lt_of_cell? _ _ hw214_0; first | rwa [add_block] at this | exact this) GW203.out)) | (show (Addr.add _ _).block ≠ _; rw [add_block]; exact Nat.ne_of_lt (Nat.lt_of_lt_of_le (by have := World.block_lt_of_cell? _ _ hw214_0; first | rwa [add_block] at this | exact this) GW203.out)) | (dsimp only; exact Nat.ne_of_lt (Nat.lt_of_lt_of_le (by have := World.block_lt_of_cell? _ _ hw214_0; first | rwa [add_block] at this | exact this) GW203.out))) _).trans (((cell_far (p := ⟨gb203, _, none⟩) (by first | exact Nat.ne_of_lt (Nat.lt_of_lt_of_le (by have := World.block_lt_of_cell? _ _ hw214_0; first | rwa [add_block] at this | exact this) GW203.out) | (rw [add_block]; exact Nat.ne_of_lt (Nat.lt_of_lt_of_le (by have := World.block_lt_of_cell? _ _ hw214_0; first | rwa [add_block] at this | exact this) GW203.out)) | (show (Addr.add _ _).block ≠ _; rw [add_block]; exact Nat.ne_of_lt (Nat.lt_of_lt_of_le (by have := World.block_lt_of_cell? _ _ hw214_0; first | rwa [add_block] at this | exact this) GW203.out)) | (dsimp only; exact Nat.ne_of_lt (Nat.lt_of_lt_of_le (by have := World.block_lt_of_cell? _ _ hw214_0; first | rwa [add_block] at this | exact this) GW203.out))) _).trans (((cell_far (p := ⟨gb203, _, none⟩) (by first | exact Nat.ne_of_lt (Nat.lt_of_lt_of_le (by have := World.block_lt_of_cell? _ _ hw214_0; first | rwa [add_block] at this | exact this) GW203.out) | (rw [add_block]; exact Nat.ne_of_lt (Nat.lt_of_lt_of_le (by have := World.block_lt_of_cell? _ _ hw214_0; first | rwa [add_block] at this | exact this) GW203.out)) | (show (Addr.add _ _).block ≠ _; rw [add_block]; exact Nat.ne_of_lt (Nat.lt_of_lt_of_le (by have := World.block_lt_of_cell? _ _ hw214_0; first | rwa [add_block] at this | exact this) GW203.out)) | (dsimp only; exact Nat.ne_of_lt (Nat.lt_of_lt_of_le (by have := World.block_lt_of_cell? _ _ hw214_0; first | rwa [add_block] at this | exact this) GW203.out))) _).trans (((cell_far (p := ⟨gb203, _, none⟩) (by first | exact Nat.ne_of_lt (Nat.lt_of_lt_of_le (by have := World.block_lt_of_cell? _ _ hw214_0; first | rwa [add_block] at this | exact this) GW203.out) | (rw [add_block]; exact Nat.ne_of_lt (Nat.lt_of_lt_of_le (by have := World.block_lt_of_cell? _ _ hw214_0; first | rwa [add_block] at this | exact this) GW203.out)) | (show (Addr.add _ _).block ≠ _; rw [add_block]; exact Nat.ne_of_lt (Nat.lt_of_lt_of_le (by have := World.block_lt_of_cell? _ _ hw214_0; first | rwa [add_block] at this | exact this) GW203.out)) | (dsimp only; exact Nat.ne_of_lt (Nat.lt_of_lt_of_le (by have := World.block_lt_of_cell? _ _ hw214_0; first | rwa [add_block] at this | exact this) GW203.out))) _).trans (hHeld.2.2))))))))))))))))))))⟩ (fun hHeld => ?_)
            clear hK K
            refine done_ (done_of HT_.out (by kernel_rfl)) ?_
            try go_wp2
            refine bodyPost_ret (results_cell_row rfl _ _ gb203 73 #[.int .u8 (rd l0 1), .int .u8 (rd l0 8), .int .u8 (rd l0 9), .int .u16 t212, .int .u8 ((t210 / 8192) % 256), .int .u16 (Go.bits .and .u16 t210 8191), .int .u32 t215, .int .u32 t216, .slice Ao42 t218.length co42, .slice Ao41 t222.length co41] (0, 0) _ rfl (by (with_reducible repeat (first | refine blk_drewN ?_ _ | refine blk_drew ?_ | refine blk_alloc ?_ _)); refine blk_put (cs := #[.int .u8 (rd l0 1), .int .u8 (rd l0 8), .int .u8 (rd l0 9), .int .u16 t212, .int .u8 ((t210 / 8192) % 256), .int .u16 (Go.bits .and .u16 t210 8191), .int .u32 t215, .int .u32 t216, .slice Ao42 t218.length co42, .slice none 0 0]) ?_ 9 _ rfl; (with_reducible repeat (first | refine blk_drewN ?_ _ | refine blk_drew ?_ | refine blk_alloc ?_ _)); refine blk_put (cs := #[.int .u8 (rd l0 1), .int .u8 (rd l0 8), .int .u8 (rd l0 9), .int .u16 t212, .int .u8 ((t210 / 8192) % 256), .int .u16 (Go.bits .and .u16 t210 8191), .int .u32 t215, .int .u32 t216, .slice none 0 0, .slice none 0 0]) ?_ 8 _ rfl; (with_reducible repeat (first | refine blk_drewN ?_ _ | refine blk_drew ?_ | refine blk_alloc ?_ _)); refine blk_put (cs := #[.int .u8 (rd l0 1), .int .u8 (rd l0 8), .int .u8 (rd l0 9), .int .u16 t212, .int .u8 ((t210 / 8192) % 256), .int .u16 (Go.bits .and .u16 t210 8191), .int .u32 t215, .int .u32 0, .slice none 0 0, .slice none 0 0]) ?_ 7 _ rfl; (with_reducible repeat (first | refine blk_drewN ?_ _ | refine blk_drew ?_ | refine blk_alloc ?_ _)); refine blk_put (cs := #[.int .u8 (rd l0 1), .int .u8 (rd l0 8), .int .u8 (rd l0 9), .int .u16 t212, .int .u8 ((t210 / 8192) % 256), .int .u16 (Go.bits .and .u16 t210 8191), .int .u32 0, .int .u32 0, .slice none 0 0, .slice none 0 0]) ?_ 6 _ rfl; (with_reducible repeat (first | refine blk_drewN ?_ _ | refine blk_drew ?_ | refine blk_alloc ?_ _)); refine blk_put (cs := #[.int .u8 (rd l0 1), .int .u8 (rd l0 8), .int .u8 (rd l0 9), .int .u16 t212, .int .u8 ((t210 / 8192) % 256), .int .u16 0, .int .u32 0, .int .u32 0, .slice none 0 0, .slice none 0 0]) ?_ 5 _ rfl; (with_reducible repeat (first | refine blk_drewN ?_ _ | refine blk_drew ?_ | refine blk_alloc ?_ _)); refine blk_put (cs := #[.int .u8 (rd l0 1), .int .u8 (rd l0 8), .int .u8 (rd l0 9), .int .u16 t212, .int .u8 0, .int .u16 0, .int .u32 0, .int .u32 0, .slice none 0 0, .slice none 0 0]) ?_ 4 _ rfl; (with_reducible repeat (first | refine blk_drewN ?_ _ | refine blk_drew ?_ | refine blk_alloc ?_ _)); refine blk_put (cs := #[.int .u8 (rd l0 1), .int .u8 (rd l0 8), .int .u8 (rd l0 9), .int .u16 0, .int .u8 0, .int .u16 0, .int .u32 0, .int .u32 0, .slice none 0 0, .slice none 0 0]) ?_ 3 _ rfl; (with_reducible repeat (first | refine blk_drewN ?_ _ | refine blk_drew ?_ | refine blk_alloc ?_ _)); refine blk_put (cs := #[.int .u8 (rd l0 1), .int .u8 (rd l0 8), .int .u8 0, .int .u16 0, .int .u8 0, .int .u16 0, .int .u32 0, .int .u32 0, .slice none 0 0, .slice none 0 0]) ?_ 2 _ rfl; (with_reducible repeat (first | refine blk_drewN ?_ _ | refine blk_drew ?_ | refine blk_alloc ?_ _)); refine blk_put (cs := #[.int .u8 (rd l0 1), .int .u8 0, .int .u8 0, .int .u16 0, .int .u8 0, .int .u16 0, .int .u32 0, .int .u32 0, .slice none 0 0, .slice none 0 0]) ?_ 1 _ rfl; (with_reducible repeat (first | refine blk_drewN ?_ _ | refine blk_drew ?_ | refine blk_alloc ?_ _)); refine blk_put (cs := #[.int .u8 0, .int .u8 0, .int .u8 0, .int .u16 0, .int .u8 0, .int .u16 0, .int .u32 0, .int .u32 0, .slice none 0 0, .slice none 0 0]) ?_ 0 _ rfl; (with_reducible repeat (first | refine blk_drewN ?_ _ | refine blk_drew ?_ | refine blk_alloc ?_ _)); exact BK203.out) Try.underlying73 rfl (by kernel_rfl)) rfl ?_
            exact ⟨_, _, by first | rfl | (simp [errW_none, errW_some] <;> rfl) | (simp only [← hji14]; first | rfl | (simp [errW_none, errW_some] <;> rfl)) | (simp [*, errW_none, errW_some] <;> rfl), by (with_reducible repeat (first | apply Kd.R_alloc | apply Kd.R_drewN | apply Kd.R_drew)); exact Kd.R_mono (Kd.R_far (p := ⟨gb203, 9, none⟩) (Kd.R_far (p := ⟨gb203, 8, none⟩) (Kd.R_far (p := ⟨gb203, 7, none⟩) (Kd.R_far (p := ⟨gb203, 6, none⟩) (Kd.R_far (p := ⟨gb203, 5, none⟩) (Kd.R_far (p := ⟨gb203, 4, none⟩) (Kd.R_far (p := ⟨gb203, 3, none⟩) (Kd.R_far (p := ⟨gb203, 2, none⟩) (Kd.R_far (p := ⟨gb203, 1, none⟩) (Kd.R_far (p := ⟨gb203, 0, none⟩) (Kd.R_types HO220.out BK203.out (by decide)) (fun _ hk => hk.2) (.int .u8 (rd l0 1))) (fun _ hk => hk.2) (.int .u8 (rd l0 8))) (fun _ hk => hk.2) (.int .u8 (rd l0 9))) (fun _ hk => hk.2) (.int .u16 t212)) (fun _ hk => hk.2) (.int .u8 ((t210 / 8192) % 256))) (fun _ hk => hk.2) (.int .u16 (Go.bits .and .u16 t210 8191))) (fun _ hk => hk.2) (.int .u32 t215)) (fun _ hk => hk.2) (.int .u32 t216)) (fun _ hk => hk.2) (.slice Ao42 t218.length co42)) (fun _ hk => hk.2) (.slice Ao41 t222.length co41)) (fun _ hk => hk.1.2), by (with_reducible repeat (first | apply Kd.R_alloc | apply Kd.R_drewN | apply Kd.R_drew)); exact Kd.R_mono (Kd.R_far (p := ⟨gb203, 9, none⟩) (Kd.R_far (p := ⟨gb203, 8, none⟩) (Kd.R_far (p := ⟨gb203, 7, none⟩) (Kd.R_far (p := ⟨gb203, 6, none⟩) (Kd.R_far (p := ⟨gb203, 5, none⟩) (Kd.R_far (p := ⟨gb203, 4, none⟩) (Kd.R_far (p := ⟨gb203, 3, none⟩) (Kd.R_far (p := ⟨gb203, 2, none⟩) (Kd.R_far (p := ⟨gb203, 1, none⟩) (Kd.R_far (p := ⟨gb203, 0, none⟩) (Kd.R_types HO224.out BK203.out (by decide)) (fun _ hk => hk.2) (.int .u8 (rd l0 1))) (fun _ hk => hk.2) (.int .u8 (rd l0 8))) (fun _ hk => hk.2) (.int .u8 (rd l0 9))) (fun _ hk => hk.2) (.int .u16 t212)) (fun _ hk => hk.2) (.int .u8 ((t210 / 8192) % 256))) (fun _ hk => hk.2) (.int .u16 (Go.bits .and .u16 t210 8191))) (fun _ hk => hk.2) (.int .u32 t215)) (fun _ hk => hk.2) (.int .u32 t216)) (fun _ hk => hk.2) (.slice Ao42 t218.length co42)) (fun _ hk => hk.2) (.slice Ao41 t222.length co41)) (fun _ hk => hk.1.2), by repeat (first | (with_reducible first | exact HB.out | apply below_alloc | apply pw_below_drewN | apply below_drew1 | refine below_set ?_ GE203.out) | exact HB.out)⟩
           ·rw [if_neg c32] at H
            exact absurd H (by simp)
          ·rw [if_neg c31] at H
           exact absurd H (by simp)
         ·rw [if_neg c27] at H
          exact absurd H (by simp)
        ·rw [if_neg c24] at H
         exact absurd H (by simp)
       ·rw [if_neg c23] at H
        exact absurd H (by simp)
      ·rw [if_neg c21] at H
       exact absurd H (by simp)
     ·rw [if_neg c16] at H
      exact absurd H (by simp)
    ·rw [if_neg c15] at H
     exact absurd H (by simp)
 ·rw [if_neg c3] at H
  exact absurd H (by simp)

end Go.Proofs.Ytkmimamminddiaa.PB

-- written by a patched print
namespace Go.Proofs.Ytkmimamminddiaa.PB
open Go.RowKit Go.Proofs.YtkmimamminddiaaW.PrintWords Go.Proofs.YtkmimamminddiaaW.PrintLast Go.Proofs.YtkmimamminddiaaW.PrintMore
attribute [local go_sem] max2_int min2_int max_two min_two max_three min_three max_four min_four   -- for this text's walks alone
set_option linter.unusedVariables false
set_option linter.unusedSimpArgs false

/-! ### ip_Parse: function 57 -/
/-- A call that ends in a panic, in a plain region. -/
theorem ip_Parse.goesP {P : Program} {ops : Array Oper} {Q : Exit → Act → World → Prop} {rest : List Oper} {oi : Oper} {a : Act} {w : World} (N : Option Tmp) (_hd : oi.dst = N) (hg : oi.guard = none) {f : FuncId} {fn : Func} {as_ : Array Operand} {ts : Array TypeId} (hf : P.funcs[f]? = some fn) (hname : (fn.name == "runtime.NumGoroutine") = false) (hb : fn.body.isSome = true) (args : Array Value)
  (hop : oi.op = .call { callee := .value (.func f), args := as_, argTypes := ts }) (hargs : as_.map a.eval = args)
  (h : Calls P f args w fun e w' => ∃ ch, e = .panicked ch ∧ Q (.panic ch) a w') : wpList P ops Q (oi :: rest) a w := by
 refine wpList_plain hg fun K hK => ?_
 have he := enters_ hf hname hb args w
 have hrun : (execOp a.eval oi).run P w = .ok (.enter f args) w := by
  unfold execOp
  simp [hop, resolve, Deferred.ofValue, invoke, Act.eval, hargs, he]
 unfold Oper.wp
 rw [hrun, Oper.upon_enter]
 refine h.mono fun e w'' hh => ?_
 obtain ⟨ch, rfl, hk⟩ := hh
 exact hk

theorem ip_must.panics (a0 : Bool) (a1 : Int) (w : World) (h : a0 = false) : Calls Try.prog 117 #[.bool a0, .int .i64 a1] w fun e w' => e = .panicked [{ v := .iface 163 (.agg #[.int .i64 a1]), recovered := false }] ∧ Drawn0 w w' := by
 subst h
 have hu52 := Try.underlying163
 go_enter Try.func117, Try.ntmps117
 go_wp2
 exact ⟨rfl, rfl, by repeat (first | exact Drawn0.refl _ | apply Drawn0.step)⟩

def ip_Parse.T5 : Bool × List (List Nat × List Nat) := (true, [([], []), ([], []), ([1], [1]), ([0, 0], [0]), ([2, 3, 0, 1, 2, 3], [2])])
def ip_Parse.B5 : List Nat := [0, 0, 2, 1, 15]
theorem ip_Parse.tab5 : rtab .any (opsOf Try.f94 5) = ip_Parse.T5 := by kernel_rfl
theorem ip_Parse.bits5 : waitsOk ip_Parse.T5.2 ip_Parse.B5 = true := by kernel_rfl
theorem ip_Parse.isFailed (x : Int) (w : World) : (Instr.typeAssert (.iface 163 (.agg #[.int .i64 x])) 20 163 true).run Try.prog w = .ok (.tuple #[.agg #[.int .i64 x], .bool true]) w := by kernel_rfl
set_option maxHeartbeats 400000 in
set_option maxRecDepth 100000 in
theorem ip_Parse.catch_panicking (x : Int) (w0 w : World) (B gp ge : Nat) (hp : w.heap[gp]? = some (.cells #[.int .u8 0, .int .u8 0, .int .u8 0, .int .u16 0, .int .u8 0, .int .u16 0, .int .u32 0, .int .u32 0, .slice none 0 0, .slice none 0 0] 73 (0, 0)))
  (he : w.heap[ge]? = some (.cells #[.int .i64 0] 49 (0, 0))) (hne : gp ≠ ge) (hB : Below B w0 w) (hBp : B ≤ gp) (hBe : B ≤ ge) :
  CallsD Try.prog 94 #[.pointer (some ⟨gp, 0, none⟩), .pointer (some ⟨ge, 0, none⟩)] (.panicking [{ v := .iface 163 (.agg #[.int .i64 x]), recovered := false }]) w fun e u' w' =>
   e = .returned (.tuple #[]) ∧ u' = .panicking [{ v := .iface 163 (.agg #[.int .i64 x]), recovered := true }] ∧
   w'.heap[gp]? = some (.cells #[.int .u8 0, .int .u8 0, .int .u8 0, .int .u16 0, .int .u8 0, .int .u16 0, .int .u32 0, .int .u32 0, .slice none 0 0, .slice none 0 0] 73 (0, 0)) ∧
   w'.heap[ge]? = some (.cells #[.int .i64 x] 49 (0, 0)) ∧ Below B w0 w' := by
 have HP := Aside0.mk hp
 have HE := Aside0.mk he
 have HN := Aside0.mk hne
 have HB := Aside0.mk hB
 have HBP := Aside0.mk hBp
 have HBE := Aside0.mk hBe
 clear hp he hne hB hBp hBe
 have hu30 := Try.underlying73
 have hu52 := Try.underlying163
 have hneq : ∀ (v : Value) (w : World), (binOp BinOp.neq 20 (.iface 163 v) .nilIface).run Try.prog w = .ok (.bool true) w := fun _ _ => by kernel_rfl
 have hta := ip_Parse.isFailed x
 refine callsD_of_wpS Try.func94 rfl fun c₀ cs hu => ?_
 simp only [Try.ntmps94, List.size_toArray, List.length_cons, List.length_nil, Nat.reduceAdd, Nat.reduceSub, Array.replicate_succ, Array.replicate_zero, List.push_toArray, List.append_toArray, List.nil_append, List.cons_append]
 apply wpS_seq
 apply wpS_region
 simp [wpOpsS, go_sem, recoverD, hu, Try.ntmps94, Exit.thenS]
 apply wpS_seq
 apply wpS_region
 simp [wpOpsS, go_sem, Exit.thenS]
 refine wpS_cond (t := true) (by simp [Act.eval, Array.replicate]) ?_
 simp only [if_true]
 refine wpS_of_wp ?_
 go_upto_region 5 with (fail)
 have hf : (w.alloc (.cells #[.int .i64 x] 163)).drew.cell? ⟨w.heap.size, 0, none⟩ = some (.int .i64 x) := by go_simp
 refine start_ (n := 5) (S := fun w' => w'.cell? ⟨w.heap.size, 0, none⟩ = some (.int .i64 x)) (ds := []) #[false, false, false, false, false] (by kernel_rfl) rfl rfl hf (fun hHeld => ?_)
 refine with_tabW ip_Parse.tab5 ip_Parse.bits5 (fun HT_ HW_ => ?_)
 have HNEW : w.heap.size ≠ gp := fun e => by have := blk_lt HP.out; omega
 have HNEW2 : w.heap.size ≠ ge := fun e => by have := blk_lt HE.out; omega
 have HP1 := Aside0.mk (blk_drew (blk_alloc HP.out (.cells #[.int .i64 x] 163)))
 have HE1 := Aside0.mk (blk_drew (blk_alloc HE.out (.cells #[.int .i64 x] 163)))
 have HB1 : Aside0 (Below B w0 (w.alloc (.cells #[.int .i64 x] 163)).drew) := ⟨below_drew (Below.alloc HB.out (by have := blk_lt HP.out; have := HBP.out; omega) _)⟩
 have HG1 := Aside0.mk HNEW
 have HG2 := Aside0.mk HNEW2
 clear HP HE HB HNEW HNEW2 hf
 generalize (w.alloc (.cells #[.int .i64 x] 163)).drew = wc at HP1 HE1 HB1 hHeld ⊢
 generalize w.heap.size = gf at HG1 HG2 hHeld HT_ HW_ ⊢
 refine pure_ (i := 0) (N := some 16) (v := ?_) (a' := ?_) #[true, false, false, false, false] rfl rfl (any_of HT_.out (by kernel_rfl)) (fun _ _ _ h => h) (Or.inl ⟨by rfl, ?_⟩) ?_ ?_
 rotate_left
 ·intro w'
  go_simp
  with_reducible rfl
 rotate_left
 ·simp only [Act.put, List.setIfInBounds_toArray, List.set_cons_zero, List.set_cons_succ, i64_w, i32_w]
  rfl
 refine pure_ (i := 1) (N := some 17) (v := ?_) (a' := ?_) #[true, true, false, false, false] rfl rfl (any_of HT_.out (by kernel_rfl)) (fun _ _ _ h => h) (Or.inl ⟨by rfl, ?_⟩) ?_ ?_
 rotate_left
 ·intro w'
  go_simp
  with_reducible rfl
 rotate_left
 ·simp only [Act.put, List.setIfInBounds_toArray, List.set_cons_zero, List.set_cons_succ, i64_w, i32_w]
  rfl
 refine take_ (i := 2) (N := some 18) (v := ?_) (a' := ?_) #[true, true, true, false, false] rfl rfl (take_ofW HT_.out HW_.out (by kernel_rfl)) (fun _ _ _ h => h) (Or.inl ⟨by rfl, ?_⟩) hHeld ?_ ?_
 rotate_left
 ·intro w' s0
  go_simp
  with_reducible rfl
 rotate_left
 ·simp only [Act.put, List.setIfInBounds_toArray, List.set_cons_zero, List.set_cons_succ, i64_w, i32_w]
  rfl
 have HN2 : Aside0 (ge ≠ gp) := ⟨fun e => HN.out e.symm⟩
 refine one_ (i := 3) (N := none) #[true, true, true, true, false] rfl rfl (one_of HT_.out (by kernel_rfl)) (by decide) (fun K hK => ?_)
 have hs0 : wc.cell? ⟨gp, 0, none⟩ = some (.int .u8 0) := (blk_cell HP1.out 0).trans rfl
 have hfs0 := blk_frozen HP1.out 0
 have hs1 : wc.cell? ⟨gp, 1, none⟩ = some (.int .u8 0) := (blk_cell HP1.out 1).trans rfl
 have hfs1 := blk_frozen HP1.out 1
 have hs2 : wc.cell? ⟨gp, 2, none⟩ = some (.int .u8 0) := (blk_cell HP1.out 2).trans rfl
 have hfs2 := blk_frozen HP1.out 2
 have hs3 : wc.cell? ⟨gp, 3, none⟩ = some (.int .u16 0) := (blk_cell HP1.out 3).trans rfl
 have hfs3 := blk_frozen HP1.out 3
 have hs4 : wc.cell? ⟨gp, 4, none⟩ = some (.int .u8 0) := (blk_cell HP1.out 4).trans rfl
 have hfs4 := blk_frozen HP1.out 4
 have hs5 : wc.cell? ⟨gp, 5, none⟩ = some (.int .u16 0) := (blk_cell HP1.out 5).trans rfl
 have hfs5 := blk_frozen HP1.out 5
 have hs6 : wc.cell? ⟨gp, 6, none⟩ = some (.int .u32 0) := (blk_cell HP1.out 6).trans rfl
 have hfs6 := blk_frozen HP1.out 6
 have hs7 : wc.cell? ⟨gp, 7, none⟩ = some (.int .u32 0) := (blk_cell HP1.out 7).trans rfl
 have hfs7 := blk_frozen HP1.out 7
 have hs8 : wc.cell? ⟨gp, 8, none⟩ = some (.slice none 0 0) := (blk_cell HP1.out 8).trans rfl
 have hfs8 := blk_frozen HP1.out 8
 have hs9 : wc.cell? ⟨gp, 9, none⟩ = some (.slice none 0 0) := (blk_cell HP1.out 9).trans rfl
 have hfs9 := blk_frozen HP1.out 9
 refine skip_ (w1 := ((((((((((wc.setCell ⟨gp, 0, none⟩ (.int .u8 0)).setCell ⟨gp, 1, none⟩ (.int .u8 0)).setCell ⟨gp, 2, none⟩ (.int .u8 0)).setCell ⟨gp, 3, none⟩ (.int .u16 0)).setCell ⟨gp, 4, none⟩ (.int .u8 0)).setCell ⟨gp, 5, none⟩ (.int .u16 0)).setCell ⟨gp, 6, none⟩ (.int .u32 0)).setCell ⟨gp, 7, none⟩ (.int .u32 0)).setCell ⟨gp, 8, none⟩ (.slice none 0 0)).setCell ⟨gp, 9, none⟩ (.slice none 0 0))) (by rfl) rfl ?_ ?_
 ·go_simp
 have f1 := Aside0.mk ((cell_far (W := (((((((((wc.setCell ⟨gp, 0, none⟩ (.int .u8 0)).setCell ⟨gp, 1, none⟩ (.int .u8 0)).setCell ⟨gp, 2, none⟩ (.int .u8 0)).setCell ⟨gp, 3, none⟩ (.int .u16 0)).setCell ⟨gp, 4, none⟩ (.int .u8 0)).setCell ⟨gp, 5, none⟩ (.int .u16 0)).setCell ⟨gp, 6, none⟩ (.int .u32 0)).setCell ⟨gp, 7, none⟩ (.int .u32 0)).setCell ⟨gp, 8, none⟩ (.slice none 0 0))) (p := ⟨gp, 9, none⟩) HG1.out (.slice none 0 0)).trans ((cell_far (W := ((((((((wc.setCell ⟨gp, 0, none⟩ (.int .u8 0)).setCell ⟨gp, 1, none⟩ (.int .u8 0)).setCell ⟨gp, 2, none⟩ (.int .u8 0)).setCell ⟨gp, 3, none⟩ (.int .u16 0)).setCell ⟨gp, 4, none⟩ (.int .u8 0)).setCell ⟨gp, 5, none⟩ (.int .u16 0)).setCell ⟨gp, 6, none⟩ (.int .u32 0)).setCell ⟨gp, 7, none⟩ (.int .u32 0))) (p := ⟨gp, 8, none⟩) HG1.out (.slice none 0 0)).trans ((cell_far (W := (((((((wc.setCell ⟨gp, 0, none⟩ (.int .u8 0)).setCell ⟨gp, 1, none⟩ (.int .u8 0)).setCell ⟨gp, 2, none⟩ (.int .u8 0)).setCell ⟨gp, 3, none⟩ (.int .u16 0)).setCell ⟨gp, 4, none⟩ (.int .u8 0)).setCell ⟨gp, 5, none⟩ (.int .u16 0)).setCell ⟨gp, 6, none⟩ (.int .u32 0))) (p := ⟨gp, 7, none⟩) HG1.out (.int .u32 0)).trans ((cell_far (W := ((((((wc.setCell ⟨gp, 0, none⟩ (.int .u8 0)).setCell ⟨gp, 1, none⟩ (.int .u8 0)).setCell ⟨gp, 2, none⟩ (.int .u8 0)).setCell ⟨gp, 3, none⟩ (.int .u16 0)).setCell ⟨gp, 4, none⟩ (.int .u8 0)).setCell ⟨gp, 5, none⟩ (.int .u16 0))) (p := ⟨gp, 6, none⟩) HG1.out (.int .u32 0)).trans ((cell_far (W := (((((wc.setCell ⟨gp, 0, none⟩ (.int .u8 0)).setCell ⟨gp, 1, none⟩ (.int .u8 0)).setCell ⟨gp, 2, none⟩ (.int .u8 0)).setCell ⟨gp, 3, none⟩ (.int .u16 0)).setCell ⟨gp, 4, none⟩ (.int .u8 0))) (p := ⟨gp, 5, none⟩) HG1.out (.int .u16 0)).trans ((cell_far (W := ((((wc.setCell ⟨gp, 0, none⟩ (.int .u8 0)).setCell ⟨gp, 1, none⟩ (.int .u8 0)).setCell ⟨gp, 2, none⟩ (.int .u8 0)).setCell ⟨gp, 3, none⟩ (.int .u16 0))) (p := ⟨gp, 4, none⟩) HG1.out (.int .u8 0)).trans ((cell_far (W := (((wc.setCell ⟨gp, 0, none⟩ (.int .u8 0)).setCell ⟨gp, 1, none⟩ (.int .u8 0)).setCell ⟨gp, 2, none⟩ (.int .u8 0))) (p := ⟨gp, 3, none⟩) HG1.out (.int .u16 0)).trans ((cell_far (W := ((wc.setCell ⟨gp, 0, none⟩ (.int .u8 0)).setCell ⟨gp, 1, none⟩ (.int .u8 0))) (p := ⟨gp, 2, none⟩) HG1.out (.int .u8 0)).trans ((cell_far (W := (wc.setCell ⟨gp, 0, none⟩ (.int .u8 0))) (p := ⟨gp, 1, none⟩) HG1.out (.int .u8 0)).trans ((cell_far (W := wc) (p := ⟨gp, 0, none⟩) HG1.out (.int .u8 0)).trans hHeld))))))))))
 have f2 := Aside0.mk (blk_put (blk_put (blk_put (blk_put (blk_put (blk_put (blk_put (blk_put (blk_put (blk_put HP1.out 0 (.int .u8 0) rfl) 1 (.int .u8 0) rfl) 2 (.int .u8 0) rfl) 3 (.int .u16 0) rfl) 4 (.int .u8 0) rfl) 5 (.int .u16 0) rfl) 6 (.int .u32 0) rfl) 7 (.int .u32 0) rfl) 8 (.slice none 0 0) rfl) 9 (.slice none 0 0) rfl)
 have f3 := Aside0.mk (blk_far (blk_far (blk_far (blk_far (blk_far (blk_far (blk_far (blk_far (blk_far (blk_far HE1.out (p := ⟨gp, 0, none⟩) HN2.out (.int .u8 0)) (p := ⟨gp, 1, none⟩) HN2.out (.int .u8 0)) (p := ⟨gp, 2, none⟩) HN2.out (.int .u8 0)) (p := ⟨gp, 3, none⟩) HN2.out (.int .u16 0)) (p := ⟨gp, 4, none⟩) HN2.out (.int .u8 0)) (p := ⟨gp, 5, none⟩) HN2.out (.int .u16 0)) (p := ⟨gp, 6, none⟩) HN2.out (.int .u32 0)) (p := ⟨gp, 7, none⟩) HN2.out (.int .u32 0)) (p := ⟨gp, 8, none⟩) HN2.out (.slice none 0 0)) (p := ⟨gp, 9, none⟩) HN2.out (.slice none 0 0))
 have f4 := Aside0.mk (Below.setCell (p := ⟨gp, 9, none⟩) (Below.setCell (p := ⟨gp, 8, none⟩) (Below.setCell (p := ⟨gp, 7, none⟩) (Below.setCell (p := ⟨gp, 6, none⟩) (Below.setCell (p := ⟨gp, 5, none⟩) (Below.setCell (p := ⟨gp, 4, none⟩) (Below.setCell (p := ⟨gp, 3, none⟩) (Below.setCell (p := ⟨gp, 2, none⟩) (Below.setCell (p := ⟨gp, 1, none⟩) (Below.setCell (p := ⟨gp, 0, none⟩) HB1.out HBP.out (.int .u8 0)) HBP.out (.int .u8 0)) HBP.out (.int .u8 0)) HBP.out (.int .u16 0)) HBP.out (.int .u8 0)) HBP.out (.int .u16 0)) HBP.out (.int .u32 0)) HBP.out (.int .u32 0)) HBP.out (.slice none 0 0)) HBP.out (.slice none 0 0))
 clear hs0 hs1 hs2 hs3 hs4 hs5 hs6 hs7 hs8 hs9 hfs0 hfs1 hfs2 hfs3 hfs4 hfs5 hfs6 hfs7 hfs8 hfs9
 generalize ((((((((((wc.setCell ⟨gp, 0, none⟩ (.int .u8 0)).setCell ⟨gp, 1, none⟩ (.int .u8 0)).setCell ⟨gp, 2, none⟩ (.int .u8 0)).setCell ⟨gp, 3, none⟩ (.int .u16 0)).setCell ⟨gp, 4, none⟩ (.int .u8 0)).setCell ⟨gp, 5, none⟩ (.int .u16 0)).setCell ⟨gp, 6, none⟩ (.int .u32 0)).setCell ⟨gp, 7, none⟩ (.int .u32 0)).setCell ⟨gp, 8, none⟩ (.slice none 0 0)).setCell ⟨gp, 9, none⟩ (.slice none 0 0)) = wd at f1 f2 f3 f4 ⊢
 clear HP1 HE1 HB1 hHeld
 refine hK.out _ _ f1.out (fun hHeld => ?_)
 clear hK K
 refine one_ (i := 4) (N := none) #[true, true, true, true, true] rfl rfl (one_of HT_.out (by kernel_rfl)) (by decide) (fun K hK => ?_)
 have he0 : wd.cell? ⟨ge, 0, none⟩ = some (.int .i64 0) := (blk_cell f3.out 0).trans rfl
 have hfe0 := blk_frozen f3.out 0
 refine skip_ (w1 := wd.setCell ⟨ge, 0, none⟩ (.int .i64 x)) (by rfl) rfl ?_ ?_
 ·go_simp
 clear he0 hfe0
 refine hK.out _ _ ((cell_far (W := wd) (p := ⟨ge, 0, none⟩) HG2.out (.int .i64 x)).trans hHeld) (fun hHeld => ?_)
 clear hK K
 refine done_ (done_of HT_.out (by kernel_rfl)) ?_
 have g1 : (wd.setCell ⟨ge, 0, none⟩ (.int .i64 x)).heap[gp]? = _ := blk_far f2.out (p := ⟨ge, 0, none⟩) HN.out (.int .i64 x)
 have g2 : (wd.setCell ⟨ge, 0, none⟩ (.int .i64 x)).heap[ge]? = _ := blk_put f3.out 0 (.int .i64 x) rfl
 have g3 := Below.setCell (p := ⟨ge, 0, none⟩) f4.out HBE.out (.int .i64 x)
 clear hneq hta hu30 hu52
 exact ⟨rfl, _, rfl, .tuple #[], by simp [results, Try.results94], rfl, rfl, g1, g2, g3⟩
set_option maxHeartbeats 400000 in
set_option maxRecDepth 100000 in
theorem ip_Parse.catch_idle (p q : Addr) (w : World) : CallsD Try.prog 94 #[.pointer (some p), .pointer (some q)] .returning w fun e u' w' => e = .returned (.tuple #[]) ∧ u' = .returning ∧ w' = w := by
 have hneq : ∀ (w : World), (binOp BinOp.neq 20 .nilIface .nilIface).run Try.prog w = .ok (.bool false) w := fun _ => by kernel_rfl
 refine callsD_of_wpS Try.func94 rfl fun c₀ cs hu => ?_
 simp only [Try.ntmps94, List.size_toArray, List.length_cons, List.length_nil, Nat.reduceAdd, Nat.reduceSub, Array.replicate_succ, Array.replicate_zero, List.push_toArray, List.append_toArray, List.nil_append, List.cons_append]
 apply wpS_seq
 apply wpS_region
 simp [wpOpsS, go_sem, recoverD, hu, Exit.thenS]
 apply wpS_seq
 apply wpS_region
 simp [wpOpsS, go_sem, Exit.thenS, hneq]
 refine wpS_cond (t := false) (by simp [Act.eval]) ?_
 simp only [Bool.false_eq_true, if_false]
 refine wpS_of_wp (wp_skip ?_)
 cases c₀
 simp_all [bodyPostS, results, Try.results94]
set_option maxHeartbeats 8000000 in
set_option maxRecDepth 100000 in
theorem ip_reader_packet.pan1 (A0 : Option Addr) (c0 : Nat) (l0 : List Int) (w : World) (hr0 : Kd.C (Kd.int .u8) w A0 l0.length l0) (hc0 : l0.length ≤ c0) (h : (l0.length : Int) < 20) :
  Calls Try.prog 95 #[.slice A0 l0.length c0] w fun e w' => e = .panicked [{ v := .iface 163 (.agg #[.int .i64 20]), recovered := false }] ∧ Below w.heap.size w w' := by
 have hu30 := Try.underlying73
 have HR0 := Aside0.mk hr0
 have HC0 := Aside0.mk hc0
 clear hr0 hc0
 have HB := Aside0.mk (Below.refl w.heap.size w)
 have hd_ : decide ((l0.length : Int) ≥ 20) = false := decide_eq_false (by omega)
 have HD := Aside0.mk hd_
 clear hd_ h
 go_enter Try.func95, Try.ntmps95
 go_wp2_with (first | ((with_reducible refine gate_dst (N := 2) rfl ?_); refine box_event ?hg (N := 2) ?hd (cs := #[.int .u8 0, .int .u8 0, .int .u8 0, .int .u16 0, .int .u8 0, .int .u16 0, .int .u32 0, .int .u32 0, .slice none 0 0, .slice none 0 0]) (t := 73) ?hr ?_; (case hd => rfl); (case hg => rfl); (case hr => first | (go_simp; done) | (go_simp; rfl)); intro gb203 hg w6 hbox hb; have n0_ := Aside0.mk (below_step (by repeat (first | (with_reducible first | exact HB.out | apply below_alloc | apply pw_below_drewN | apply below_drew1) | exact HB.out)) hb); have n1_ := Aside0.mk (hbox); have n2_ := Aside0.mk ((by rw [hg]; exact (below_size (by repeat (first | (with_reducible first | exact HB.out | apply below_alloc | apply pw_below_drewN | apply below_drew1) | exact HB.out))) : w.heap.size ≤ gb203)); have n3_ := Aside0.mk ((by rw [hg]; exact (below_size (by repeat (first | (with_reducible first | exact HB.out | apply below_alloc | apply pw_below_drewN | apply below_drew1) | exact HB.out))) : w.heap.size ≤ gb203)); clear HB; have HB := n0_; have BK203 := n1_; have GW203 := n2_; have GE203 := n3_; clear n0_ n1_ n2_ n3_; clear hb hbox hg) | ((with_reducible refine gate_callee (f := 117) rfl ?_); refine ip_Parse.goesP (some 9) rfl rfl Try.func117 (by kernel_rfl) rfl #[.bool (decide ((l0.length : Int) ≥ 20)), .int .i64 20] rfl (by (try simp only [List.map_toArray, List.map_cons, List.map_nil]); first | done | rfl | (simp only [List.length_drop, List.length_take]; rfl) | (go_simp; done) | (simp [Act.eval, IntKind.signed]; done) | (simp [Act.eval, IntKind.signed]; rfl)) ?_; (with_reducible refine (ip_must.panics (decide ((l0.length : Int) ≥ 20)) 20 _ HD.out).mono ?_); rintro e w' ⟨rfl, ⟨nd, rfl⟩⟩; refine ⟨_, rfl, ?_⟩; exact ⟨rfl, rfl, by repeat (first | (with_reducible first | exact HB.out | apply below_alloc | apply pw_below_drewN | apply below_drew1) | exact HB.out)⟩))
set_option maxHeartbeats 8000000 in
set_option maxRecDepth 100000 in
theorem ip_reader_packet.pan2 (t121 : Int) (A0 : Option Addr) (c0 : Nat) (l0 : List Int) (w : World) (hr0 : Kd.C (Kd.int .u8) w A0 l0.length l0) (hc0 : l0.length ≤ c0) (hlen : (l0.length : Int) ≥ 20) (h2 : ip_reader_two.f l0 2 = some t121) (hf : ¬ ((rd l0 0) / 16 = 4 ∧ (wrap64 (4 * (wrap64 (Go.bits .and .u8 (rd l0 0) 15)))) ≥ 20 ∧ (wrap64 (t121)) ≥ (wrap64 (4 * (wrap64 (Go.bits .and .u8 (rd l0 0) 15)))))) :
  Calls Try.prog 95 #[.slice A0 l0.length c0] w fun e w' => e = .panicked [{ v := .iface 163 (.agg #[.int .i64 21]), recovered := false }] ∧ Below w.heap.size w w' := by
 have hu30 := Try.underlying73
 have HR0 := Aside0.mk hr0
 have HC0 := Aside0.mk hc0
 clear hr0 hc0
 have HB := Aside0.mk (Below.refl w.heap.size w)
 have HF := Aside0.mk hf
 clear hf
 have A2 : Aside0 (ip_must.f (decide ((l0.length : Int) ≥ 20)) 20 = some ()) := ⟨by unfold ip_must.f; rw [decide_eq_true hlen, if_pos rfl]⟩
 have A4 := Aside0.mk h2
 have c3b0 : decide (0 < (l0.length : Int)) = true := decide_eq_true (by omega)
 have c3b1 : decide (0 < l0.length) = true := decide_eq_true (by omega)
 clear hlen h2
 go_enter Try.func95, Try.ntmps95
 try go_wp2_with (first | ((with_reducible refine gate_dst (N := 2) rfl ?_); refine box_event ?hg (N := 2) ?hd (cs := #[.int .u8 0, .int .u8 0, .int .u8 0, .int .u16 0, .int .u8 0, .int .u16 0, .int .u32 0, .int .u32 0, .slice none 0 0, .slice none 0 0]) (t := 73) ?hr ?_; (case hd => rfl); (case hg => rfl); (case hr => first | (go_simp; done) | (go_simp; rfl)); intro gb203 hg w6 hbox hb; have n0_ := Aside0.mk (below_step (by repeat (first | (with_reducible first | exact HB.out | apply below_alloc | apply pw_below_drewN | apply below_drew1) | exact HB.out)) hb); have n1_ := Aside0.mk (hbox); have n2_ := Aside0.mk ((by rw [hg]; exact (below_size (by repeat (first | (with_reducible first | exact HB.out | apply below_alloc | apply pw_below_drewN | apply below_drew1) | exact HB.out))) : w.heap.size ≤ gb203)); have n3_ := Aside0.mk ((by rw [hg]; exact (below_size (by repeat (first | (with_reducible first | exact HB.out | apply below_alloc | apply pw_below_drewN | apply below_drew1) | exact HB.out))) : w.heap.size ≤ gb203)); clear HB; have HB := n0_; have BK203 := n1_; have GW203 := n2_; have GE203 := n3_; clear n0_ n1_ n2_ n3_; clear hb hbox hg) | ((with_reducible refine gate_callee (f := 117) rfl ?_); refine goesL_ (some 9) rfl rfl Try.func117 (by kernel_rfl) rfl #[.bool (decide ((l0.length : Int) ≥ 20)), .int .i64 20] rfl (by (try simp only [List.map_toArray, List.map_cons, List.map_nil]); first | done | rfl | (simp only [List.length_drop, List.length_take]; rfl) | (go_simp; done) | (simp [Act.eval, IntKind.signed]; done) | (simp [Act.eval, IntKind.signed]; rfl)) ?_; (with_reducible refine (ip_must.calls (decide ((l0.length : Int) ≥ 20)) 20  _ A2.out).mono ?_); rintro e w' ⟨rfl, ⟨nd, rfl⟩⟩; refine ⟨_, rfl, ?_⟩))
 (try (rw [drewN_self w6]; generalize hq_ : World.drewN w6 _ = w6; have n0_ : Aside0 (w6.heap[gb203]? = some (.cells #[.int .u8 0, .int .u8 0, .int .u8 0, .int .u16 0, .int .u8 0, .int .u16 0, .int .u32 0, .int .u32 0, .slice none 0 0, .slice none 0 0] 73 (0, 0))) := ⟨by rw [← hq_]; exact (by (with_reducible repeat (first | refine blk_drewN ?_ _ | refine blk_drew ?_ | refine blk_alloc ?_ _)); exact BK203.out)⟩; have n1_ : Aside0 (Below w.heap.size w w6) := ⟨by rw [← hq_]; exact (by repeat (first | (with_reducible first | exact HB.out | apply below_alloc | apply pw_below_drewN | apply below_drew1 | refine below_set ?_ GE203.out) | exact HB.out))⟩; clear BK203 HB hq_; have BK203 := n0_; have HB := n1_; clear n0_ n1_))
 have n0_ := Aside0.mk (blk_drew BK203.out)
 have n1_ := Aside0.mk (below_drew1 HB.out)
 clear BK203
 clear HB
 have BK203 := n0_
 have HB := n1_
 clear n0_ n1_
 have p204 : 0 ≤ (0 : Int) := (by omega)
 have q204 : 0 < (l0.length : Int) := of_decide_eq_true (by first | (with_reducible assumption) | assumption)
 obtain ⟨ad204, e204, hx204_0⟩ := Kd.at_int HR0.out 0 p204 q204
 have hw204_0 := hx204_0
 (try rw [show ((0 : Int)).toNat = 0 from rfl] at hw204_0)
 (try rw [show 0 * 1 = 0 from rfl] at hw204_0)
 (try rw [Addr.add_zero'] at hw204_0)
 cases e204
 have qi204 : (0 < l0.length) = True := eq_true (by omega)
 (try rw [show ((0 : Int)).toNat = 0 from rfl] at hx204_0)
 (try rw [Addr.add_zero'] at hx204_0)
 replace hx204_0 := (HB.out.cell (World.block_lt_of_cell? w _ hx204_0)).trans hx204_0
 replace p204 := eq_true p204
 replace q204 := eq_true q204
 refine start_ (n := 11) (S := fun w' => w'.cell? ad204 = some (.int .u8 (rd l0 0))) (ds := []) #[false, false, false, false, false, false, false, false, false, false, false] (by kernel_rfl) rfl rfl (((HB.out.cell (World.block_lt_of_cell? w _ hw204_0)).trans hw204_0)) (fun hHeld => ?_); refine with_tabW ip_reader_packet.tab2 ip_reader_packet.bits2 (fun HT_ HW_ => ?_)
 generalize w6.drew = w7 at BK203 HB hx204_0 hHeld ⊢
 refine pure_ (i := 0) (N := some 10) (v := ?_) (a' := ?_) #[true, false, false, false, false, false, false, false, false, false, false] rfl rfl (any_of HT_.out (by kernel_rfl)) (fun _ _ _ h => h) (Or.inl ⟨by rfl, ?_⟩) ?_ ?_
 rotate_left
 ·intro w'
  go_simp
  with_reducible rfl
 rotate_left
 ·simp only [Act.put, List.setIfInBounds_toArray, List.set_cons_zero, List.set_cons_succ, i64_w, i32_w]
  rfl
 refine pure_ (i := 1) (N := some 11) (v := ?_) (a' := ?_) #[true, true, false, false, false, false, false, false, false, false, false] rfl rfl (any_of HT_.out (by kernel_rfl)) (fun _ _ _ h => h) (Or.inl ⟨by rfl, ?_⟩) ?_ ?_
 rotate_left
 ·intro w'
  go_simp
  with_reducible rfl
 rotate_left
 ·simp only [Act.put, List.setIfInBounds_toArray, List.set_cons_zero, List.set_cons_succ, i64_w, i32_w]
  rfl
 refine pure_ (i := 6) (N := some 16) (v := ?_) (a' := ?_) #[true, true, false, false, false, false, true, false, false, false, false] rfl rfl (any_of HT_.out (by kernel_rfl)) (fun _ _ _ h => h) (Or.inl ⟨by rfl, ?_⟩) ?_ ?_
 rotate_left
 ·intro w'
  go_simp
  with_reducible rfl
 rotate_left
 ·simp only [Act.put, List.setIfInBounds_toArray, List.set_cons_zero, List.set_cons_succ, i64_w, i32_w]
  rfl
 refine take_ (i := 2) (N := some 12) (v := ?_) (a' := ?_) #[true, true, true, false, false, false, true, false, false, false, false] rfl rfl (take_ofW HT_.out HW_.out (by kernel_rfl)) (fun _ _ _ h => h) (Or.inl ⟨by rfl, ?_⟩) hHeld ?_ ?_
 rotate_left
 ·intro w' s0
  go_simp
  with_reducible rfl
 rotate_left
 ·simp only [Act.put, List.setIfInBounds_toArray, List.set_cons_zero, List.set_cons_succ, i64_w, i32_w]
  rfl
 refine pure_ (i := 3) (N := some 13) (v := ?_) (a' := ?_) #[true, true, true, true, false, false, true, false, false, false, false] rfl rfl (any_of HT_.out (by kernel_rfl)) (fun _ _ _ h => h) (Or.inl ⟨by rfl, ?_⟩) ?_ ?_
 rotate_left
 ·intro w'
  go_simp
  with_reducible rfl
 rotate_left
 ·simp only [Act.put, List.setIfInBounds_toArray, List.set_cons_zero, List.set_cons_succ, i64_w, i32_w]
  rfl
 refine pure_ (i := 4) (N := some 14) (v := ?_) (a' := ?_) #[true, true, true, true, true, false, true, false, false, false, false] rfl rfl (any_of HT_.out (by kernel_rfl)) (fun _ _ _ h => h) (Or.inl ⟨by rfl, ?_⟩) ?_ ?_
 rotate_left
 ·intro w'
  go_simp
  with_reducible rfl
 rotate_left
 ·simp only [Act.put, List.setIfInBounds_toArray, List.set_cons_zero, List.set_cons_succ, i64_w, i32_w]
  rfl
 refine pure_ (i := 5) (N := some 15) (v := ?_) (a' := ?_) #[true, true, true, true, true, true, true, false, false, false, false] rfl rfl (any_of HT_.out (by kernel_rfl)) (fun _ _ _ h => h) (Or.inl ⟨by rfl, ?_⟩) ?_ ?_
 rotate_left
 ·intro w'
  go_simp
  with_reducible rfl
 rotate_left
 ·simp only [Act.put, List.setIfInBounds_toArray, List.set_cons_zero, List.set_cons_succ, i64_w, i32_w]
  rfl
 refine one_ (i := 7) (N := some 17) #[true, true, true, true, true, true, true, true, false, false, false] rfl rfl (one_of HT_.out (by kernel_rfl)) (by decide) (fun K hK => ?_)
 refine goes_ Try.func118 (by kernel_rfl) rfl #[.slice (some ad204) l0.length c0, .int .i64 2] (by rfl) rfl rfl (by (try simp only [List.map_toArray, List.map_cons, List.map_nil]); first | done | rfl | (simp only [List.length_drop, List.length_take]; rfl) | (go_simp; done) | (simp [Act.eval, IntKind.signed]; done) | (simp [Act.eval, IntKind.signed]; rfl)) ?_
 with_reducible refine (ip_reader_two.calls _ _ l0 2 t121 _ ?side1 ?side2 A4.out).mono ?_
 (case side1 => repeat (first | exact (Kd.C_below HR0.out HB.out) | (with_reducible refine Kd.C_alloc ?_ _) | (with_reducible refine Kd.C_drewN ?_ _) | (with_reducible refine Kd.C_drew ?_)))
 (case side2 => exact HC0.out)
 rintro e w' ⟨rfl, ⟨nd, rfl⟩⟩
 refine ⟨_, rfl, ?_⟩
 refine hK.out _ _ (((HB.out.cell (World.block_lt_of_cell? w _ hw204_0)).trans hw204_0)) (fun hHeld => ?_)
 clear hK K
 refine norm_ (a' := ?_) ?_ ?_
 rotate_left
 ·show Act.put _ (some 17) _ = _
  simp only [Act.put, List.setIfInBounds_toArray, List.set_cons_zero, List.set_cons_succ, i64_w, i32_w]
  rfl
 refine pure_ (i := 8) (N := some 18) (v := ?_) (a' := ?_) #[true, true, true, true, true, true, true, true, true, false, false] rfl rfl (any_of HT_.out (by kernel_rfl)) (fun _ _ _ h => h) (Or.inl ⟨by rfl, ?_⟩) ?_ ?_
 rotate_left
 ·intro w'
  go_simp
  with_reducible rfl
 rotate_left
 ·simp only [Act.put, List.setIfInBounds_toArray, List.set_cons_zero, List.set_cons_succ, i64_w, i32_w]
  rfl
 refine pure_ (i := 9) (N := some 3) (v := ?_) (a' := ?_) #[true, true, true, true, true, true, true, true, true, true, false] rfl rfl (any_of HT_.out (by kernel_rfl)) (fun _ _ _ h => h) (Or.inl ⟨by rfl, ?_⟩) ?_ ?_
 rotate_left
 ·intro w'
  go_simp
  with_reducible rfl
 rotate_left
 ·simp only [Act.put, List.setIfInBounds_toArray, List.set_cons_zero, List.set_cons_succ, i64_w, i32_w]
  rfl
 refine pure_ (i := 10) (N := some 4) (v := ?_) (a' := ?_) #[true, true, true, true, true, true, true, true, true, true, true] rfl rfl (any_of HT_.out (by kernel_rfl)) (fun _ _ _ h => h) (Or.inl ⟨by rfl, ?_⟩) ?_ ?_
 rotate_left
 ·intro w'
  go_simp
  with_reducible rfl
 rotate_left
 ·simp only [Act.put, List.setIfInBounds_toArray, List.set_cons_zero, List.set_cons_succ, i64_w, i32_w]
  rfl
 refine done_ (done_of HT_.out (by kernel_rfl)) ?_
 go_upto_region 3 with (fail)
 by_cases c8 : ((rd l0 0) / 16) = 4
 ·have c8b0 : (((rd l0 0) / 16) == 4) = true := beq_iff_eq.mpr c8
  have c8b1 : (((rd l0 0) / 16) != 4) = false := bne_eq_false_iff_eq.mpr c8
  (first | rw [c8b0] | (simp only [i64_w, i32_w]; rw [c8b0]) | skip)
  by_cases c9 : (wrap64 (4 * (wrap64 (Go.bits .and .u8 (rd l0 0) 15)))) ≥ 20
  ·have c9b0 : decide (20 ≤ (wrap64 (4 * (wrap64 (Go.bits .and .u8 (rd l0 0) 15))))) = true := decide_eq_true c9
   have hd_ : decide ((wrap64 (t121)) ≥ (wrap64 (4 * (wrap64 (Go.bits .and .u8 (rd l0 0) 15))))) = false := decide_eq_false (fun hx => HF.out ⟨c8, c9, hx⟩)
   have HD := Aside0.mk hd_
   clear hd_ c8 c9
   have p206 : 0 ≤ (0 : Int) := (by omega)
   have q206 : 0 < (l0.length : Int) := of_decide_eq_true (by first | (with_reducible assumption) | assumption)
   obtain ⟨ad206, e206, hx206_0⟩ := Kd.at_int HR0.out 0 p206 q206
   obtain rfl : ad204 = ad206 := (by injection e206)
   have qi206 : (0 < l0.length) = True := eq_true (by omega)
   (try rw [show ((0 : Int)).toNat = 0 from rfl] at hx206_0)
   (try rw [Addr.add_zero'] at hx206_0)
   replace hx206_0 := (HB.out.cell (World.block_lt_of_cell? w _ hx206_0)).trans hx206_0
   replace p206 := eq_true p206
   replace q206 := eq_true q206
   go_wp2_with (first | ((with_reducible refine gate_callee (f := 117) rfl ?_); refine ip_Parse.goesP (some 33) rfl rfl Try.func117 (by kernel_rfl) rfl #[.bool (decide ((wrap64 (t121)) ≥ (wrap64 (4 * (wrap64 (Go.bits .and .u8 (rd l0 0) 15)))))), .int .i64 21] rfl (by (try simp only [List.map_toArray, List.map_cons, List.map_nil]); first | done | rfl | (simp only [List.length_drop, List.length_take]; rfl) | (go_simp; done) | (simp [Act.eval, IntKind.signed]; done) | (simp [Act.eval, IntKind.signed]; rfl)) ?_; (with_reducible refine (ip_must.panics (decide ((wrap64 (t121)) ≥ (wrap64 (4 * (wrap64 (Go.bits .and .u8 (rd l0 0) 15)))))) 21 _ HD.out).mono ?_); rintro e w' ⟨rfl, ⟨nd, rfl⟩⟩; refine ⟨_, rfl, ?_⟩; exact ⟨rfl, rfl, by repeat (first | (with_reducible first | exact HB.out | apply below_alloc | apply pw_below_drewN | apply below_drew1) | exact HB.out)⟩))
  ·have c9b0 : decide (20 ≤ (wrap64 (4 * (wrap64 (Go.bits .and .u8 (rd l0 0) 15))))) = false := decide_eq_false c9
   clear c8 c9
   have p206 : 0 ≤ (0 : Int) := (by omega)
   have q206 : 0 < (l0.length : Int) := of_decide_eq_true (by first | (with_reducible assumption) | assumption)
   obtain ⟨ad206, e206, hx206_0⟩ := Kd.at_int HR0.out 0 p206 q206
   obtain rfl : ad204 = ad206 := (by injection e206)
   have qi206 : (0 < l0.length) = True := eq_true (by omega)
   (try rw [show ((0 : Int)).toNat = 0 from rfl] at hx206_0)
   (try rw [Addr.add_zero'] at hx206_0)
   replace hx206_0 := (HB.out.cell (World.block_lt_of_cell? w _ hx206_0)).trans hx206_0
   replace p206 := eq_true p206
   replace q206 := eq_true q206
   go_wp2_with (first | ((with_reducible refine gate_callee (f := 117) rfl ?_); refine ip_Parse.goesP (some 33) rfl rfl Try.func117 (by kernel_rfl) rfl #[.bool false, .int .i64 21] rfl (by (try simp only [List.map_toArray, List.map_cons, List.map_nil]); first | done | rfl | (simp only [List.length_drop, List.length_take]; rfl) | (go_simp; done) | (simp [Act.eval, IntKind.signed]; done) | (simp [Act.eval, IntKind.signed]; rfl)) ?_; (with_reducible refine (ip_must.panics false 21 _ rfl).mono ?_); rintro e w' ⟨rfl, ⟨nd, rfl⟩⟩; refine ⟨_, rfl, ?_⟩; exact ⟨rfl, rfl, by repeat (first | (with_reducible first | exact HB.out | apply below_alloc | apply pw_below_drewN | apply below_drew1) | exact HB.out)⟩))
 ·have c8b0 : (((rd l0 0) / 16) == 4) = false := beq_eq_false_iff_ne.mpr c8
  have c8b1 : (((rd l0 0) / 16) != 4) = true := bne_iff_ne.mpr c8
  (first | rw [c8b0] | (simp only [i64_w, i32_w]; rw [c8b0]) | skip)
  clear c8
  have p206 : 0 ≤ (0 : Int) := (by omega)
  have q206 : 0 < (l0.length : Int) := of_decide_eq_true (by first | (with_reducible assumption) | assumption)
  obtain ⟨ad206, e206, hx206_0⟩ := Kd.at_int HR0.out 0 p206 q206
  obtain rfl : ad204 = ad206 := (by injection e206)
  have qi206 : (0 < l0.length) = True := eq_true (by omega)
  (try rw [show ((0 : Int)).toNat = 0 from rfl] at hx206_0)
  (try rw [Addr.add_zero'] at hx206_0)
  replace hx206_0 := (HB.out.cell (World.block_lt_of_cell? w _ hx206_0)).trans hx206_0
  replace p206 := eq_true p206
  replace q206 := eq_true q206
  go_wp2_with (first | ((with_reducible refine gate_callee (f := 117) rfl ?_); refine ip_Parse.goesP (some 33) rfl rfl Try.func117 (by kernel_rfl) rfl #[.bool false, .int .i64 21] rfl (by (try simp only [List.map_toArray, List.map_cons, List.map_nil]); first | done | rfl | (simp only [List.length_drop, List.length_take]; rfl) | (go_simp; done) | (simp [Act.eval, IntKind.signed]; done) | (simp [Act.eval, IntKind.signed]; rfl)) ?_; (with_reducible refine (ip_must.panics false 21 _ rfl).mono ?_); rintro e w' ⟨rfl, ⟨nd, rfl⟩⟩; refine ⟨_, rfl, ?_⟩; exact ⟨rfl, rfl, by repeat (first | (with_reducible first | exact HB.out | apply below_alloc | apply pw_below_drewN | apply below_drew1) | exact HB.out)⟩))
set_option maxHeartbeats 8000000 in
set_option maxRecDepth 100000 in
theorem ip_reader_packet.pan3 (t121 : Int) (A0 : Option Addr) (c0 : Nat) (l0 : List Int) (w : World) (hr0 : Kd.C (Kd.int .u8) w A0 l0.length l0) (hc0 : l0.length ≤ c0) (hlen : (l0.length : Int) ≥ 20) (h2 : ip_reader_two.f l0 2 = some t121) (hf : (rd l0 0) / 16 = 4 ∧ (wrap64 (4 * (wrap64 (Go.bits .and .u8 (rd l0 0) 15)))) ≥ 20 ∧ (wrap64 (t121)) ≥ (wrap64 (4 * (wrap64 (Go.bits .and .u8 (rd l0 0) 15))))) (hs : (l0.length : Int) < (wrap64 (t121))) :
  Calls Try.prog 95 #[.slice A0 l0.length c0] w fun e w' => e = .panicked [{ v := .iface 163 (.agg #[.int .i64 20]), recovered := false }] ∧ Below w.heap.size w w' := by
 have hu30 := Try.underlying73
 have HR0 := Aside0.mk hr0
 have HC0 := Aside0.mk hc0
 clear hr0 hc0
 have HB := Aside0.mk (Below.refl w.heap.size w)
 have hd_ : decide ((l0.length : Int) ≥ (wrap64 (t121))) = false := decide_eq_false (by omega)
 have HD := Aside0.mk hd_
 clear hd_ hs
 have A10 : Aside0 (ip_must.f (decide ((wrap64 (t121)) ≥ (wrap64 (4 * (wrap64 (Go.bits .and .u8 (rd l0 0) 15)))))) 21 = some ()) := ⟨by unfold ip_must.f; rw [decide_eq_true hf.2.2, if_pos rfl]⟩
 have c8b0 : (((rd l0 0) / 16) == 4) = true := beq_iff_eq.mpr hf.1
 have c8b1 : (((rd l0 0) / 16) != 4) = false := bne_eq_false_iff_eq.mpr hf.1
 have c9b0 : decide (20 ≤ (wrap64 (4 * (wrap64 (Go.bits .and .u8 (rd l0 0) 15))))) = true := decide_eq_true hf.2.1
 clear hf
 have A2 : Aside0 (ip_must.f (decide ((l0.length : Int) ≥ 20)) 20 = some ()) := ⟨by unfold ip_must.f; rw [decide_eq_true hlen, if_pos rfl]⟩
 have A4 := Aside0.mk h2
 have c3b0 : decide (0 < (l0.length : Int)) = true := decide_eq_true (by omega)
 have c3b1 : decide (0 < l0.length) = true := decide_eq_true (by omega)
 clear hlen h2
 go_enter Try.func95, Try.ntmps95
 try go_wp2_with (first | ((with_reducible refine gate_dst (N := 2) rfl ?_); refine box_event ?hg (N := 2) ?hd (cs := #[.int .u8 0, .int .u8 0, .int .u8 0, .int .u16 0, .int .u8 0, .int .u16 0, .int .u32 0, .int .u32 0, .slice none 0 0, .slice none 0 0]) (t := 73) ?hr ?_; (case hd => rfl); (case hg => rfl); (case hr => first | (go_simp; done) | (go_simp; rfl)); intro gb203 hg w6 hbox hb; have n0_ := Aside0.mk (below_step (by repeat (first | (with_reducible first | exact HB.out | apply below_alloc | apply pw_below_drewN | apply below_drew1) | exact HB.out)) hb); have n1_ := Aside0.mk (hbox); have n2_ := Aside0.mk ((by rw [hg]; exact (below_size (by repeat (first | (with_reducible first | exact HB.out | apply below_alloc | apply pw_below_drewN | apply below_drew1) | exact HB.out))) : w.heap.size ≤ gb203)); have n3_ := Aside0.mk ((by rw [hg]; exact (below_size (by repeat (first | (with_reducible first | exact HB.out | apply below_alloc | apply pw_below_drewN | apply below_drew1) | exact HB.out))) : w.heap.size ≤ gb203)); clear HB; have HB := n0_; have BK203 := n1_; have GW203 := n2_; have GE203 := n3_; clear n0_ n1_ n2_ n3_; clear hb hbox hg) | ((with_reducible refine gate_callee (f := 117) rfl ?_); refine goesL_ (some 9) rfl rfl Try.func117 (by kernel_rfl) rfl #[.bool (decide ((l0.length : Int) ≥ 20)), .int .i64 20] rfl (by (try simp only [List.map_toArray, List.map_cons, List.map_nil]); first | done | rfl | (simp only [List.length_drop, List.length_take]; rfl) | (go_simp; done) | (simp [Act.eval, IntKind.signed]; done) | (simp [Act.eval, IntKind.signed]; rfl)) ?_; (with_reducible refine (ip_must.calls (decide ((l0.length : Int) ≥ 20)) 20  _ A2.out).mono ?_); rintro e w' ⟨rfl, ⟨nd, rfl⟩⟩; refine ⟨_, rfl, ?_⟩))
 (try (rw [drewN_self w6]; generalize hq_ : World.drewN w6 _ = w6; have n0_ : Aside0 (w6.heap[gb203]? = some (.cells #[.int .u8 0, .int .u8 0, .int .u8 0, .int .u16 0, .int .u8 0, .int .u16 0, .int .u32 0, .int .u32 0, .slice none 0 0, .slice none 0 0] 73 (0, 0))) := ⟨by rw [← hq_]; exact (by (with_reducible repeat (first | refine blk_drewN ?_ _ | refine blk_drew ?_ | refine blk_alloc ?_ _)); exact BK203.out)⟩; have n1_ : Aside0 (Below w.heap.size w w6) := ⟨by rw [← hq_]; exact (by repeat (first | (with_reducible first | exact HB.out | apply below_alloc | apply pw_below_drewN | apply below_drew1 | refine below_set ?_ GE203.out) | exact HB.out))⟩; clear BK203 HB hq_; have BK203 := n0_; have HB := n1_; clear n0_ n1_))
 have n0_ := Aside0.mk (blk_drew BK203.out)
 have n1_ := Aside0.mk (below_drew1 HB.out)
 clear BK203
 clear HB
 have BK203 := n0_
 have HB := n1_
 clear n0_ n1_
 have p204 : 0 ≤ (0 : Int) := (by omega)
 have q204 : 0 < (l0.length : Int) := of_decide_eq_true (by first | (with_reducible assumption) | assumption)
 obtain ⟨ad204, e204, hx204_0⟩ := Kd.at_int HR0.out 0 p204 q204
 have hw204_0 := hx204_0
 (try rw [show ((0 : Int)).toNat = 0 from rfl] at hw204_0)
 (try rw [show 0 * 1 = 0 from rfl] at hw204_0)
 (try rw [Addr.add_zero'] at hw204_0)
 cases e204
 have qi204 : (0 < l0.length) = True := eq_true (by omega)
 (try rw [show ((0 : Int)).toNat = 0 from rfl] at hx204_0)
 (try rw [Addr.add_zero'] at hx204_0)
 replace hx204_0 := (HB.out.cell (World.block_lt_of_cell? w _ hx204_0)).trans hx204_0
 replace p204 := eq_true p204
 replace q204 := eq_true q204
 refine start_ (n := 11) (S := fun w' => w'.cell? ad204 = some (.int .u8 (rd l0 0))) (ds := []) #[false, false, false, false, false, false, false, false, false, false, false] (by kernel_rfl) rfl rfl (((HB.out.cell (World.block_lt_of_cell? w _ hw204_0)).trans hw204_0)) (fun hHeld => ?_); refine with_tabW ip_reader_packet.tab2 ip_reader_packet.bits2 (fun HT_ HW_ => ?_)
 generalize w6.drew = w7 at BK203 HB hx204_0 hHeld ⊢
 refine pure_ (i := 0) (N := some 10) (v := ?_) (a' := ?_) #[true, false, false, false, false, false, false, false, false, false, false] rfl rfl (any_of HT_.out (by kernel_rfl)) (fun _ _ _ h => h) (Or.inl ⟨by rfl, ?_⟩) ?_ ?_
 rotate_left
 ·intro w'
  go_simp
  with_reducible rfl
 rotate_left
 ·simp only [Act.put, List.setIfInBounds_toArray, List.set_cons_zero, List.set_cons_succ, i64_w, i32_w]
  rfl
 refine pure_ (i := 1) (N := some 11) (v := ?_) (a' := ?_) #[true, true, false, false, false, false, false, false, false, false, false] rfl rfl (any_of HT_.out (by kernel_rfl)) (fun _ _ _ h => h) (Or.inl ⟨by rfl, ?_⟩) ?_ ?_
 rotate_left
 ·intro w'
  go_simp
  with_reducible rfl
 rotate_left
 ·simp only [Act.put, List.setIfInBounds_toArray, List.set_cons_zero, List.set_cons_succ, i64_w, i32_w]
  rfl
 refine pure_ (i := 6) (N := some 16) (v := ?_) (a' := ?_) #[true, true, false, false, false, false, true, false, false, false, false] rfl rfl (any_of HT_.out (by kernel_rfl)) (fun _ _ _ h => h) (Or.inl ⟨by rfl, ?_⟩) ?_ ?_
 rotate_left
 ·intro w'
  go_simp
  with_reducible rfl
 rotate_left
 ·simp only [Act.put, List.setIfInBounds_toArray, List.set_cons_zero, List.set_cons_succ, i64_w, i32_w]
  rfl
 refine take_ (i := 2) (N := some 12) (v := ?_) (a' := ?_) #[true, true, true, false, false, false, true, false, false, false, false] rfl rfl (take_ofW HT_.out HW_.out (by kernel_rfl)) (fun _ _ _ h => h) (Or.inl ⟨by rfl, ?_⟩) hHeld ?_ ?_
 rotate_left
 ·intro w' s0
  go_simp
  with_reducible rfl
 rotate_left
 ·simp only [Act.put, List.setIfInBounds_toArray, List.set_cons_zero, List.set_cons_succ, i64_w, i32_w]
  rfl
 refine pure_ (i := 3) (N := some 13) (v := ?_) (a' := ?_) #[true, true, true, true, false, false, true, false, false, false, false] rfl rfl (any_of HT_.out (by kernel_rfl)) (fun _ _ _ h => h) (Or.inl ⟨by rfl, ?_⟩) ?_ ?_
 rotate_left
 ·intro w'
  go_simp
  with_reducible rfl
 rotate_left
 ·simp only [Act.put, List.setIfInBounds_toArray, List.set_cons_zero, List.set_cons_succ, i64_w, i32_w]
  rfl
 refine pure_ (i := 4) (N := some 14) (v := ?_) (a' := ?_) #[true, true, true, true, true, false, true, false, false, false, false] rfl rfl (any_of HT_.out (by kernel_rfl)) (fun _ _ _ h => h) (Or.inl ⟨by rfl, ?_⟩) ?_ ?_
 rotate_left
 ·intro w'
  go_simp
  with_reducible rfl
 rotate_left
 ·simp only [Act.put, List.setIfInBounds_toArray, List.set_cons_zero, List.set_cons_succ, i64_w, i32_w]
  rfl
 refine pure_ (i := 5) (N := some 15) (v := ?_) (a' := ?_) #[true, true, true, true, true, true, true, false, false, false, false] rfl rfl (any_of HT_.out (by kernel_rfl)) (fun _ _ _ h => h) (Or.inl ⟨by rfl, ?_⟩) ?_ ?_
 rotate_left
 ·intro w'
  go_simp
  with_reducible rfl
 rotate_left
 ·simp only [Act.put, List.setIfInBounds_toArray, List.set_cons_zero, List.set_cons_succ, i64_w, i32_w]
  rfl
 refine one_ (i := 7) (N := some 17) #[true, true, true, true, true, true, true, true, false, false, false] rfl rfl (one_of HT_.out (by kernel_rfl)) (by decide) (fun K hK => ?_)
 refine goes_ Try.func118 (by kernel_rfl) rfl #[.slice (some ad204) l0.length c0, .int .i64 2] (by rfl) rfl rfl (by (try simp only [List.map_toArray, List.map_cons, List.map_nil]); first | done | rfl | (simp only [List.length_drop, List.length_take]; rfl) | (go_simp; done) | (simp [Act.eval, IntKind.signed]; done) | (simp [Act.eval, IntKind.signed]; rfl)) ?_
 with_reducible refine (ip_reader_two.calls _ _ l0 2 t121 _ ?side1 ?side2 A4.out).mono ?_
 (case side1 => repeat (first | exact (Kd.C_below HR0.out HB.out) | (with_reducible refine Kd.C_alloc ?_ _) | (with_reducible refine Kd.C_drewN ?_ _) | (with_reducible refine Kd.C_drew ?_)))
 (case side2 => exact HC0.out)
 rintro e w' ⟨rfl, ⟨nd, rfl⟩⟩
 refine ⟨_, rfl, ?_⟩
 refine hK.out _ _ (((HB.out.cell (World.block_lt_of_cell? w _ hw204_0)).trans hw204_0)) (fun hHeld => ?_)
 clear hK K
 refine norm_ (a' := ?_) ?_ ?_
 rotate_left
 ·show Act.put _ (some 17) _ = _
  simp only [Act.put, List.setIfInBounds_toArray, List.set_cons_zero, List.set_cons_succ, i64_w, i32_w]
  rfl
 refine pure_ (i := 8) (N := some 18) (v := ?_) (a' := ?_) #[true, true, true, true, true, true, true, true, true, false, false] rfl rfl (any_of HT_.out (by kernel_rfl)) (fun _ _ _ h => h) (Or.inl ⟨by rfl, ?_⟩) ?_ ?_
 rotate_left
 ·intro w'
  go_simp
  with_reducible rfl
 rotate_left
 ·simp only [Act.put, List.setIfInBounds_toArray, List.set_cons_zero, List.set_cons_succ, i64_w, i32_w]
  rfl
 refine pure_ (i := 9) (N := some 3) (v := ?_) (a' := ?_) #[true, true, true, true, true, true, true, true, true, true, false] rfl rfl (any_of HT_.out (by kernel_rfl)) (fun _ _ _ h => h) (Or.inl ⟨by rfl, ?_⟩) ?_ ?_
 rotate_left
 ·intro w'
  go_simp
  with_reducible rfl
 rotate_left
 ·simp only [Act.put, List.setIfInBounds_toArray, List.set_cons_zero, List.set_cons_succ, i64_w, i32_w]
  rfl
 refine pure_ (i := 10) (N := some 4) (v := ?_) (a' := ?_) #[true, true, true, true, true, true, true, true, true, true, true] rfl rfl (any_of HT_.out (by kernel_rfl)) (fun _ _ _ h => h) (Or.inl ⟨by rfl, ?_⟩) ?_ ?_
 rotate_left
 ·intro w'
  go_simp
  with_reducible rfl
 rotate_left
 ·simp only [Act.put, List.setIfInBounds_toArray, List.set_cons_zero, List.set_cons_succ, i64_w, i32_w]
  rfl
 refine done_ (done_of HT_.out (by kernel_rfl)) ?_
 go_upto_region 3 with (fail)
 (first | rw [c8b0] | (simp only [i64_w, i32_w]; rw [c8b0]) | skip)
 have p206 : 0 ≤ (0 : Int) := (by omega)
 have q206 : 0 < (l0.length : Int) := of_decide_eq_true (by first | (with_reducible assumption) | assumption)
 obtain ⟨ad206, e206, hx206_0⟩ := Kd.at_int HR0.out 0 p206 q206
 obtain rfl : ad204 = ad206 := (by injection e206)
 have qi206 : (0 < l0.length) = True := eq_true (by omega)
 (try rw [show ((0 : Int)).toNat = 0 from rfl] at hx206_0)
 (try rw [Addr.add_zero'] at hx206_0)
 replace hx206_0 := (HB.out.cell (World.block_lt_of_cell? w _ hx206_0)).trans hx206_0
 replace p206 := eq_true p206
 replace q206 := eq_true q206
 go_wp2_with (first | ((with_reducible refine gate_callee (f := 117) rfl ?_); refine goesL_ (some 33) rfl rfl Try.func117 (by kernel_rfl) rfl #[.bool (decide ((wrap64 (t121)) ≥ (wrap64 (4 * (wrap64 (Go.bits .and .u8 (rd l0 0) 15)))))), .int .i64 21] rfl (by (try simp only [List.map_toArray, List.map_cons, List.map_nil]); first | done | rfl | (simp only [List.length_drop, List.length_take]; rfl) | (go_simp; done) | (simp [Act.eval, IntKind.signed]; done) | (simp [Act.eval, IntKind.signed]; rfl)) ?_; (with_reducible refine (ip_must.calls (decide ((wrap64 (t121)) ≥ (wrap64 (4 * (wrap64 (Go.bits .and .u8 (rd l0 0) 15)))))) 21  _ A10.out).mono ?_); rintro e w' ⟨rfl, ⟨nd, rfl⟩⟩; refine ⟨_, rfl, ?_⟩) | ((with_reducible refine gate_callee (f := 117) rfl ?_); refine ip_Parse.goesP (some 38) rfl rfl Try.func117 (by kernel_rfl) rfl #[.bool (decide ((l0.length : Int) ≥ (wrap64 (t121)))), .int .i64 20] rfl (by (try simp only [List.map_toArray, List.map_cons, List.map_nil]); first | done | rfl | (simp only [List.length_drop, List.length_take]; rfl) | (go_simp; done) | (simp [Act.eval, IntKind.signed]; done) | (simp [Act.eval, IntKind.signed]; rfl)) ?_; (with_reducible refine (ip_must.panics (decide ((l0.length : Int) ≥ (wrap64 (t121)))) 20 _ HD.out).mono ?_); rintro e w' ⟨rfl, ⟨nd, rfl⟩⟩; refine ⟨_, rfl, ?_⟩; exact ⟨rfl, rfl, by repeat (first | (with_reducible first | exact HB.out | apply below_alloc | apply pw_below_drewN | apply below_drew1) | exact HB.out)⟩))
set_option maxHeartbeats 8000000 in
set_option maxRecDepth 100000 in
theorem ip_reader_packet.pan4 (k : Nat) (t121 t124 t125 : Int) (A0 : Option Addr) (c0 : Nat) (l0 : List Int) (w : World) (hr0 : Kd.C (Kd.int .u8) w A0 l0.length l0) (hc0 : l0.length ≤ c0) (hlen : (l0.length : Int) ≥ 20) (h2 : ip_reader_two.f l0 2 = some t121) (hf : (rd l0 0) / 16 = 4 ∧ (wrap64 (4 * (wrap64 (Go.bits .and .u8 (rd l0 0) 15)))) ≥ 20 ∧ (wrap64 (t121)) ≥ (wrap64 (4 * (wrap64 (Go.bits .and .u8 (rd l0 0) 15))))) (hs : (l0.length : Int) ≥ (wrap64 (t121))) (ha : sum_Add.f k 0 (l0.take ((wrap64 (4 * (wrap64 (Go.bits .and .u8 (rd l0 0) 15)))) : Int).toNat) = some t124) (hb_ : sum_Fold.f k t124 = some t125) (hx : t125 ≠ 65535) :
  Calls Try.prog 95 #[.slice A0 l0.length c0] w fun e w' => e = .panicked [{ v := .iface 163 (.agg #[.int .i64 22]), recovered := false }] ∧ Below w.heap.size w w' := by
 have hu30 := Try.underlying73
 have HR0 := Aside0.mk hr0
 have HC0 := Aside0.mk hc0
 clear hr0 hc0
 have HB := Aside0.mk (Below.refl w.heap.size w)
 have HD : Aside0 ((t125 == 65535) = false) := ⟨beq_eq_false_iff_ne.mpr hx⟩
 clear hx
 have A13 : Aside0 (ip_must.f (decide ((l0.length : Int) ≥ (wrap64 (t121)))) 20 = some ()) := ⟨by unfold ip_must.f; rw [decide_eq_true hs, if_pos rfl]⟩
 have A17 := Aside0.mk ha
 have A18 := Aside0.mk hb_
 have c15b1 : decide (0 ≤ (wrap64 (4 * (wrap64 (Go.bits .and .u8 (rd l0 0) 15))))) = true := decide_eq_true (by omega)
 have c16b1 : decide ((wrap64 (4 * (wrap64 (Go.bits .and .u8 (rd l0 0) 15)))) ≤ (l0.length : Int)) = true := decide_eq_true (by omega)
 have c15b0 := eq_true (of_decide_eq_true c15b1)
 have c16b0 := eq_true (of_decide_eq_true c16b1)
 have A10 : Aside0 (ip_must.f (decide ((wrap64 (t121)) ≥ (wrap64 (4 * (wrap64 (Go.bits .and .u8 (rd l0 0) 15)))))) 21 = some ()) := ⟨by unfold ip_must.f; rw [decide_eq_true hf.2.2, if_pos rfl]⟩
 have c8b0 : (((rd l0 0) / 16) == 4) = true := beq_iff_eq.mpr hf.1
 have c8b1 : (((rd l0 0) / 16) != 4) = false := bne_eq_false_iff_eq.mpr hf.1
 have c9b0 : decide (20 ≤ (wrap64 (4 * (wrap64 (Go.bits .and .u8 (rd l0 0) 15))))) = true := decide_eq_true hf.2.1
 clear hf hs ha hb_
 have A2 : Aside0 (ip_must.f (decide ((l0.length : Int) ≥ 20)) 20 = some ()) := ⟨by unfold ip_must.f; rw [decide_eq_true hlen, if_pos rfl]⟩
 have A4 := Aside0.mk h2
 have c3b0 : decide (0 < (l0.length : Int)) = true := decide_eq_true (by omega)
 have c3b1 : decide (0 < l0.length) = true := decide_eq_true (by omega)
 clear hlen h2
 go_enter Try.func95, Try.ntmps95
 try go_wp2_with (first | ((with_reducible refine gate_dst (N := 2) rfl ?_); refine box_event ?hg (N := 2) ?hd (cs := #[.int .u8 0, .int .u8 0, .int .u8 0, .int .u16 0, .int .u8 0, .int .u16 0, .int .u32 0, .int .u32 0, .slice none 0 0, .slice none 0 0]) (t := 73) ?hr ?_; (case hd => rfl); (case hg => rfl); (case hr => first | (go_simp; done) | (go_simp; rfl)); intro gb203 hg w6 hbox hb; have n0_ := Aside0.mk (below_step (by repeat (first | (with_reducible first | exact HB.out | apply below_alloc | apply pw_below_drewN | apply below_drew1) | exact HB.out)) hb); have n1_ := Aside0.mk (hbox); have n2_ := Aside0.mk ((by rw [hg]; exact (below_size (by repeat (first | (with_reducible first | exact HB.out | apply below_alloc | apply pw_below_drewN | apply below_drew1) | exact HB.out))) : w.heap.size ≤ gb203)); have n3_ := Aside0.mk ((by rw [hg]; exact (below_size (by repeat (first | (with_reducible first | exact HB.out | apply below_alloc | apply pw_below_drewN | apply below_drew1) | exact HB.out))) : w.heap.size ≤ gb203)); clear HB; have HB := n0_; have BK203 := n1_; have GW203 := n2_; have GE203 := n3_; clear n0_ n1_ n2_ n3_; clear hb hbox hg) | ((with_reducible refine gate_callee (f := 117) rfl ?_); refine goesL_ (some 9) rfl rfl Try.func117 (by kernel_rfl) rfl #[.bool (decide ((l0.length : Int) ≥ 20)), .int .i64 20] rfl (by (try simp only [List.map_toArray, List.map_cons, List.map_nil]); first | done | rfl | (simp only [List.length_drop, List.length_take]; rfl) | (go_simp; done) | (simp [Act.eval, IntKind.signed]; done) | (simp [Act.eval, IntKind.signed]; rfl)) ?_; (with_reducible refine (ip_must.calls (decide ((l0.length : Int) ≥ 20)) 20  _ A2.out).mono ?_); rintro e w' ⟨rfl, ⟨nd, rfl⟩⟩; refine ⟨_, rfl, ?_⟩))
 (try (rw [drewN_self w6]; generalize hq_ : World.drewN w6 _ = w6; have n0_ : Aside0 (w6.heap[gb203]? = some (.cells #[.int .u8 0, .int .u8 0, .int .u8 0, .int .u16 0, .int .u8 0, .int .u16 0, .int .u32 0, .int .u32 0, .slice none 0 0, .slice none 0 0] 73 (0, 0))) := ⟨by rw [← hq_]; exact (by (with_reducible repeat (first | refine blk_drewN ?_ _ | refine blk_drew ?_ | refine blk_alloc ?_ _)); exact BK203.out)⟩; have n1_ : Aside0 (Below w.heap.size w w6) := ⟨by rw [← hq_]; exact (by repeat (first | (with_reducible first | exact HB.out | apply below_alloc | apply pw_below_drewN | apply below_drew1 | refine below_set ?_ GE203.out) | exact HB.out))⟩; clear BK203 HB hq_; have BK203 := n0_; have HB := n1_; clear n0_ n1_))
 have n0_ := Aside0.mk (blk_drew BK203.out)
 have n1_ := Aside0.mk (below_drew1 HB.out)
 clear BK203
 clear HB
 have BK203 := n0_
 have HB := n1_
 clear n0_ n1_
 have p204 : 0 ≤ (0 : Int) := (by omega)
 have q204 : 0 < (l0.length : Int) := of_decide_eq_true (by first | (with_reducible assumption) | assumption)
 obtain ⟨ad204, e204, hx204_0⟩ := Kd.at_int HR0.out 0 p204 q204
 have hw204_0 := hx204_0
 (try rw [show ((0 : Int)).toNat = 0 from rfl] at hw204_0)
 (try rw [show 0 * 1 = 0 from rfl] at hw204_0)
 (try rw [Addr.add_zero'] at hw204_0)
 cases e204
 have qi204 : (0 < l0.length) = True := eq_true (by omega)
 (try rw [show ((0 : Int)).toNat = 0 from rfl] at hx204_0)
 (try rw [Addr.add_zero'] at hx204_0)
 replace hx204_0 := (HB.out.cell (World.block_lt_of_cell? w _ hx204_0)).trans hx204_0
 replace p204 := eq_true p204
 replace q204 := eq_true q204
 refine start_ (n := 11) (S := fun w' => w'.cell? ad204 = some (.int .u8 (rd l0 0))) (ds := []) #[false, false, false, false, false, false, false, false, false, false, false] (by kernel_rfl) rfl rfl (((HB.out.cell (World.block_lt_of_cell? w _ hw204_0)).trans hw204_0)) (fun hHeld => ?_); refine with_tabW ip_reader_packet.tab2 ip_reader_packet.bits2 (fun HT_ HW_ => ?_)
 generalize w6.drew = w7 at BK203 HB hx204_0 hHeld ⊢
 refine pure_ (i := 0) (N := some 10) (v := ?_) (a' := ?_) #[true, false, false, false, false, false, false, false, false, false, false] rfl rfl (any_of HT_.out (by kernel_rfl)) (fun _ _ _ h => h) (Or.inl ⟨by rfl, ?_⟩) ?_ ?_
 rotate_left
 ·intro w'
  go_simp
  with_reducible rfl
 rotate_left
 ·simp only [Act.put, List.setIfInBounds_toArray, List.set_cons_zero, List.set_cons_succ, i64_w, i32_w]
  rfl
 refine pure_ (i := 1) (N := some 11) (v := ?_) (a' := ?_) #[true, true, false, false, false, false, false, false, false, false, false] rfl rfl (any_of HT_.out (by kernel_rfl)) (fun _ _ _ h => h) (Or.inl ⟨by rfl, ?_⟩) ?_ ?_
 rotate_left
 ·intro w'
  go_simp
  with_reducible rfl
 rotate_left
 ·simp only [Act.put, List.setIfInBounds_toArray, List.set_cons_zero, List.set_cons_succ, i64_w, i32_w]
  rfl
 refine pure_ (i := 6) (N := some 16) (v := ?_) (a' := ?_) #[true, true, false, false, false, false, true, false, false, false, false] rfl rfl (any_of HT_.out (by kernel_rfl)) (fun _ _ _ h => h) (Or.inl ⟨by rfl, ?_⟩) ?_ ?_
 rotate_left
 ·intro w'
  go_simp
  with_reducible rfl
 rotate_left
 ·simp only [Act.put, List.setIfInBounds_toArray, List.set_cons_zero, List.set_cons_succ, i64_w, i32_w]
  rfl
 refine take_ (i := 2) (N := some 12) (v := ?_) (a' := ?_) #[true, true, true, false, false, false, true, false, false, false, false] rfl rfl (take_ofW HT_.out HW_.out (by kernel_rfl)) (fun _ _ _ h => h) (Or.inl ⟨by rfl, ?_⟩) hHeld ?_ ?_
 rotate_left
 ·intro w' s0
  go_simp
  with_reducible rfl
 rotate_left
 ·simp only [Act.put, List.setIfInBounds_toArray, List.set_cons_zero, List.set_cons_succ, i64_w, i32_w]
  rfl
 refine pure_ (i := 3) (N := some 13) (v := ?_) (a' := ?_) #[true, true, true, true, false, false, true, false, false, false, false] rfl rfl (any_of HT_.out (by kernel_rfl)) (fun _ _ _ h => h) (Or.inl ⟨by rfl, ?_⟩) ?_ ?_
 rotate_left
 ·intro w'
  go_simp
  with_reducible rfl
 rotate_left
 ·simp only [Act.put, List.setIfInBounds_toArray, List.set_cons_zero, List.set_cons_succ, i64_w, i32_w]
  rfl
 refine pure_ (i := 4) (N := some 14) (v := ?_) (a' := ?_) #[true, true, true, true, true, false, true, false, false, false, false] rfl rfl (any_of HT_.out (by kernel_rfl)) (fun _ _ _ h => h) (Or.inl ⟨by rfl, ?_⟩) ?_ ?_
 rotate_left
 ·intro w'
  go_simp
  with_reducible rfl
 rotate_left
 ·simp only [Act.put, List.setIfInBounds_toArray, List.set_cons_zero, List.set_cons_succ, i64_w, i32_w]
  rfl
 refine pure_ (i := 5) (N := some 15) (v := ?_) (a' := ?_) #[true, true, true, true, true, true, true, false, false, false, false] rfl rfl (any_of HT_.out (by kernel_rfl)) (fun _ _ _ h => h) (Or.inl ⟨by rfl, ?_⟩) ?_ ?_
 rotate_left
 ·intro w'
  go_simp
  with_reducible rfl
 rotate_left
 ·simp only [Act.put, List.setIfInBounds_toArray, List.set_cons_zero, List.set_cons_succ, i64_w, i32_w]
  rfl
 refine one_ (i := 7) (N := some 17) #[true, true, true, true, true, true, true, true, false, false, false] rfl rfl (one_of HT_.out (by kernel_rfl)) (by decide) (fun K hK => ?_)
 refine goes_ Try.func118 (by kernel_rfl) rfl #[.slice (some ad204) l0.length c0, .int .i64 2] (by rfl) rfl rfl (by (try simp only [List.map_toArray, List.map_cons, List.map_nil]); first | done | rfl | (simp only [List.length_drop, List.length_take]; rfl) | (go_simp; done) | (simp [Act.eval, IntKind.signed]; done) | (simp [Act.eval, IntKind.signed]; rfl)) ?_
 with_reducible refine (ip_reader_two.calls _ _ l0 2 t121 _ ?side1 ?side2 A4.out).mono ?_
 (case side1 => repeat (first | exact (Kd.C_below HR0.out HB.out) | (with_reducible refine Kd.C_alloc ?_ _) | (with_reducible refine Kd.C_drewN ?_ _) | (with_reducible refine Kd.C_drew ?_)))
 (case side2 => exact HC0.out)
 rintro e w' ⟨rfl, ⟨nd, rfl⟩⟩
 refine ⟨_, rfl, ?_⟩
 refine hK.out _ _ (((HB.out.cell (World.block_lt_of_cell? w _ hw204_0)).trans hw204_0)) (fun hHeld => ?_)
 clear hK K
 refine norm_ (a' := ?_) ?_ ?_
 rotate_left
 ·show Act.put _ (some 17) _ = _
  simp only [Act.put, List.setIfInBounds_toArray, List.set_cons_zero, List.set_cons_succ, i64_w, i32_w]
  rfl
 refine pure_ (i := 8) (N := some 18) (v := ?_) (a' := ?_) #[true, true, true, true, true, true, true, true, true, false, false] rfl rfl (any_of HT_.out (by kernel_rfl)) (fun _ _ _ h => h) (Or.inl ⟨by rfl, ?_⟩) ?_ ?_
 rotate_left
 ·intro w'
  go_simp
  with_reducible rfl
 rotate_left
 ·simp only [Act.put, List.setIfInBounds_toArray, List.set_cons_zero, List.set_cons_succ, i64_w, i32_w]
  rfl
 refine pure_ (i := 9) (N := some 3) (v := ?_) (a' := ?_) #[true, true, true, true, true, true, true, true, true, true, false] rfl rfl (any_of HT_.out (by kernel_rfl)) (fun _ _ _ h => h) (Or.inl ⟨by rfl, ?_⟩) ?_ ?_
 rotate_left
 ·intro w'
  go_simp
  with_reducible rfl
 rotate_left
 ·simp only [Act.put, List.setIfInBounds_toArray, List.set_cons_zero, List.set_cons_succ, i64_w, i32_w]
  rfl
 refine pure_ (i := 10) (N := some 4) (v := ?_) (a' := ?_) #[true, true, true, true, true, true, true, true, true, true, true] rfl rfl (any_of HT_.out (by kernel_rfl)) (fun _ _ _ h => h) (Or.inl ⟨by rfl, ?_⟩) ?_ ?_
 rotate_left
 ·intro w'
  go_simp
  with_reducible rfl
 rotate_left
 ·simp only [Act.put, List.setIfInBounds_toArray, List.set_cons_zero, List.set_cons_succ, i64_w, i32_w]
  rfl
 refine done_ (done_of HT_.out (by kernel_rfl)) ?_
 go_upto_region 3 with (fail)
 (first | rw [c8b0] | (simp only [i64_w, i32_w]; rw [c8b0]) | skip)
 have p206 : 0 ≤ (0 : Int) := (by omega)
 have q206 : 0 < (l0.length : Int) := of_decide_eq_true (by first | (with_reducible assumption) | assumption)
 obtain ⟨ad206, e206, hx206_0⟩ := Kd.at_int HR0.out 0 p206 q206
 obtain rfl : ad204 = ad206 := (by injection e206)
 have qi206 : (0 < l0.length) = True := eq_true (by omega)
 (try rw [show ((0 : Int)).toNat = 0 from rfl] at hx206_0)
 (try rw [Addr.add_zero'] at hx206_0)
 replace hx206_0 := (HB.out.cell (World.block_lt_of_cell? w _ hx206_0)).trans hx206_0
 replace p206 := eq_true p206
 replace q206 := eq_true q206
 go_upto_region 4 with (first | ((with_reducible refine gate_callee (f := 117) rfl ?_); refine goesL_ (some 33) rfl rfl Try.func117 (by kernel_rfl) rfl #[.bool (decide ((wrap64 (t121)) ≥ (wrap64 (4 * (wrap64 (Go.bits .and .u8 (rd l0 0) 15)))))), .int .i64 21] rfl (by (try simp only [List.map_toArray, List.map_cons, List.map_nil]); first | done | rfl | (simp only [List.length_drop, List.length_take]; rfl) | (go_simp; done) | (simp [Act.eval, IntKind.signed]; done) | (simp [Act.eval, IntKind.signed]; rfl)) ?_; (with_reducible refine (ip_must.calls (decide ((wrap64 (t121)) ≥ (wrap64 (4 * (wrap64 (Go.bits .and .u8 (rd l0 0) 15)))))) 21  _ A10.out).mono ?_); rintro e w' ⟨rfl, ⟨nd, rfl⟩⟩; refine ⟨_, rfl, ?_⟩))
 obtain ⟨ji14, hji14⟩ : ∃ j_ : Int, (wrap64 (4 * (wrap64 (Go.bits .and .u8 (rd l0 0) 15)))) = j_ := ⟨_, rfl⟩
 rw [hji14] at A17 c15b1 c16b1 c15b0 c16b0
 have hji14w : (IntKind.i64.wrap (4 * (wrap64 (Go.bits .and .u8 (rd l0 0) 15)))) = ji14 := (i64_w _).trans hji14
 go_wp2_with (first | ((with_reducible refine gate_callee (f := 117) rfl ?_); refine goesL_ (some 38) rfl rfl Try.func117 (by kernel_rfl) rfl #[.bool (decide ((l0.length : Int) ≥ (wrap64 (t121)))), .int .i64 20] rfl (by (try simp only [List.map_toArray, List.map_cons, List.map_nil]); first | done | rfl | (simp only [List.length_drop, List.length_take]; rfl) | (go_simp; done) | (simp [Act.eval, IntKind.signed]; done) | (simp [Act.eval, IntKind.signed]; rfl)) ?_; (with_reducible refine (ip_must.calls (decide ((l0.length : Int) ≥ (wrap64 (t121)))) 20  _ A13.out).mono ?_); rintro e w' ⟨rfl, ⟨nd, rfl⟩⟩; refine ⟨_, rfl, ?_⟩; (try (rw [drewN_self w7]; generalize hq_ : World.drewN wc _ = w7; have n0_ : Aside0 (w7.heap[gb203]? = some (.cells #[.int .u8 0, .int .u8 0, .int .u8 0, .int .u16 0, .int .u8 0, .int .u16 0, .int .u32 0, .int .u32 0, .slice none 0 0, .slice none 0 0] 73 (0, 0))) := ⟨by rw [← hq_]; exact (by (with_reducible repeat (first | refine blk_drewN ?_ _ | refine blk_drew ?_ | refine blk_alloc ?_ _)); exact BK203.out)⟩; have n1_ : Aside0 (Below w.heap.size w w7) := ⟨by rw [← hq_]; exact (by repeat (first | (with_reducible first | exact HB.out | apply below_alloc | apply pw_below_drewN | apply below_drew1 | refine below_set ?_ GE203.out) | exact HB.out))⟩; clear BK203 HB hq_; have BK203 := n0_; have HB := n1_; clear n0_ n1_)); obtain ⟨i034, hi034, _, hsz34, _⟩ := info_parts info5; obtain ⟨hcut34, hA34, hC34⟩ := print_take_of (P := Try.prog) (Value.int .u8) 0 165 5 .i64 Try.underlying165 hi034 hsz34 (some ad204) c0 l0 (ji14) (of_decide_eq_true (by first | (with_reducible assumption) | assumption)) (of_decide_eq_true (by first | (with_reducible assumption) | assumption)) HC0.out; have HR207 := Aside0.mk (Kd.C_of_reads (h1 := fun _ => rfl) (hA34 _ (Kd.reads_of_C HR0.out))); have HC207 := Aside0.mk hC34; clear hA34 hC34 hi034 hsz34) | ((with_reducible refine gate_callee (f := 116) rfl ?_); refine goesL_ (some 42) rfl rfl Try.func116 (by kernel_rfl) rfl #[.int .u32 0, .slice (some ad204) (l0.take ((ji14) : Int).toNat).length c0] rfl (by (try simp only [List.map_toArray, List.map_cons, List.map_nil]); first | done | (rw [show (l0.take ((ji14) : Int).toNat).length = (ji14).toNat from (by rw [List.length_take]; have h_ : ((ji14) : Int) ≤ (l0.length : Int) := of_decide_eq_true (by first | (with_reducible assumption) | assumption); omega)] <;> rfl) | (simp only [hji14]; rfl) | rfl | (simp only [List.length_drop, List.length_take]; rfl) | (go_simp; done) | (simp [Act.eval, IntKind.signed]; done) | (simp [Act.eval, IntKind.signed]; rfl)) ?_; (with_reducible refine (sum_Add.calls k 0 _ _ (l0.take ((ji14) : Int).toNat) t124 _ ?side1 ?side2 A17.out).mono ?_); (case side1 => repeat (first | exact (Kd.C_below HR207.out HB.out) | (with_reducible refine Kd.C_alloc ?_ _) | (with_reducible refine Kd.C_drewN ?_ _) | (with_reducible refine Kd.C_drew ?_))); (case side2 => exact HC207.out); rintro e w35 ⟨rfl, hb⟩; refine ⟨_, rfl, ?_⟩; have n0_ := Aside0.mk (blk_below (g := gb203) (o := .cells #[.int .u8 0, .int .u8 0, .int .u8 0, .int .u16 0, .int .u8 0, .int .u16 0, .int .u32 0, .int .u32 0, .slice none 0 0, .slice none 0 0] 73 (0, 0)) (by (with_reducible repeat (first | refine blk_drewN ?_ _ | refine blk_drew ?_ | refine blk_alloc ?_ _)); exact BK203.out) hb); have n1_ := Aside0.mk (below_step (by repeat (first | (with_reducible first | exact HB.out | apply below_alloc | apply pw_below_drewN | apply below_drew1 | refine below_set ?_ GE203.out) | exact HB.out)) hb); clear BK203; clear HB; have BK203 := n0_; have HB := n1_; clear n0_ n1_; (try clear hb); (try clear hb2); (try clear hk); (try clear hi)) | ((with_reducible refine gate_callee (f := 115) rfl ?_); refine goesL_ (some 43) rfl rfl Try.func115 (by kernel_rfl) rfl #[.int .u32 t124] rfl (by (try simp only [List.map_toArray, List.map_cons, List.map_nil]); first | done | rfl | (simp only [List.length_drop, List.length_take]; rfl) | (go_simp; done) | (simp [Act.eval, IntKind.signed]; done) | (simp [Act.eval, IntKind.signed]; rfl)) ?_; (with_reducible refine (sum_Fold.calls k t124 t125 _ A18.out).mono ?_); rintro e w' ⟨rfl, ⟨nd, rfl⟩⟩; refine ⟨_, rfl, ?_⟩; (try (rw [drewN_self w35]; generalize hq_ : World.drewN w35 _ = w35; have n0_ : Aside0 (w35.heap[gb203]? = some (.cells #[.int .u8 0, .int .u8 0, .int .u8 0, .int .u16 0, .int .u8 0, .int .u16 0, .int .u32 0, .int .u32 0, .slice none 0 0, .slice none 0 0] 73 (0, 0))) := ⟨by rw [← hq_]; exact (by (with_reducible repeat (first | refine blk_drewN ?_ _ | refine blk_drew ?_ | refine blk_alloc ?_ _)); exact BK203.out)⟩; have n1_ : Aside0 (Below w.heap.size w w35) := ⟨by rw [← hq_]; exact (by repeat (first | (with_reducible first | exact HB.out | apply below_alloc | apply pw_below_drewN | apply below_drew1 | refine below_set ?_ GE203.out) | exact HB.out))⟩; clear BK203 HB hq_; have BK203 := n0_; have HB := n1_; clear n0_ n1_))) | ((with_reducible refine gate_callee (f := 117) rfl ?_); refine ip_Parse.goesP (some 45) rfl rfl Try.func117 (by kernel_rfl) rfl #[.bool (t125 == 65535), .int .i64 22] rfl (by (try simp only [List.map_toArray, List.map_cons, List.map_nil]); first | done | rfl | (simp only [List.length_drop, List.length_take]; rfl) | (go_simp; done) | (simp [Act.eval, IntKind.signed]; done) | (simp [Act.eval, IntKind.signed]; rfl)) ?_; (with_reducible refine (ip_must.panics (t125 == 65535) 22 _ HD.out).mono ?_); rintro e w' ⟨rfl, ⟨nd, rfl⟩⟩; refine ⟨_, rfl, ?_⟩; exact ⟨rfl, rfl, by repeat (first | (with_reducible first | exact HB.out | apply below_alloc | apply pw_below_drewN | apply below_drew1) | exact HB.out)⟩))
theorem ip_Parse.told {tmps : Array Value} {w : World} {gp ge : Nat} {cs : Array Value} {x : Int} (hs : cs.size = 10) (hp : tmps.getD 2 undef = .pointer (some ⟨gp, 0, none⟩)) (hg : w.heap[gp]? = some (.cells cs 73 (0, 0)))
  (he : tmps.getD 3 undef = .pointer (some ⟨ge, 0, none⟩)) (hx : w.heap[ge]? = some (.cells #[.int .i64 x] 49 (0, 0))) : (results Try.f57 tmps).run Try.prog w = .ok (.tuple #[.agg cs, .int .i64 x]) w := by
 have h1 : tmps[2]?.getD undef = .pointer (some ⟨gp, 0, none⟩) := by simpa using hp
 have h2 : tmps[3]?.getD undef = .pointer (some ⟨ge, 0, none⟩) := by simpa using he
 have hc : w.cell? ⟨ge, 0, none⟩ = some (.int .i64 x) := (blk_cell hx 0).trans rfl
 have hl : (loadVar 49 ⟨ge, 0, none⟩).run Try.prog w = .ok (.int .i64 x) w := by
  have hu := Try.underlying49
  have hagg : (isAgg 49).run Try.prog w = .ok false w := by kernel_rfl
  simp [loadVar, hu, hc, hagg]
 simp [results, Try.results57, h1, h2, asAddr, run_loadVar_row w gp 73 73 cs (0, 0) _ hg Try.underlying73 rfl (by rw [hs]; kernel_rfl), hl]
set_option maxHeartbeats 8000000 in
set_option maxRecDepth 100000 in
theorem ip_Parse.fail (x : Int) (A0 : Option Addr) (c0 n : Nat) (w : World) (hp : ∀ W, Below w.heap.size w W → Calls Try.prog 95 #[.slice A0 n c0] W fun e w' => e = .panicked [{ v := .iface 163 (.agg #[.int .i64 x]), recovered := false }] ∧ Below W.heap.size W w') :
  Calls Try.prog 57 #[.slice A0 n c0] w fun e w' => e = .returned (.tuple #[.agg #[.int .u8 0, .int .u8 0, .int .u8 0, .int .u16 0, .int .u8 0, .int .u16 0, .int .u32 0, .int .u32 0, .slice none 0 0, .slice none 0 0], .int .i64 x]) ∧ Below w.heap.size w w' := by
 have HB := Aside0.mk (Below.refl w.heap.size w)
 have HC := Aside0.mk hp
 clear hp
 have hmf : ∀ (fn : Fn) (first cap : Array Value) (w : World), (Instr.makeFunc fn first cap).run Try.prog w = .ok (.func fn first cap) w := fun _ _ _ _ => rfl
 go_enter_defers Try.func57, Try.ntmps57
 go_wp2_with (first | ((with_reducible refine gate_dst (N := 2) rfl ?_); refine box_event ?hg (N := 2) ?hd (cs := #[.int .u8 0, .int .u8 0, .int .u8 0, .int .u16 0, .int .u8 0, .int .u16 0, .int .u32 0, .int .u32 0, .slice none 0 0, .slice none 0 0]) (t := 73) ?hr ?_; (case hd => rfl); (case hg => rfl); (case hr => first | (go_simp; done) | (go_simp; rfl)); intro gp hg w1 hbox hb; have n0_ := Aside0.mk (below_step (by repeat (first | (with_reducible first | exact HB.out | apply below_alloc | apply pw_below_drewN | apply below_drew1) | exact HB.out)) hb); have HP := Aside0.mk hbox; have GP := Aside0.mk ((by rw [hg]; exact (below_size (by repeat (first | (with_reducible first | exact HB.out | apply below_alloc | apply pw_below_drewN | apply below_drew1) | exact HB.out)))) : w.heap.size ≤ gp); clear HB; have HB := n0_; clear n0_ hb hbox hg) | ((with_reducible refine gate_dst (N := 3) rfl ?_); refine box_event ?hg (N := 3) ?hd (cs := #[.int .i64 0]) (t := 49) ?hr ?_; (case hd => rfl); (case hg => rfl); (case hr => first | (go_simp; done) | (go_simp; rfl)); intro ge hg w2 hbox hb; have GN := Aside0.mk (show gp ≠ ge by rw [hg]; exact Nat.ne_of_lt (blk_lt (by (with_reducible repeat (first | refine blk_drewN ?_ _ | refine blk_drew ?_ | refine blk_alloc ?_ _)); exact HP.out))); have n1_ := Aside0.mk (blk_below (g := gp) (o := .cells #[.int .u8 0, .int .u8 0, .int .u8 0, .int .u16 0, .int .u8 0, .int .u16 0, .int .u32 0, .int .u32 0, .slice none 0 0, .slice none 0 0] 73 (0, 0)) (by (with_reducible repeat (first | refine blk_drewN ?_ _ | refine blk_drew ?_ | refine blk_alloc ?_ _)); exact HP.out) hb); have n0_ := Aside0.mk (below_step (by repeat (first | (with_reducible first | exact HB.out | apply below_alloc | apply pw_below_drewN | apply below_drew1) | exact HB.out)) hb); have HE := Aside0.mk hbox; have GE := Aside0.mk ((by rw [hg]; exact (below_size (by repeat (first | (with_reducible first | exact HB.out | apply below_alloc | apply pw_below_drewN | apply below_drew1) | exact HB.out)))) : w.heap.size ≤ ge); clear HB HP; have HB := n0_; have HP := n1_; clear n0_ n1_ hb hbox hg))
 refine (HC.out _ (by repeat (first | (with_reducible first | exact HB.out | apply below_alloc | apply pw_below_drewN | apply below_drew1) | exact HB.out))).mono ?_
 rintro e w' ⟨rfl, hb⟩
 have HP3 := Aside0.mk (blk_below (g := gp) (o := .cells #[.int .u8 0, .int .u8 0, .int .u8 0, .int .u16 0, .int .u8 0, .int .u16 0, .int .u32 0, .int .u32 0, .slice none 0 0, .slice none 0 0] 73 (0, 0)) (by (with_reducible repeat (first | refine blk_drewN ?_ _ | refine blk_drew ?_ | refine blk_alloc ?_ _)); exact HP.out) hb)
 have HE3 := Aside0.mk (blk_below (g := ge) (o := .cells #[.int .i64 0] 49 (0, 0)) (by (with_reducible repeat (first | refine blk_drewN ?_ _ | refine blk_drew ?_ | refine blk_alloc ?_ _)); exact HE.out) hb)
 have HB3 := Aside0.mk (below_step (by repeat (first | (with_reducible first | exact HB.out | apply below_alloc | apply pw_below_drewN | apply below_drew1) | exact HB.out)) hb)
 clear hb HP HE HB
 show Leaves _ _ _ _ _ _ _
 refine leaves_cons (f := 94) (args := #[.pointer (some ⟨gp, 0, none⟩), .pointer (some ⟨ge, 0, none⟩)]) (by simp) (by simp [go_sem]) ?_
 refine (ip_Parse.catch_panicking x w w' w.heap.size gp ge HP3.out HE3.out GN.out HB3.out GP.out GE.out).mono ?_
 rintro e u' w'' ⟨rfl, rfl, f1, f2, f3⟩
 exact ⟨_, ip_Parse.told rfl rfl f1 rfl f2, rfl, f3⟩
set_option maxHeartbeats 8000000 in
set_option maxRecDepth 100000 in
theorem ip_Parse.done (k : Nat) (A0 : Option Addr) (c0 : Nat) (l0 : List Int) (r1 : Int) (r2 : Int) (r3 : Int) (r4 : Int) (r5 : Int) (r6 : Int) (r7 : Int) (r8 : Int) (r9 : List Int) (r10 : List Int) (w : World) (hr0 : Kd.C (Kd.int .u8) w A0 l0.length l0) (hc0 : l0.length ≤ c0) (h : ip_reader_packet.f k l0 = some (r1, r2, r3, r4, r5, r6, r7, r8, r9, r10)) :
  Calls Try.prog 57 #[.slice A0 l0.length c0] w fun e w' => ∃ v8_ v9_ : Value, e = .returned (.tuple #[.agg #[.int .u8 r1, .int .u8 r2, .int .u8 r3, .int .u16 r4, .int .u8 r5, .int .u16 r6, .int .u32 r7, .int .u32 r8, v8_, v9_], .int .i64 0]) ∧ Kd.R (Kd.int .u8) 5 w' w.heap.size (fun k_ => some k_ ≠ (v9_ : Value).ownBlock) v8_ r9 ∧ Kd.R (Kd.int .u8) 5 w' w.heap.size (fun k_ => some k_ ≠ (v8_ : Value).ownBlock) v9_ r10 ∧ Below w.heap.size w w' := by
 have HB := Aside0.mk (Below.refl w.heap.size w)
 have HR0 := Aside0.mk hr0
 have HC0 := Aside0.mk hc0
 have HH := Aside0.mk h
 clear hr0 hc0 h
 have hu30 := Try.underlying73
 have hmf : ∀ (fn : Fn) (first cap : Array Value) (w : World), (Instr.makeFunc fn first cap).run Try.prog w = .ok (.func fn first cap) w := fun _ _ _ _ => rfl
 go_enter_defers Try.func57, Try.ntmps57
 go_wp2_with (first | ((with_reducible refine gate_dst (N := 2) rfl ?_); refine box_event ?hg (N := 2) ?hd (cs := #[.int .u8 0, .int .u8 0, .int .u8 0, .int .u16 0, .int .u8 0, .int .u16 0, .int .u32 0, .int .u32 0, .slice none 0 0, .slice none 0 0]) (t := 73) ?hr ?_; (case hd => rfl); (case hg => rfl); (case hr => first | (go_simp; done) | (go_simp; rfl)); intro gp hg w1 hbox hb; have n0_ := Aside0.mk (below_step (by repeat (first | (with_reducible first | exact HB.out | apply below_alloc | apply pw_below_drewN | apply below_drew1) | exact HB.out)) hb); have HP := Aside0.mk hbox; have GP := Aside0.mk ((by rw [hg]; exact (below_size (by repeat (first | (with_reducible first | exact HB.out | apply below_alloc | apply pw_below_drewN | apply below_drew1) | exact HB.out)))) : w.heap.size ≤ gp); clear HB; have HB := n0_; clear n0_ hb hbox hg) | ((with_reducible refine gate_dst (N := 3) rfl ?_); refine box_event ?hg (N := 3) ?hd (cs := #[.int .i64 0]) (t := 49) ?hr ?_; (case hd => rfl); (case hg => rfl); (case hr => first | (go_simp; done) | (go_simp; rfl)); intro ge hg w2 hbox hb; have GN := Aside0.mk (show gp ≠ ge by rw [hg]; exact Nat.ne_of_lt (blk_lt (by (with_reducible repeat (first | refine blk_drewN ?_ _ | refine blk_drew ?_ | refine blk_alloc ?_ _)); exact HP.out))); have n1_ := Aside0.mk (blk_below (g := gp) (o := .cells #[.int .u8 0, .int .u8 0, .int .u8 0, .int .u16 0, .int .u8 0, .int .u16 0, .int .u32 0, .int .u32 0, .slice none 0 0, .slice none 0 0] 73 (0, 0)) (by (with_reducible repeat (first | refine blk_drewN ?_ _ | refine blk_drew ?_ | refine blk_alloc ?_ _)); exact HP.out) hb); have n0_ := Aside0.mk (below_step (by repeat (first | (with_reducible first | exact HB.out | apply below_alloc | apply pw_below_drewN | apply below_drew1) | exact HB.out)) hb); have HE := Aside0.mk hbox; have GE := Aside0.mk ((by rw [hg]; exact (below_size (by repeat (first | (with_reducible first | exact HB.out | apply below_alloc | apply pw_below_drewN | apply below_drew1) | exact HB.out)))) : w.heap.size ≤ ge); clear HB HP; have HB := n0_; have HP := n1_; clear n0_ n1_ hb hbox hg))
 refine (ip_reader_packet.calls k A0 c0 l0 r1 r2 r3 r4 r5 r6 r7 r8 r9 r10 _ (Kd.C_below HR0.out (by repeat (first | (with_reducible first | exact HB.out | apply below_alloc | apply pw_below_drewN | apply below_drew1) | exact HB.out))) HC0.out HH.out).mono ?_
 rintro e w' ⟨v8_, v9_, rfl, ho8, ho9, hb⟩
 obtain ⟨B8, d8, rfl⟩ := Kd.R_slice ho8
 obtain ⟨B9, d9, rfl⟩ := Kd.R_slice ho9
 have HP3 := Aside0.mk (blk_below (g := gp) (o := .cells #[.int .u8 0, .int .u8 0, .int .u8 0, .int .u16 0, .int .u8 0, .int .u16 0, .int .u32 0, .int .u32 0, .slice none 0 0, .slice none 0 0] 73 (0, 0)) (by (with_reducible repeat (first | refine blk_drewN ?_ _ | refine blk_drew ?_ | refine blk_alloc ?_ _)); exact HP.out) hb)
 have HE3 := Aside0.mk (blk_below (g := ge) (o := .cells #[.int .i64 0] 49 (0, 0)) (by (with_reducible repeat (first | refine blk_drewN ?_ _ | refine blk_drew ?_ | refine blk_alloc ?_ _)); exact HE.out) hb)
 have HB3 := Aside0.mk (below_step (by repeat (first | (with_reducible first | exact HB.out | apply below_alloc | apply pw_below_drewN | apply below_drew1) | exact HB.out)) hb)
 have HLP : gp < w2.heap.size := blk_lt HP.out
 have HLE : ge < w2.heap.size := blk_lt HE.out
 have HS : w.heap.size ≤ w2.heap.size := below_size (by repeat (first | (with_reducible first | exact HB.out | apply below_alloc | apply pw_below_drewN | apply below_drew1) | exact HB.out))
 have O8 := Aside0.mk ho8
 have O9 := Aside0.mk ho9
 clear hb HP HE HB ho8 ho9
 (try dsimp only)
 have hs0 : w'.cell? ⟨gp, 0, none⟩ = some (.int .u8 0) := (blk_cell HP3.out 0).trans rfl
 have hfs0 := blk_frozen HP3.out 0
 have hs1 : w'.cell? ⟨gp, 1, none⟩ = some (.int .u8 0) := (blk_cell HP3.out 1).trans rfl
 have hfs1 := blk_frozen HP3.out 1
 have hs2 : w'.cell? ⟨gp, 2, none⟩ = some (.int .u8 0) := (blk_cell HP3.out 2).trans rfl
 have hfs2 := blk_frozen HP3.out 2
 have hs3 : w'.cell? ⟨gp, 3, none⟩ = some (.int .u16 0) := (blk_cell HP3.out 3).trans rfl
 have hfs3 := blk_frozen HP3.out 3
 have hs4 : w'.cell? ⟨gp, 4, none⟩ = some (.int .u8 0) := (blk_cell HP3.out 4).trans rfl
 have hfs4 := blk_frozen HP3.out 4
 have hs5 : w'.cell? ⟨gp, 5, none⟩ = some (.int .u16 0) := (blk_cell HP3.out 5).trans rfl
 have hfs5 := blk_frozen HP3.out 5
 have hs6 : w'.cell? ⟨gp, 6, none⟩ = some (.int .u32 0) := (blk_cell HP3.out 6).trans rfl
 have hfs6 := blk_frozen HP3.out 6
 have hs7 : w'.cell? ⟨gp, 7, none⟩ = some (.int .u32 0) := (blk_cell HP3.out 7).trans rfl
 have hfs7 := blk_frozen HP3.out 7
 have hs8 : w'.cell? ⟨gp, 8, none⟩ = some (.slice none 0 0) := (blk_cell HP3.out 8).trans rfl
 have hfs8 := blk_frozen HP3.out 8
 have hs9 : w'.cell? ⟨gp, 9, none⟩ = some (.slice none 0 0) := (blk_cell HP3.out 9).trans rfl
 have hfs9 := blk_frozen HP3.out 9
 have hse : w'.cell? ⟨ge, 0, none⟩ = some (.int .i64 0) := (blk_cell HE3.out 0).trans rfl
 have hfse := blk_frozen HE3.out 0
 have hnge : gp ≠ ge := GN.out
 have hneg : ge ≠ gp := fun e => hnge e.symm
 go_wp2
 clear hs0 hfs0 hs1 hfs1 hs2 hfs2 hs3 hfs3 hs4 hfs4 hs5 hfs5 hs6 hfs6 hs7 hfs7 hs8 hfs8 hs9 hfs9
 have b0 := HP3.out
 have e0 := HE3.out
 have l0_ := HB3.out
 have u0 := O8.out
 have t0 := O9.out
 have b1 := blk_put (cs' := #[.int .u8 r1, .int .u8 0, .int .u8 0, .int .u16 0, .int .u8 0, .int .u16 0, .int .u32 0, .int .u32 0, .slice none 0 0, .slice none 0 0]) b0 0 (.int .u8 r1) rfl
 have e1 := blk_far e0 (p := ⟨gp, 0, none⟩) hneg (.int .u8 r1)
 have l1_ := Below.setCell (p := ⟨gp, 0, none⟩) l0_ GP.out (.int .u8 r1)
 have u1 := Kd.R_set u0 b0 (by decide) 0 (.int .u8 r1)
 have t1 := Kd.R_set t0 b0 (by decide) 0 (.int .u8 r1)
 clear b0 e0 l0_ u0 t0
 have b2 := blk_put (cs' := #[.int .u8 r1, .int .u8 r2, .int .u8 0, .int .u16 0, .int .u8 0, .int .u16 0, .int .u32 0, .int .u32 0, .slice none 0 0, .slice none 0 0]) b1 1 (.int .u8 r2) rfl
 have e2 := blk_far e1 (p := ⟨gp, 1, none⟩) hneg (.int .u8 r2)
 have l2_ := Below.setCell (p := ⟨gp, 1, none⟩) l1_ GP.out (.int .u8 r2)
 have u2 := Kd.R_set u1 b1 (by decide) 1 (.int .u8 r2)
 have t2 := Kd.R_set t1 b1 (by decide) 1 (.int .u8 r2)
 clear b1 e1 l1_ u1 t1
 have b3 := blk_put (cs' := #[.int .u8 r1, .int .u8 r2, .int .u8 r3, .int .u16 0, .int .u8 0, .int .u16 0, .int .u32 0, .int .u32 0, .slice none 0 0, .slice none 0 0]) b2 2 (.int .u8 r3) rfl
 have e3 := blk_far e2 (p := ⟨gp, 2, none⟩) hneg (.int .u8 r3)
 have l3_ := Below.setCell (p := ⟨gp, 2, none⟩) l2_ GP.out (.int .u8 r3)
 have u3 := Kd.R_set u2 b2 (by decide) 2 (.int .u8 r3)
 have t3 := Kd.R_set t2 b2 (by decide) 2 (.int .u8 r3)
 clear b2 e2 l2_ u2 t2
 have b4 := blk_put (cs' := #[.int .u8 r1, .int .u8 r2, .int .u8 r3, .int .u16 r4, .int .u8 0, .int .u16 0, .int .u32 0, .int .u32 0, .slice none 0 0, .slice none 0 0]) b3 3 (.int .u16 r4) rfl
 have e4 := blk_far e3 (p := ⟨gp, 3, none⟩) hneg (.int .u16 r4)
 have l4_ := Below.setCell (p := ⟨gp, 3, none⟩) l3_ GP.out (.int .u16 r4)
 have u4 := Kd.R_set u3 b3 (by decide) 3 (.int .u16 r4)
 have t4 := Kd.R_set t3 b3 (by decide) 3 (.int .u16 r4)
 clear b3 e3 l3_ u3 t3
 have b5 := blk_put (cs' := #[.int .u8 r1, .int .u8 r2, .int .u8 r3, .int .u16 r4, .int .u8 r5, .int .u16 0, .int .u32 0, .int .u32 0, .slice none 0 0, .slice none 0 0]) b4 4 (.int .u8 r5) rfl
 have e5 := blk_far e4 (p := ⟨gp, 4, none⟩) hneg (.int .u8 r5)
 have l5_ := Below.setCell (p := ⟨gp, 4, none⟩) l4_ GP.out (.int .u8 r5)
 have u5 := Kd.R_set u4 b4 (by decide) 4 (.int .u8 r5)
 have t5 := Kd.R_set t4 b4 (by decide) 4 (.int .u8 r5)
 clear b4 e4 l4_ u4 t4
 have b6 := blk_put (cs' := #[.int .u8 r1, .int .u8 r2, .int .u8 r3, .int .u16 r4, .int .u8 r5, .int .u16 r6, .int .u32 0, .int .u32 0, .slice none 0 0, .slice none 0 0]) b5 5 (.int .u16 r6) rfl
 have e6 := blk_far e5 (p := ⟨gp, 5, none⟩) hneg (.int .u16 r6)
 have l6_ := Below.setCell (p := ⟨gp, 5, none⟩) l5_ GP.out (.int .u16 r6)
 have u6 := Kd.R_set u5 b5 (by decide) 5 (.int .u16 r6)
 have t6 := Kd.R_set t5 b5 (by decide) 5 (.int .u16 r6)
 clear b5 e5 l5_ u5 t5
 have b7 := blk_put (cs' := #[.int .u8 r1, .int .u8 r2, .int .u8 r3, .int .u16 r4, .int .u8 r5, .int .u16 r6, .int .u32 r7, .int .u32 0, .slice none 0 0, .slice none 0 0]) b6 6 (.int .u32 r7) rfl
 have e7 := blk_far e6 (p := ⟨gp, 6, none⟩) hneg (.int .u32 r7)
 have l7_ := Below.setCell (p := ⟨gp, 6, none⟩) l6_ GP.out (.int .u32 r7)
 have u7 := Kd.R_set u6 b6 (by decide) 6 (.int .u32 r7)
 have t7 := Kd.R_set t6 b6 (by decide) 6 (.int .u32 r7)
 clear b6 e6 l6_ u6 t6
 have b8 := blk_put (cs' := #[.int .u8 r1, .int .u8 r2, .int .u8 r3, .int .u16 r4, .int .u8 r5, .int .u16 r6, .int .u32 r7, .int .u32 r8, .slice none 0 0, .slice none 0 0]) b7 7 (.int .u32 r8) rfl
 have e8 := blk_far e7 (p := ⟨gp, 7, none⟩) hneg (.int .u32 r8)
 have l8_ := Below.setCell (p := ⟨gp, 7, none⟩) l7_ GP.out (.int .u32 r8)
 have u8 := Kd.R_set u7 b7 (by decide) 7 (.int .u32 r8)
 have t8 := Kd.R_set t7 b7 (by decide) 7 (.int .u32 r8)
 clear b7 e7 l7_ u7 t7
 have b9 := blk_put (cs' := #[.int .u8 r1, .int .u8 r2, .int .u8 r3, .int .u16 r4, .int .u8 r5, .int .u16 r6, .int .u32 r7, .int .u32 r8, .slice B8 r9.length d8, .slice none 0 0]) b8 8 (.slice B8 r9.length d8) rfl
 have e9 := blk_far e8 (p := ⟨gp, 8, none⟩) hneg (.slice B8 r9.length d8)
 have l9_ := Below.setCell (p := ⟨gp, 8, none⟩) l8_ GP.out (.slice B8 r9.length d8)
 have u9 := Kd.R_set u8 b8 (by decide) 8 (.slice B8 r9.length d8)
 have t9 := Kd.R_set t8 b8 (by decide) 8 (.slice B8 r9.length d8)
 clear b8 e8 l8_ u8 t8
 have b10 := blk_put (cs' := #[.int .u8 r1, .int .u8 r2, .int .u8 r3, .int .u16 r4, .int .u8 r5, .int .u16 r6, .int .u32 r7, .int .u32 r8, .slice B8 r9.length d8, .slice B9 r10.length d9]) b9 9 (.slice B9 r10.length d9) rfl
 have e10 := blk_far e9 (p := ⟨gp, 9, none⟩) hneg (.slice B9 r10.length d9)
 have l10_ := Below.setCell (p := ⟨gp, 9, none⟩) l9_ GP.out (.slice B9 r10.length d9)
 have u10 := Kd.R_set u9 b9 (by decide) 9 (.slice B9 r10.length d9)
 have t10 := Kd.R_set t9 b9 (by decide) 9 (.slice B9 r10.length d9)
 clear b9 e9 l9_ u9 t9
 have b11 := blk_far b10 (p := ⟨ge, 0, none⟩) hnge (.int .i64 0)
 have e11 := blk_put (cs' := #[.int .i64 0]) e10 0 (.int .i64 0) rfl
 have l11_ := Below.setCell (p := ⟨ge, 0, none⟩) l10_ GE.out (.int .i64 0)
 have u11 := Kd.R_set u10 e10 (by decide) 0 (.int .i64 0)
 have t11 := Kd.R_set t10 e10 (by decide) 0 (.int .i64 0)
 clear HP3 HE3 HB3 O8 O9 hse hfse
 show Leaves _ _ _ _ _ _ _
 refine leaves_cons (f := 94) (args := #[.pointer (some ⟨gp, 0, none⟩), .pointer (some ⟨ge, 0, none⟩)]) (by simp) (by simp [go_sem]) ?_
 refine (ip_Parse.catch_idle ⟨gp, 0, none⟩ ⟨ge, 0, none⟩ _).mono ?_
 rintro e u' w'' ⟨rfl, rfl, rfl⟩
 exact ⟨_, ip_Parse.told rfl rfl b11 rfl e11, _, _, rfl, Kd.R_lower u11 HS, Kd.R_lower t11 HS, l11_⟩
def ip_Parse.f (k : Nat) (l0 : List Int) : Option (Int × Int × Int × Int × Int × Int × Int × Int × List Int × List Int × Int) :=
 if (l0.length : Int) < 20 then some (0, 0, 0, 0, 0, 0, 0, 0, [], [], 20) else (ip_reader_two.f l0 2).bind fun t =>
 if (rd l0 0) / 16 = 4 ∧ (wrap64 (4 * (wrap64 (Go.bits .and .u8 (rd l0 0) 15)))) ≥ 20 ∧ (wrap64 (t)) ≥ (wrap64 (4 * (wrap64 (Go.bits .and .u8 (rd l0 0) 15)))) then
  if (l0.length : Int) < (wrap64 (t)) then some (0, 0, 0, 0, 0, 0, 0, 0, [], [], 20) else
  (sum_Add.f k 0 (l0.take ((wrap64 (4 * (wrap64 (Go.bits .and .u8 (rd l0 0) 15)))) : Int).toNat)).bind fun a => (sum_Fold.f k a).bind fun b =>
  if b = 65535 then (ip_reader_packet.f k l0).bind fun p => some (p.1, p.2.1, p.2.2.1, p.2.2.2.1, p.2.2.2.2.1, p.2.2.2.2.2.1, p.2.2.2.2.2.2.1, p.2.2.2.2.2.2.2.1, p.2.2.2.2.2.2.2.2.1, p.2.2.2.2.2.2.2.2.2, 0)
  else some (0, 0, 0, 0, 0, 0, 0, 0, [], [], 22)
 else some (0, 0, 0, 0, 0, 0, 0, 0, [], [], 21)
theorem ip_Parse.calls (k : Nat) (A0 : Option Addr) (c0 : Nat) (l0 : List Int) (r1 : Int) (r2 : Int) (r3 : Int) (r4 : Int) (r5 : Int) (r6 : Int) (r7 : Int) (r8 : Int) (r9 : List Int) (r10 : List Int) (r11 : Int) (w : World) (hr0 : Kd.C (Kd.int .u8) w A0 l0.length l0) (hc0 : l0.length ≤ c0) (h : ip_Parse.f k l0 = some (r1, r2, r3, r4, r5, r6, r7, r8, r9, r10, r11)) :
  Calls Try.prog 57 #[.slice A0 l0.length c0] w fun e w' => ∃ v8_ v9_ : Value, e = .returned (.tuple #[.agg #[.int .u8 r1, .int .u8 r2, .int .u8 r3, .int .u16 r4, .int .u8 r5, .int .u16 r6, .int .u32 r7, .int .u32 r8, v8_, v9_], .int .i64 r11]) ∧ Kd.R (Kd.int .u8) 5 w' w.heap.size (fun k_ => some k_ ≠ (v9_ : Value).ownBlock) v8_ r9 ∧ Kd.R (Kd.int .u8) 5 w' w.heap.size (fun k_ => some k_ ≠ (v8_ : Value).ownBlock) v9_ r10 ∧ Below w.heap.size w w' := by
 have fail : ∀ x : Int, (∀ W, Below w.heap.size w W → Calls Try.prog 95 #[.slice A0 l0.length c0] W fun e w' => e = .panicked [{ v := .iface 163 (.agg #[.int .i64 x]), recovered := false }] ∧ Below W.heap.size W w') → some (0, 0, 0, 0, 0, 0, 0, 0, ([] : List Int), ([] : List Int), x) = some (r1, r2, r3, r4, r5, r6, r7, r8, r9, r10, r11) →
   Calls Try.prog 57 #[.slice A0 l0.length c0] w fun e w' => ∃ v8_ v9_ : Value, e = .returned (.tuple #[.agg #[.int .u8 r1, .int .u8 r2, .int .u8 r3, .int .u16 r4, .int .u8 r5, .int .u16 r6, .int .u32 r7, .int .u32 r8, v8_, v9_], .int .i64 r11]) ∧ Kd.R (Kd.int .u8) 5 w' w.heap.size (fun k_ => some k_ ≠ (v9_ : Value).ownBlock) v8_ r9 ∧ Kd.R (Kd.int .u8) 5 w' w.heap.size (fun k_ => some k_ ≠ (v8_ : Value).ownBlock) v9_ r10 ∧ Below w.heap.size w w' := by
  intro x hp hx
  simp only [Option.some.injEq, Prod.mk.injEq] at hx
  obtain ⟨rfl, rfl, rfl, rfl, rfl, rfl, rfl, rfl, rfl, rfl, rfl⟩ := hx
  refine (ip_Parse.fail x A0 c0 l0.length w hp).mono ?_
  rintro e w' ⟨rfl, hb⟩
  exact ⟨_, _, rfl, Kd.R_nil _ _ _ _ _, Kd.R_nil _ _ _ _ _, hb⟩
 unfold ip_Parse.f at h
 by_cases c1 : (l0.length : Int) < 20
 ·rw [if_pos c1] at h
  exact fail 20 (fun W hW => ip_reader_packet.pan1 A0 c0 l0 W (Kd.C_below hr0 hW) hc0 c1) h
 ·rw [if_neg c1] at h
  obtain ⟨t, h2, h⟩ := Option.bind_eq_some_iff.mp h
  have c1' : (l0.length : Int) ≥ 20 := by omega
  by_cases c2 : (rd l0 0) / 16 = 4 ∧ (wrap64 (4 * (wrap64 (Go.bits .and .u8 (rd l0 0) 15)))) ≥ 20 ∧ (wrap64 (t)) ≥ (wrap64 (4 * (wrap64 (Go.bits .and .u8 (rd l0 0) 15))))
  ·rw [if_pos c2] at h
   by_cases c3 : (l0.length : Int) < (wrap64 (t))
   ·rw [if_pos c3] at h
    exact fail 20 (fun W hW => ip_reader_packet.pan3 t A0 c0 l0 W (Kd.C_below hr0 hW) hc0 c1' h2 c2 c3) h
   ·rw [if_neg c3] at h
    obtain ⟨a, ha, h⟩ := Option.bind_eq_some_iff.mp h
    obtain ⟨b, hb, h⟩ := Option.bind_eq_some_iff.mp h
    by_cases c4 : b = 65535
    ·rw [if_pos c4] at h
     obtain ⟨p, hp, h⟩ := Option.bind_eq_some_iff.mp h
     obtain ⟨p1, p2, p3, p4, p5, p6, p7, p8, p9, p10⟩ := p
     simp only [Option.some.injEq, Prod.mk.injEq] at h
     obtain ⟨rfl, rfl, rfl, rfl, rfl, rfl, rfl, rfl, rfl, rfl, rfl⟩ := h
     exact ip_Parse.done k A0 c0 l0 _ _ _ _ _ _ _ _ _ _ w hr0 hc0 hp
    ·rw [if_neg c4] at h
     exact fail 22 (fun W hW => ip_reader_packet.pan4 k t a b A0 c0 l0 W (Kd.C_below hr0 hW) hc0 c1' h2 c2 (by omega) ha hb c4) h
  ·rw [if_neg c2] at h
   exact fail 21 (fun W hW => ip_reader_packet.pan2 t A0 c0 l0 W (Kd.C_below hr0 hW) hc0 c1' h2 c2) h

end Go.Proofs.Ytkmimamminddiaa.PB

-- written by a patched print
namespace Go.Proofs.Ytkmimamminddiaa.PB
open Go.RowKit Go.Proofs.YtkmimamminddiaaW.PrintWords Go.Proofs.YtkmimamminddiaaW.PrintLast Go.Proofs.YtkmimamminddiaaW.PrintMore
attribute [local go_sem] max2_int min2_int max_two min_two max_three min_three max_four min_four   -- for this text's walks alone
set_option linter.unusedVariables false
set_option linter.unusedSimpArgs false

/-! ### udp_two: function 96 -/
def udp_two.f (l0 : List Int) : Option (Int) := if 0 < (l0.length : Int) then (if 1 < (l0.length : Int) then (some (Go.bits .or .u16 (IntKind.u16.wrap ((IntKind.u16.wrap (rd l0 0)) * 256)) (IntKind.u16.wrap (rd l0 1)))) else (none)) else (none)
set_option maxHeartbeats 8000000 in
set_option maxRecDepth 100000 in
theorem udp_two.calls (A0 : Option Addr) (c0 : Nat) (l0 : List Int) (r : Int) (w : World) (hr0 : Kd.C (Kd.int .u8) w A0 l0.length l0) (hc0 : l0.length ≤ c0) (h : udp_two.f l0 = some r) :
  Calls Try.prog 96 #[.slice A0 l0.length c0] w fun e w' => e = .returned (.int .u16 r) ∧ Drawn0 w w' := by
 have HR0 := Aside0.mk hr0
 have HC0 := Aside0.mk hc0
 clear hr0 hc0
 have H : (if 0 < (l0.length : Int) then (if 1 < (l0.length : Int) then (some (Go.bits .or .u16 (IntKind.u16.wrap ((IntKind.u16.wrap (rd l0 0)) * 256)) (IntKind.u16.wrap (rd l0 1)))) else (none)) else (none)) = some r := h
 clear h
 by_cases c2 : 0 < (l0.length : Int)
 ·rw [if_pos c2] at H
  have c2b0 : decide (0 < (l0.length : Int)) = true := decide_eq_true c2
  have c2b1 : decide (0 < l0.length) = true := decide_eq_true (by omega)
  clear c2
  by_cases c3 : 1 < (l0.length : Int)
  ·rw [if_pos c3] at H
   have c3b0 : decide (1 < (l0.length : Int)) = true := decide_eq_true c3
   have c3b1 : decide (1 < l0.length) = true := decide_eq_true (by omega)
   clear c3
   obtain rfl := Option.some.inj H
   have p246 : 0 ≤ (0 : Int) := (by omega)
   have q246 : 0 < (l0.length : Int) := of_decide_eq_true (by first | (with_reducible assumption) | assumption)
   obtain ⟨ad246, e246, hx246_0⟩ := Kd.at_int HR0.out 0 p246 q246
   cases e246
   have qi246 : (0 < l0.length) = True := eq_true (by omega)
   (try rw [show ((0 : Int)).toNat = 0 from rfl] at hx246_0)
   (try rw [Addr.add_zero'] at hx246_0)
   replace p246 := eq_true p246
   replace q246 := eq_true q246
   have p247 : 0 ≤ (1 : Int) := (by omega)
   have q247 : 1 < (l0.length : Int) := of_decide_eq_true (by first | (with_reducible assumption) | assumption)
   obtain ⟨ad247, e247, hx247_0⟩ := Kd.at_int HR0.out 1 p247 q247
   obtain rfl : ad246 = ad247 := (by injection e247)
   (try simp only [show (1 : Int).toNat = 1 from rfl, Nat.reduceMul, Nat.reduceEqDiff, Go.Addr.add, ↓reduceIte] at hx247_0)
   have qi247 : (1 < l0.length) = True := eq_true (by omega)
   (try rw [show ((1 : Int)).toNat = 1 from rfl] at hx247_0)
   replace p247 := eq_true p247
   replace q247 := eq_true q247
   go_enter Try.func96, Try.ntmps96
   go_wp2
   repeat (go_quiet (fail); try go_wp2)
   go_ret
   exact ⟨by first | rfl | (simp; done) | (simp [*]; done), by repeat (first | exact Drawn0.refl _ | apply Drawn0.step)⟩
  ·rw [if_neg c3] at H
   exact absurd H (by simp)
 ·rw [if_neg c2] at H
  exact absurd H (by simp)

end Go.Proofs.Ytkmimamminddiaa.PB

-- written by a patched print
namespace Go.Proofs.Ytkmimamminddiaa.PB
open Go.RowKit Go.Proofs.YtkmimamminddiaaW.PrintWords Go.Proofs.YtkmimamminddiaaW.PrintLast Go.Proofs.YtkmimamminddiaaW.PrintMore
attribute [local go_sem] max2_int min2_int max_two min_two max_three min_three max_four min_four   -- for this text's walks alone
set_option linter.unusedVariables false
set_option linter.unusedSimpArgs false

/-! ### udp_Parse: function 58 -/
def udp_Parse.f (l0 : List Int) : Option (Int × Int × Int × List Int × Int) := if (l0.length : Int) < 8 then (some (0, 0, 0, ([] : List Int), 20)) else (if 6 ≤ (l0.length : Int) then ((udp_two.f ((l0.take 6).drop 4)).bind fun t250 => (if (wrap64 (t250)) < 8 then (some (0, 0, 0, ([] : List Int), 21)) else (if (l0.length : Int) < (wrap64 (t250)) then (some (0, 0, 0, ([] : List Int), 20)) else (if 2 ≤ (l0.length : Int) then ((udp_two.f ((l0.take 2).drop 0)).bind fun t252 => (if 4 ≤ (l0.length : Int) then ((udp_two.f ((l0.take 4).drop 2)).bind fun t254 => (if 8 ≤ (l0.length : Int) then ((udp_two.f ((l0.take 8).drop 6)).bind fun t256 => (if 8 ≤ (wrap64 (t250)) then (if (wrap64 (t250)) ≤ (l0.length : Int) then ((slices_Clone_byte_byte.f ((l0.take ((wrap64 (t250)) : Int).toNat).drop 8)).bind fun t258 => (some (t252, t254, t256, t258, 0))) else (none)) else (none))) else (none))) else (none))) else (none))))) else (none))
def udp_Parse.T8 : Bool × List (List Nat × List Nat) := (true, [([], []), ([0], [0]), ([1], [1]), ([], []), ([3], [3]), ([4, 2], [4]), ([], []), ([6], [6]), ([7, 5], [7]), ([], []), ([], []), ([], []), ([9, 10, 11], [9, 10, 11]), ([12, 8], [12]), ([2, 5, 8, 13], [2, 5, 8, 13]), ([14, 13, 0, 1, 2, 3, 4, 5, 6, 7, 8, 9, 10, 11, 12, 13, 14], [14]), ([15, 0, 1, 2, 3, 4, 5, 6, 7, 8, 9, 10, 11, 12, 13, 14, 15], [])])
def udp_Parse.B8 : List Nat := [0, 1, 3, 0, 8, 31, 0, 64, 255, 0, 0, 0, 3584, 8191, 16383, 32767, 65535]
theorem udp_Parse.tab8 : rtab .any (opsOf Try.f58 8) = udp_Parse.T8 := by kernel_rfl
theorem udp_Parse.bits8 : waitsOk udp_Parse.T8.2 udp_Parse.B8 = true := by kernel_rfl
set_option maxHeartbeats 8000000 in
set_option maxRecDepth 100000 in
theorem udp_Parse.calls (A0 : Option Addr) (c0 : Nat) (l0 : List Int) (r1 : Int) (r2 : Int) (r3 : Int) (r4 : List Int) (r5 : Int) (w : World) (hr0 : Kd.C (Kd.int .u8) w A0 l0.length l0) (hc0 : l0.length ≤ c0) (h : udp_Parse.f l0 = some (r1, r2, r3, r4, r5)) :
  Calls Try.prog 58 #[.slice A0 l0.length c0] w fun e w' => ∃ v3_ : Value, e = .returned (.tuple #[.agg #[.int .u16 r1, .int .u16 r2, .int .u16 r3, v3_], .int .i64 r5]) ∧ Kd.R (Kd.int .u8) 5 w' w.heap.size (fun _ => True) v3_ r4 ∧ Below w.heap.size w w' := by
 have hu83 := Try.underlying83
 have HR0 := Aside0.mk hr0
 have HC0 := Aside0.mk hc0
 clear hr0 hc0
 have HB := Aside0.mk (Below.refl w.heap.size w)
 have H : (if (l0.length : Int) < 8 then (some (0, 0, 0, ([] : List Int), 20)) else (if 6 ≤ (l0.length : Int) then ((udp_two.f ((l0.take 6).drop 4)).bind fun t250 => (if (wrap64 (t250)) < 8 then (some (0, 0, 0, ([] : List Int), 21)) else (if (l0.length : Int) < (wrap64 (t250)) then (some (0, 0, 0, ([] : List Int), 20)) else (if 2 ≤ (l0.length : Int) then ((udp_two.f ((l0.take 2).drop 0)).bind fun t252 => (if 4 ≤ (l0.length : Int) then ((udp_two.f ((l0.take 4).drop 2)).bind fun t254 => (if 8 ≤ (l0.length : Int) then ((udp_two.f ((l0.take 8).drop 6)).bind fun t256 => (if 8 ≤ (wrap64 (t250)) then (if (wrap64 (t250)) ≤ (l0.length : Int) then ((slices_Clone_byte_byte.f ((l0.take ((wrap64 (t250)) : Int).toNat).drop 8)).bind fun t258 => (some (t252, t254, t256, t258, 0))) else (none)) else (none))) else (none))) else (none))) else (none))))) else (none))) = some (r1, r2, r3, r4, r5) := h
 clear h
 by_cases c2 : (l0.length : Int) < 8
 ·rw [if_pos c2] at H
  have c2b0 : decide ((l0.length : Int) < 8) = true := decide_eq_true c2
  have c2b1 : decide (l0.length < 8) = true := decide_eq_true (by omega)
  clear c2
  simp only [Option.some.injEq, Prod.mk.injEq] at H
  obtain ⟨rfl, rfl, rfl, rfl, rfl⟩ := H
  go_enter Try.func58, Try.ntmps58
  go_wp2_with (first | ((with_reducible refine gate_dst (N := 2) rfl ?_); refine box_event ?hg (N := 2) ?hd (cs := #[.int .u16 0, .int .u16 0, .int .u16 0, .slice none 0 0]) (t := 83) ?hr ?_; (case hd => rfl); (case hg => rfl); (case hr => first | (go_simp; done) | (go_simp; rfl)); intro gb248 hg w3 hbox hb; have n0_ := Aside0.mk (below_step (by repeat (first | (with_reducible first | exact HB.out | apply below_alloc | apply pw_below_drewN | apply below_drew1) | exact HB.out)) hb); have n1_ := Aside0.mk (hbox); have n2_ := Aside0.mk ((by rw [hg]; exact (below_size (by repeat (first | (with_reducible first | exact HB.out | apply below_alloc | apply pw_below_drewN | apply below_drew1) | exact HB.out))) : w.heap.size ≤ gb248)); have n3_ := Aside0.mk ((by rw [hg]; exact (below_size (by repeat (first | (with_reducible first | exact HB.out | apply below_alloc | apply pw_below_drewN | apply below_drew1) | exact HB.out))) : w.heap.size ≤ gb248)); clear HB; have HB := n0_; have BK248 := n1_; have GW248 := n2_; have GE248 := n3_; clear n0_ n1_ n2_ n3_; clear hb hbox hg; have hcz4_0 : w3.cell? ⟨gb248, 0, none⟩ = some (.int .u16 0) := (blk_cell BK248.out 0).trans rfl; have hcz4_1 : w3.cell? ⟨gb248, 1, none⟩ = some (.int .u16 0) := (blk_cell BK248.out 1).trans rfl; have hcz4_2 : w3.cell? ⟨gb248, 2, none⟩ = some (.int .u16 0) := (blk_cell BK248.out 2).trans rfl; have hcz4_3 : w3.cell? ⟨gb248, 3, none⟩ = some (.slice none 0 0) := (blk_cell BK248.out 3).trans rfl; have hfz4_0 := blk_frozen BK248.out 0; have hfz4_1 := blk_frozen BK248.out 1; have hfz4_2 := blk_frozen BK248.out 2; have hfz4_3 := blk_frozen BK248.out 3))
  refine bodyPost_ret (results_ct rfl _ _ gb248 83 #[.int .u16 0, .int .u16 0, .int .u16 0, .slice none 0 0] (0, 0) _ rfl (by (with_reducible repeat (first | refine blk_drewN ?_ _ | refine blk_drew ?_ | refine blk_alloc ?_ _)); refine blk_put (cs := #[.int .u16 0, .int .u16 0, .int .u16 0, .slice none 0 0]) ?_ 3 _ rfl; (with_reducible repeat (first | refine blk_drewN ?_ _ | refine blk_drew ?_ | refine blk_alloc ?_ _)); refine blk_put (cs := #[.int .u16 0, .int .u16 0, .int .u16 0, .slice none 0 0]) ?_ 2 _ rfl; (with_reducible repeat (first | refine blk_drewN ?_ _ | refine blk_drew ?_ | refine blk_alloc ?_ _)); refine blk_put (cs := #[.int .u16 0, .int .u16 0, .int .u16 0, .slice none 0 0]) ?_ 1 _ rfl; (with_reducible repeat (first | refine blk_drewN ?_ _ | refine blk_drew ?_ | refine blk_alloc ?_ _)); refine blk_put (cs := #[.int .u16 0, .int .u16 0, .int .u16 0, .slice none 0 0]) ?_ 0 _ rfl; (with_reducible repeat (first | refine blk_drewN ?_ _ | refine blk_drew ?_ | refine blk_alloc ?_ _)); exact BK248.out) Try.underlying83 rfl (by kernel_rfl)) rfl ?_
  exact ⟨_, by first | rfl | (simp [errW_none, errW_some] <;> rfl) | (simp [*, errW_none, errW_some] <;> rfl), by first | exact Kd.R_nil _ _ _ _ _ | exact Kd.N_nil _ _ _ _ _ | exact Kd.V_nil _ _ _ _ _ | exact Kd.Q_nil _ _ _ _ _ | exact Kd.S_nil _ _ _ _ _, by repeat (first | (with_reducible first | exact HB.out | apply below_alloc | apply pw_below_drewN | apply below_drew1 | refine below_set ?_ GE248.out) | exact HB.out)⟩
 ·rw [if_neg c2] at H
  have c2b0 : decide ((l0.length : Int) < 8) = false := decide_eq_false c2
  have c2b1 : decide (l0.length < 8) = false := decide_eq_false (by omega)
  clear c2
  by_cases c5 : 6 ≤ (l0.length : Int)
  ·rw [if_pos c5] at H
   have c5b0 := eq_true c5
   have c5b1 : decide (6 ≤ (l0.length : Int)) = true := decide_eq_true c5
   clear c5
   replace H := Option.bind_eq_some_iff.mp H
   obtain ⟨t250, A60, H⟩ := H
   replace H : (if (wrap64 (t250)) < 8 then (some (0, 0, 0, ([] : List Int), 21)) else (if (l0.length : Int) < (wrap64 (t250)) then (some (0, 0, 0, ([] : List Int), 20)) else (if 2 ≤ (l0.length : Int) then ((udp_two.f ((l0.take 2).drop 0)).bind fun t252 => (if 4 ≤ (l0.length : Int) then ((udp_two.f ((l0.take 4).drop 2)).bind fun t254 => (if 8 ≤ (l0.length : Int) then ((udp_two.f ((l0.take 8).drop 6)).bind fun t256 => (if 8 ≤ (wrap64 (t250)) then (if (wrap64 (t250)) ≤ (l0.length : Int) then ((slices_Clone_byte_byte.f ((l0.take ((wrap64 (t250)) : Int).toNat).drop 8)).bind fun t258 => (some (t252, t254, t256, t258, 0))) else (none)) else (none))) else (none))) else (none))) else (none)))) = some (r1, r2, r3, r4, r5) := H
   have A6 := Aside0.mk A60
   clear A60
   by_cases c7 : (wrap64 (t250)) < 8
   ·rw [if_pos c7] at H
    have c7b0 : decide ((wrap64 (t250)) < 8) = true := decide_eq_true c7
    clear c7
    simp only [Option.some.injEq, Prod.mk.injEq] at H
    obtain ⟨rfl, rfl, rfl, rfl, rfl⟩ := H
    go_enter Try.func58, Try.ntmps58
    go_wp2_with (first | ((with_reducible refine gate_dst (N := 2) rfl ?_); refine box_event ?hg (N := 2) ?hd (cs := #[.int .u16 0, .int .u16 0, .int .u16 0, .slice none 0 0]) (t := 83) ?hr ?_; (case hd => rfl); (case hg => rfl); (case hr => first | (go_simp; done) | (go_simp; rfl)); intro gb248 hg w8 hbox hb; have n0_ := Aside0.mk (below_step (by repeat (first | (with_reducible first | exact HB.out | apply below_alloc | apply pw_below_drewN | apply below_drew1) | exact HB.out)) hb); have n1_ := Aside0.mk (hbox); have n2_ := Aside0.mk ((by rw [hg]; exact (below_size (by repeat (first | (with_reducible first | exact HB.out | apply below_alloc | apply pw_below_drewN | apply below_drew1) | exact HB.out))) : w.heap.size ≤ gb248)); have n3_ := Aside0.mk ((by rw [hg]; exact (below_size (by repeat (first | (with_reducible first | exact HB.out | apply below_alloc | apply pw_below_drewN | apply below_drew1) | exact HB.out))) : w.heap.size ≤ gb248)); clear HB; have HB := n0_; have BK248 := n1_; have GW248 := n2_; have GE248 := n3_; clear n0_ n1_ n2_ n3_; clear hb hbox hg; obtain ⟨i09, hi09, _, hsz9, _⟩ := info_parts info5; obtain ⟨A9, hcut9, hA9, hC9⟩ := print_mid3_of (P := Try.prog) (Value.int .u8) 0 23 5 .i64 .i64 .i64 Try.underlying23 hi09 hsz9 A0 c0 l0 4 6 (by omega) (by first | omega | exact of_decide_eq_true (by first | (with_reducible assumption) | assumption)) (of_decide_eq_true (by first | (with_reducible assumption) | assumption)) HC0.out; have HR249 := Aside0.mk (Kd.C_of_reads (h1 := fun _ => rfl) (hA9 _ (Kd.reads_of_C HR0.out))); have HC249 := Aside0.mk hC9; clear hA9 hC9 hi09 hsz9; have hmn9 : min 6 l0.length - 4 = 2 := (by have h_ : (6 : Int) ≤ (l0.length : Int) := of_decide_eq_true (by first | (with_reducible assumption) | assumption); omega)) | ((with_reducible refine gate_callee (f := 96) rfl ?_); refine goesL_ (some 11) rfl rfl Try.func96 (by kernel_rfl) rfl #[.slice A9 ((l0.take 6).drop 4).length 2] rfl (by (try simp only [List.map_toArray, List.map_cons, List.map_nil]); first | done | (rw [show ((l0.take 6).drop 4).length = 2 from (by rw [List.length_drop, List.length_take]; have h_ : (6 : Int) ≤ (l0.length : Int) := of_decide_eq_true (by first | (with_reducible assumption) | assumption); omega)] <;> rfl) | rfl | (simp only [List.length_drop, List.length_take]; rfl) | (go_simp; done) | (simp [Act.eval, IntKind.signed]; done) | (simp [Act.eval, IntKind.signed]; rfl)) ?_; (with_reducible refine (udp_two.calls _ _ ((l0.take 6).drop 4) t250 _ ?side1 ?side2 A6.out).mono ?_); (case side1 => repeat (first | exact (Kd.C_below HR249.out HB.out) | (with_reducible refine Kd.C_alloc ?_ _) | (with_reducible refine Kd.C_drewN ?_ _) | (with_reducible refine Kd.C_drew ?_))); (case side2 => exact HC249.out); rintro e w' ⟨rfl, ⟨nd, rfl⟩⟩; refine ⟨_, rfl, ?_⟩; (try (rw [drewN_self w8]; generalize hq_ : World.drewN w8 _ = w8; have n0_ : Aside0 (w8.heap[gb248]? = some (.cells #[.int .u16 0, .int .u16 0, .int .u16 0, .slice none 0 0] 83 (0, 0))) := ⟨by rw [← hq_]; exact (by (with_reducible repeat (first | refine blk_drewN ?_ _ | refine blk_drew ?_ | refine blk_alloc ?_ _)); exact BK248.out)⟩; have n1_ : Aside0 (Below w.heap.size w w8) := ⟨by rw [← hq_]; exact (by repeat (first | (with_reducible first | exact HB.out | apply below_alloc | apply pw_below_drewN | apply below_drew1 | refine below_set ?_ GE248.out) | exact HB.out))⟩; clear BK248 HB hq_; have BK248 := n0_; have HB := n1_; clear n0_ n1_)); have hcz10_0 : w8.cell? ⟨gb248, 0, none⟩ = some (.int .u16 0) := (blk_cell BK248.out 0).trans rfl; have hcz10_1 : w8.cell? ⟨gb248, 1, none⟩ = some (.int .u16 0) := (blk_cell BK248.out 1).trans rfl; have hcz10_2 : w8.cell? ⟨gb248, 2, none⟩ = some (.int .u16 0) := (blk_cell BK248.out 2).trans rfl; have hcz10_3 : w8.cell? ⟨gb248, 3, none⟩ = some (.slice none 0 0) := (blk_cell BK248.out 3).trans rfl; have hfz10_0 := blk_frozen BK248.out 0; have hfz10_1 := blk_frozen BK248.out 1; have hfz10_2 := blk_frozen BK248.out 2; have hfz10_3 := blk_frozen BK248.out 3))
    refine bodyPost_ret (results_ct rfl _ _ gb248 83 #[.int .u16 0, .int .u16 0, .int .u16 0, .slice none 0 0] (0, 0) _ rfl (by (with_reducible repeat (first | refine blk_drewN ?_ _ | refine blk_drew ?_ | refine blk_alloc ?_ _)); refine blk_put (cs := #[.int .u16 0, .int .u16 0, .int .u16 0, .slice none 0 0]) ?_ 3 _ rfl; (with_reducible repeat (first | refine blk_drewN ?_ _ | refine blk_drew ?_ | refine blk_alloc ?_ _)); refine blk_put (cs := #[.int .u16 0, .int .u16 0, .int .u16 0, .slice none 0 0]) ?_ 2 _ rfl; (with_reducible repeat (first | refine blk_drewN ?_ _ | refine blk_drew ?_ | refine blk_alloc ?_ _)); refine blk_put (cs := #[.int .u16 0, .int .u16 0, .int .u16 0, .slice none 0 0]) ?_ 1 _ rfl; (with_reducible repeat (first | refine blk_drewN ?_ _ | refine blk_drew ?_ | refine blk_alloc ?_ _)); refine blk_put (cs := #[.int .u16 0, .int .u16 0, .int .u16 0, .slice none 0 0]) ?_ 0 _ rfl; (with_reducible repeat (first | refine blk_drewN ?_ _ | refine blk_drew ?_ | refine blk_alloc ?_ _)); exact BK248.out) Try.underlying83 rfl (by kernel_rfl)) rfl ?_
    exact ⟨_, by first | rfl | (simp [errW_none, errW_some] <;> rfl) | (simp [*, errW_none, errW_some] <;> rfl), by first | exact Kd.R_nil _ _ _ _ _ | exact Kd.N_nil _ _ _ _ _ | exact Kd.V_nil _ _ _ _ _ | exact Kd.Q_nil _ _ _ _ _ | exact Kd.S_nil _ _ _ _ _, by repeat (first | (with_reducible first | exact HB.out | apply below_alloc | apply pw_below_drewN | apply below_drew1 | refine below_set ?_ GE248.out) | exact HB.out)⟩
   ·rw [if_neg c7] at H
    have c7b0 : decide ((wrap64 (t250)) < 8) = false := decide_eq_false c7
    clear c7
    by_cases c11 : (l0.length : Int) < (wrap64 (t250))
    ·rw [if_pos c11] at H
     have c11b0 : decide ((l0.length : Int) < (wrap64 (t250))) = true := decide_eq_true c11
     clear c11
     simp only [Option.some.injEq, Prod.mk.injEq] at H
     obtain ⟨rfl, rfl, rfl, rfl, rfl⟩ := H
     go_enter Try.func58, Try.ntmps58
     go_wp2_with (first | ((with_reducible refine gate_dst (N := 2) rfl ?_); refine box_event ?hg (N := 2) ?hd (cs := #[.int .u16 0, .int .u16 0, .int .u16 0, .slice none 0 0]) (t := 83) ?hr ?_; (case hd => rfl); (case hg => rfl); (case hr => first | (go_simp; done) | (go_simp; rfl)); intro gb248 hg w12 hbox hb; have n0_ := Aside0.mk (below_step (by repeat (first | (with_reducible first | exact HB.out | apply below_alloc | apply pw_below_drewN | apply below_drew1) | exact HB.out)) hb); have n1_ := Aside0.mk (hbox); have n2_ := Aside0.mk ((by rw [hg]; exact (below_size (by repeat (first | (with_reducible first | exact HB.out | apply below_alloc | apply pw_below_drewN | apply below_drew1) | exact HB.out))) : w.heap.size ≤ gb248)); have n3_ := Aside0.mk ((by rw [hg]; exact (below_size (by repeat (first | (with_reducible first | exact HB.out | apply below_alloc | apply pw_below_drewN | apply below_drew1) | exact HB.out))) : w.heap.size ≤ gb248)); clear HB; have HB := n0_; have BK248 := n1_; have GW248 := n2_; have GE248 := n3_; clear n0_ n1_ n2_ n3_; clear hb hbox hg; obtain ⟨i013, hi013, _, hsz13, _⟩ := info_parts info5; obtain ⟨A13, hcut13, hA13, hC13⟩ := print_mid3_of (P := Try.prog) (Value.int .u8) 0 23 5 .i64 .i64 .i64 Try.underlying23 hi013 hsz13 A0 c0 l0 4 6 (by omega) (by first | omega | exact of_decide_eq_true (by first | (with_reducible assumption) | assumption)) (of_decide_eq_true (by first | (with_reducible assumption) | assumption)) HC0.out; have HR249 := Aside0.mk (Kd.C_of_reads (h1 := fun _ => rfl) (hA13 _ (Kd.reads_of_C HR0.out))); have HC249 := Aside0.mk hC13; clear hA13 hC13 hi013 hsz13; have hmn13 : min 6 l0.length - 4 = 2 := (by have h_ : (6 : Int) ≤ (l0.length : Int) := of_decide_eq_true (by first | (with_reducible assumption) | assumption); omega)) | ((with_reducible refine gate_callee (f := 96) rfl ?_); refine goesL_ (some 11) rfl rfl Try.func96 (by kernel_rfl) rfl #[.slice A13 ((l0.take 6).drop 4).length 2] rfl (by (try simp only [List.map_toArray, List.map_cons, List.map_nil]); first | done | (rw [show ((l0.take 6).drop 4).length = 2 from (by rw [List.length_drop, List.length_take]; have h_ : (6 : Int) ≤ (l0.length : Int) := of_decide_eq_true (by first | (with_reducible assumption) | assumption); omega)] <;> rfl) | rfl | (simp only [List.length_drop, List.length_take]; rfl) | (go_simp; done) | (simp [Act.eval, IntKind.signed]; done) | (simp [Act.eval, IntKind.signed]; rfl)) ?_; (with_reducible refine (udp_two.calls _ _ ((l0.take 6).drop 4) t250 _ ?side1 ?side2 A6.out).mono ?_); (case side1 => repeat (first | exact (Kd.C_below HR249.out HB.out) | (with_reducible refine Kd.C_alloc ?_ _) | (with_reducible refine Kd.C_drewN ?_ _) | (with_reducible refine Kd.C_drew ?_))); (case side2 => exact HC249.out); rintro e w' ⟨rfl, ⟨nd, rfl⟩⟩; refine ⟨_, rfl, ?_⟩; (try (rw [drewN_self w12]; generalize hq_ : World.drewN w12 _ = w12; have n0_ : Aside0 (w12.heap[gb248]? = some (.cells #[.int .u16 0, .int .u16 0, .int .u16 0, .slice none 0 0] 83 (0, 0))) := ⟨by rw [← hq_]; exact (by (with_reducible repeat (first | refine blk_drewN ?_ _ | refine blk_drew ?_ | refine blk_alloc ?_ _)); exact BK248.out)⟩; have n1_ : Aside0 (Below w.heap.size w w12) := ⟨by rw [← hq_]; exact (by repeat (first | (with_reducible first | exact HB.out | apply below_alloc | apply pw_below_drewN | apply below_drew1 | refine below_set ?_ GE248.out) | exact HB.out))⟩; clear BK248 HB hq_; have BK248 := n0_; have HB := n1_; clear n0_ n1_)); have hcz14_0 : w12.cell? ⟨gb248, 0, none⟩ = some (.int .u16 0) := (blk_cell BK248.out 0).trans rfl; have hcz14_1 : w12.cell? ⟨gb248, 1, none⟩ = some (.int .u16 0) := (blk_cell BK248.out 1).trans rfl; have hcz14_2 : w12.cell? ⟨gb248, 2, none⟩ = some (.int .u16 0) := (blk_cell BK248.out 2).trans rfl; have hcz14_3 : w12.cell? ⟨gb248, 3, none⟩ = some (.slice none 0 0) := (blk_cell BK248.out 3).trans rfl; have hfz14_0 := blk_frozen BK248.out 0; have hfz14_1 := blk_frozen BK248.out 1; have hfz14_2 := blk_frozen BK248.out 2; have hfz14_3 := blk_frozen BK248.out 3))
     refine bodyPost_ret (results_ct rfl _ _ gb248 83 #[.int .u16 0, .int .u16 0, .int .u16 0, .slice none 0 0] (0, 0) _ rfl (by (with_reducible repeat (first | refine blk_drewN ?_ _ | refine blk_drew ?_ | refine blk_alloc ?_ _)); refine blk_put (cs := #[.int .u16 0, .int .u16 0, .int .u16 0, .slice none 0 0]) ?_ 3 _ rfl; (with_reducible repeat (first | refine blk_drewN ?_ _ | refine blk_drew ?_ | refine blk_alloc ?_ _)); refine blk_put (cs := #[.int .u16 0, .int .u16 0, .int .u16 0, .slice none 0 0]) ?_ 2 _ rfl; (with_reducible repeat (first | refine blk_drewN ?_ _ | refine blk_drew ?_ | refine blk_alloc ?_ _)); refine blk_put (cs := #[.int .u16 0, .int .u16 0, .int .u16 0, .slice none 0 0]) ?_ 1 _ rfl; (with_reducible repeat (first | refine blk_drewN ?_ _ | refine blk_drew ?_ | refine blk_alloc ?_ _)); refine blk_put (cs := #[.int .u16 0, .int .u16 0, .int .u16 0, .slice none 0 0]) ?_ 0 _ rfl; (with_reducible repeat (first | refine blk_drewN ?_ _ | refine blk_drew ?_ | refine blk_alloc ?_ _)); exact BK248.out) Try.underlying83 rfl (by kernel_rfl)) rfl ?_
     exact ⟨_, by first | rfl | (simp [errW_none, errW_some] <;> rfl) | (simp [*, errW_none, errW_some] <;> rfl), by first | exact Kd.R_nil _ _ _ _ _ | exact Kd.N_nil _ _ _ _ _ | exact Kd.V_nil _ _ _ _ _ | exact Kd.Q_nil _ _ _ _ _ | exact Kd.S_nil _ _ _ _ _, by repeat (first | (with_reducible first | exact HB.out | apply below_alloc | apply pw_below_drewN | apply below_drew1 | refine below_set ?_ GE248.out) | exact HB.out)⟩
    ·rw [if_neg c11] at H
     have c11b0 : decide ((l0.length : Int) < (wrap64 (t250))) = false := decide_eq_false c11
     clear c11
     by_cases c15 : 2 ≤ (l0.length : Int)
     ·rw [if_pos c15] at H
      have c15b0 := eq_true c15
      have c15b1 : decide (2 ≤ (l0.length : Int)) = true := decide_eq_true c15
      clear c15
      replace H := Option.bind_eq_some_iff.mp H
      obtain ⟨t252, A160, H⟩ := H
      replace H : (if 4 ≤ (l0.length : Int) then ((udp_two.f ((l0.take 4).drop 2)).bind fun t254 => (if 8 ≤ (l0.length : Int) then ((udp_two.f ((l0.take 8).drop 6)).bind fun t256 => (if 8 ≤ (wrap64 (t250)) then (if (wrap64 (t250)) ≤ (l0.length : Int) then ((slices_Clone_byte_byte.f ((l0.take ((wrap64 (t250)) : Int).toNat).drop 8)).bind fun t258 => (some (t252, t254, t256, t258, 0))) else (none)) else (none))) else (none))) else (none)) = some (r1, r2, r3, r4, r5) := H
      have A16 := Aside0.mk A160
      clear A160
      by_cases c17 : 4 ≤ (l0.length : Int)
      ·rw [if_pos c17] at H
       have c17b0 := eq_true c17
       have c17b1 : decide (4 ≤ (l0.length : Int)) = true := decide_eq_true c17
       clear c17
       replace H := Option.bind_eq_some_iff.mp H
       obtain ⟨t254, A180, H⟩ := H
       replace H : (if 8 ≤ (l0.length : Int) then ((udp_two.f ((l0.take 8).drop 6)).bind fun t256 => (if 8 ≤ (wrap64 (t250)) then (if (wrap64 (t250)) ≤ (l0.length : Int) then ((slices_Clone_byte_byte.f ((l0.take ((wrap64 (t250)) : Int).toNat).drop 8)).bind fun t258 => (some (t252, t254, t256, t258, 0))) else (none)) else (none))) else (none)) = some (r1, r2, r3, r4, r5) := H
       have A18 := Aside0.mk A180
       clear A180
       by_cases c19 : 8 ≤ (l0.length : Int)
       ·rw [if_pos c19] at H
        have c19b0 := eq_true c19
        have c19b1 : decide (8 ≤ (l0.length : Int)) = true := decide_eq_true c19
        clear c19
        replace H := Option.bind_eq_some_iff.mp H
        obtain ⟨t256, A200, H⟩ := H
        replace H : (if 8 ≤ (wrap64 (t250)) then (if (wrap64 (t250)) ≤ (l0.length : Int) then ((slices_Clone_byte_byte.f ((l0.take ((wrap64 (t250)) : Int).toNat).drop 8)).bind fun t258 => (some (t252, t254, t256, t258, 0))) else (none)) else (none)) = some (r1, r2, r3, r4, r5) := H
        have A20 := Aside0.mk A200
        clear A200
        by_cases c21 : 8 ≤ (wrap64 (t250))
        ·rw [if_pos c21] at H
         have c21b0 := eq_true c21
         have c21b1 : decide (8 ≤ (wrap64 (t250))) = true := decide_eq_true c21
         clear c21
         by_cases c22 : (wrap64 (t250)) ≤ (l0.length : Int)
         ·rw [if_pos c22] at H
          have c22b0 := eq_true c22
          have c22b1 : decide ((wrap64 (t250)) ≤ (l0.length : Int)) = true := decide_eq_true c22
          clear c22
          replace H := Option.bind_eq_some_iff.mp H
          obtain ⟨t258, A230, H⟩ := H
          replace H : (some (t252, t254, t256, t258, 0)) = some (r1, r2, r3, r4, r5) := H
          have A23 := Aside0.mk A230
          clear A230
          simp only [Option.some.injEq, Prod.mk.injEq] at H
          obtain ⟨rfl, rfl, rfl, rfl, rfl⟩ := H
          go_enter Try.func58, Try.ntmps58
          try go_wp2_with (first | ((with_reducible refine gate_dst (N := 2) rfl ?_); refine box_event ?hg (N := 2) ?hd (cs := #[.int .u16 0, .int .u16 0, .int .u16 0, .slice none 0 0]) (t := 83) ?hr ?_; (case hd => rfl); (case hg => rfl); (case hr => first | (go_simp; done) | (go_simp; rfl)); intro gb248 hg w24 hbox hb; have n0_ := Aside0.mk (below_step (by repeat (first | (with_reducible first | exact HB.out | apply below_alloc | apply pw_below_drewN | apply below_drew1) | exact HB.out)) hb); have n1_ := Aside0.mk (hbox); have n2_ := Aside0.mk ((by rw [hg]; exact (below_size (by repeat (first | (with_reducible first | exact HB.out | apply below_alloc | apply pw_below_drewN | apply below_drew1) | exact HB.out))) : w.heap.size ≤ gb248)); have n3_ := Aside0.mk ((by rw [hg]; exact (below_size (by repeat (first | (with_reducible first | exact HB.out | apply below_alloc | apply pw_below_drewN | apply below_drew1) | exact HB.out))) : w.heap.size ≤ gb248)); clear HB; have HB := n0_; have BK248 := n1_; have GW248 := n2_; have GE248 := n3_; clear n0_ n1_ n2_ n3_; clear hb hbox hg; obtain ⟨i025, hi025, _, hsz25, _⟩ := info_parts info5; obtain ⟨A25, hcut25, hA25, hC25⟩ := print_mid3_of (P := Try.prog) (Value.int .u8) 0 23 5 .i64 .i64 .i64 Try.underlying23 hi025 hsz25 A0 c0 l0 4 6 (by omega) (by first | omega | exact of_decide_eq_true (by first | (with_reducible assumption) | assumption)) (of_decide_eq_true (by first | (with_reducible assumption) | assumption)) HC0.out; have HR249 := Aside0.mk (Kd.C_of_reads (h1 := fun _ => rfl) (hA25 _ (Kd.reads_of_C HR0.out))); have HC249 := Aside0.mk hC25; clear hA25 hC25 hi025 hsz25; have hmn25 : min 6 l0.length - 4 = 2 := (by have h_ : (6 : Int) ≤ (l0.length : Int) := of_decide_eq_true (by first | (with_reducible assumption) | assumption); omega)) | ((with_reducible refine gate_callee (f := 96) rfl ?_); refine goesL_ (some 11) rfl rfl Try.func96 (by kernel_rfl) rfl #[.slice A25 ((l0.take 6).drop 4).length 2] rfl (by (try simp only [List.map_toArray, List.map_cons, List.map_nil]); first | done | (rw [show ((l0.take 6).drop 4).length = 2 from (by rw [List.length_drop, List.length_take]; have h_ : (6 : Int) ≤ (l0.length : Int) := of_decide_eq_true (by first | (with_reducible assumption) | assumption); omega)] <;> rfl) | rfl | (simp only [List.length_drop, List.length_take]; rfl) | (go_simp; done) | (simp [Act.eval, IntKind.signed]; done) | (simp [Act.eval, IntKind.signed]; rfl)) ?_; (with_reducible refine (udp_two.calls _ _ ((l0.take 6).drop 4) t250 _ ?side1 ?side2 A6.out).mono ?_); (case side1 => repeat (first | exact (Kd.C_below HR249.out HB.out) | (with_reducible refine Kd.C_alloc ?_ _) | (with_reducible refine Kd.C_drewN ?_ _) | (with_reducible refine Kd.C_drew ?_))); (case side2 => exact HC249.out); rintro e w' ⟨rfl, ⟨nd, rfl⟩⟩; refine ⟨_, rfl, ?_⟩; (try (rw [drewN_self w24]; generalize hq_ : World.drewN w24 _ = w24; have n0_ : Aside0 (w24.heap[gb248]? = some (.cells #[.int .u16 0, .int .u16 0, .int .u16 0, .slice none 0 0] 83 (0, 0))) := ⟨by rw [← hq_]; exact (by (with_reducible repeat (first | refine blk_drewN ?_ _ | refine blk_drew ?_ | refine blk_alloc ?_ _)); exact BK248.out)⟩; have n1_ : Aside0 (Below w.heap.size w w24) := ⟨by rw [← hq_]; exact (by repeat (first | (with_reducible first | exact HB.out | apply below_alloc | apply pw_below_drewN | apply below_drew1 | refine below_set ?_ GE248.out) | exact HB.out))⟩; clear BK248 HB hq_; have BK248 := n0_; have HB := n1_; clear n0_ n1_))))
          have n0_ := Aside0.mk (blk_drew BK248.out)
          have n1_ := Aside0.mk (below_drew1 HB.out)
          clear BK248
          clear HB
          have BK248 := n0_
          have HB := n1_
          clear n0_ n1_
          obtain ⟨i027, hi027, _, hsz27, _⟩ := info_parts info5
          obtain ⟨A27, hcut27, hA27, hC27⟩ := print_mid3_of (P := Try.prog) (Value.int .u8) 0 23 5 .i64 .i64 .i64 Try.underlying23 hi027 hsz27 A0 c0 l0 0 2 (by omega) (by first | omega | exact of_decide_eq_true (by first | (with_reducible assumption) | assumption)) (of_decide_eq_true (by first | (with_reducible assumption) | assumption)) HC0.out
          have HR251 := Aside0.mk (Kd.C_of_reads (h1 := fun _ => rfl) (hA27 _ (Kd.reads_of_C HR0.out)))
          have HC251 := Aside0.mk hC27
          clear hA27 hC27 hi027 hsz27
          have hmn27 : min 2 l0.length = 2 := (by have h_ : (2 : Int) ≤ (l0.length : Int) := of_decide_eq_true (by first | (with_reducible assumption) | assumption); omega)
          obtain ⟨i028, hi028, _, hsz28, _⟩ := info_parts info5
          obtain ⟨A28, hcut28, hA28, hC28⟩ := print_mid3_of (P := Try.prog) (Value.int .u8) 0 23 5 .i64 .i64 .i64 Try.underlying23 hi028 hsz28 A0 c0 l0 2 4 (by omega) (by first | omega | exact of_decide_eq_true (by first | (with_reducible assumption) | assumption)) (of_decide_eq_true (by first | (with_reducible assumption) | assumption)) HC0.out
          have HR253 := Aside0.mk (Kd.C_of_reads (h1 := fun _ => rfl) (hA28 _ (Kd.reads_of_C HR0.out)))
          have HC253 := Aside0.mk hC28
          clear hA28 hC28 hi028 hsz28
          have hmn28 : min 4 l0.length - 2 = 2 := (by have h_ : (4 : Int) ≤ (l0.length : Int) := of_decide_eq_true (by first | (with_reducible assumption) | assumption); omega)
          obtain ⟨i029, hi029, _, hsz29, _⟩ := info_parts info5
          obtain ⟨A29, hcut29, hA29, hC29⟩ := print_mid3_of (P := Try.prog) (Value.int .u8) 0 23 5 .i64 .i64 .i64 Try.underlying23 hi029 hsz29 A0 c0 l0 6 8 (by omega) (by first | omega | exact of_decide_eq_true (by first | (with_reducible assumption) | assumption)) (of_decide_eq_true (by first | (with_reducible assumption) | assumption)) HC0.out
          have HR255 := Aside0.mk (Kd.C_of_reads (h1 := fun _ => rfl) (hA29 _ (Kd.reads_of_C HR0.out)))
          have HC255 := Aside0.mk hC29
          clear hA29 hC29 hi029 hsz29
          have hmn29 : min 8 l0.length - 6 = 2 := (by have h_ : (8 : Int) ≤ (l0.length : Int) := of_decide_eq_true (by first | (with_reducible assumption) | assumption); omega)
          obtain ⟨i030, hi030, _, hsz30, _⟩ := info_parts info5
          obtain ⟨A30, hcut30, hA30, hC30⟩ := print_mid3_of (P := Try.prog) (Value.int .u8) 0 23 5 .i64 .i64 .i64 Try.underlying23 hi030 hsz30 A0 c0 l0 8 (wrap64 (t250)) (by omega) (by first | omega | exact of_decide_eq_true (by first | (with_reducible assumption) | assumption)) (of_decide_eq_true (by first | (with_reducible assumption) | assumption)) HC0.out
          have HR257 := Aside0.mk (Kd.C_of_reads (h1 := fun _ => rfl) (hA30 _ (Kd.reads_of_C HR0.out)))
          have HC257 := Aside0.mk hC30
          clear hA30 hC30 hi030 hsz30
          refine start_ (n := 17) (S := fun w' => True) (ds := []) #[false, false, false, false, false, false, false, false, false, false, false, false, false, false, false, false, false] (by kernel_rfl) rfl rfl trivial (fun hHeld => ?_); refine with_tabW udp_Parse.tab8 udp_Parse.bits8 (fun HT_ HW_ => ?_)
          generalize w24.drew = w26 at BK248 HB HR251 HR253 HR255 HR257 hHeld ⊢
          refine pure_ (i := 0) (N := some 23) (v := ?_) (a' := ?_) #[true, false, false, false, false, false, false, false, false, false, false, false, false, false, false, false, false] rfl rfl (any_of HT_.out (by kernel_rfl)) (fun _ _ _ h => h) (Or.inl ⟨by rfl, ?_⟩) ?_ ?_
          rotate_left
          ·intro w'
           go_simp
           with_reducible rfl
          rotate_left
          ·simp only [Act.put, List.setIfInBounds_toArray, List.set_cons_zero, List.set_cons_succ, i64_w, i32_w]
           rfl
          refine pure_ (i := 1) (N := some 24) (v := ?_) (a' := ?_) #[true, true, false, false, false, false, false, false, false, false, false, false, false, false, false, false, false] rfl rfl (any_of HT_.out (by kernel_rfl)) (fun _ _ _ h => h) (Or.inl ⟨by rfl, ?_⟩) ?_ ?_
          rotate_left
          ·intro w'
           go_simp
           with_reducible rfl
          rotate_left
          ·simp only [Act.put, List.setIfInBounds_toArray, List.set_cons_zero, List.set_cons_succ, i64_w, i32_w]
           rfl
          refine pure_ (i := 3) (N := some 26) (v := ?_) (a' := ?_) #[true, true, false, true, false, false, false, false, false, false, false, false, false, false, false, false, false] rfl rfl (any_of HT_.out (by kernel_rfl)) (fun _ _ _ h => h) (Or.inl ⟨by rfl, ?_⟩) ?_ ?_
          rotate_left
          ·intro w'
           go_simp
           with_reducible rfl
          rotate_left
          ·simp only [Act.put, List.setIfInBounds_toArray, List.set_cons_zero, List.set_cons_succ, i64_w, i32_w]
           rfl
          refine pure_ (i := 4) (N := some 27) (v := ?_) (a' := ?_) #[true, true, false, true, true, false, false, false, false, false, false, false, false, false, false, false, false] rfl rfl (any_of HT_.out (by kernel_rfl)) (fun _ _ _ h => h) (Or.inl ⟨by rfl, ?_⟩) ?_ ?_
          rotate_left
          ·intro w'
           go_simp
           with_reducible rfl
          rotate_left
          ·simp only [Act.put, List.setIfInBounds_toArray, List.set_cons_zero, List.set_cons_succ, i64_w, i32_w]
           rfl
          refine pure_ (i := 6) (N := some 29) (v := ?_) (a' := ?_) #[true, true, false, true, true, false, true, false, false, false, false, false, false, false, false, false, false] rfl rfl (any_of HT_.out (by kernel_rfl)) (fun _ _ _ h => h) (Or.inl ⟨by rfl, ?_⟩) ?_ ?_
          rotate_left
          ·intro w'
           go_simp
           with_reducible rfl
          rotate_left
          ·simp only [Act.put, List.setIfInBounds_toArray, List.set_cons_zero, List.set_cons_succ, i64_w, i32_w]
           rfl
          refine pure_ (i := 7) (N := some 30) (v := ?_) (a' := ?_) #[true, true, false, true, true, false, true, true, false, false, false, false, false, false, false, false, false] rfl rfl (any_of HT_.out (by kernel_rfl)) (fun _ _ _ h => h) (Or.inl ⟨by rfl, ?_⟩) ?_ ?_
          rotate_left
          ·intro w'
           go_simp
           with_reducible rfl
          rotate_left
          ·simp only [Act.put, List.setIfInBounds_toArray, List.set_cons_zero, List.set_cons_succ, i64_w, i32_w]
           rfl
          refine pure_ (i := 9) (N := some 32) (v := ?_) (a' := ?_) #[true, true, false, true, true, false, true, true, false, true, false, false, false, false, false, false, false] rfl rfl (any_of HT_.out (by kernel_rfl)) (fun _ _ _ h => h) (Or.inl ⟨by rfl, ?_⟩) ?_ ?_
          rotate_left
          ·intro w'
           go_simp
           with_reducible rfl
          rotate_left
          ·simp only [Act.put, List.setIfInBounds_toArray, List.set_cons_zero, List.set_cons_succ, i64_w, i32_w]
           rfl
          refine pure_ (i := 10) (N := some 33) (v := ?_) (a' := ?_) #[true, true, false, true, true, false, true, true, false, true, true, false, false, false, false, false, false] rfl rfl (any_of HT_.out (by kernel_rfl)) (fun _ _ _ h => h) (Or.inl ⟨by rfl, ?_⟩) ?_ ?_
          rotate_left
          ·intro w'
           go_simp
           with_reducible rfl
          rotate_left
          ·simp only [Act.put, List.setIfInBounds_toArray, List.set_cons_zero, List.set_cons_succ, i64_w, i32_w]
           rfl
          refine pure_ (i := 11) (N := some 34) (v := ?_) (a' := ?_) #[true, true, false, true, true, false, true, true, false, true, true, true, false, false, false, false, false] rfl rfl (any_of HT_.out (by kernel_rfl)) (fun _ _ _ h => h) (Or.inl ⟨by rfl, ?_⟩) ?_ ?_
          rotate_left
          ·intro w'
           go_simp
           with_reducible rfl
          rotate_left
          ·simp only [Act.put, List.setIfInBounds_toArray, List.set_cons_zero, List.set_cons_succ, i64_w, i32_w]
           rfl
          refine pure_ (i := 12) (N := some 35) (v := ?_) (a' := ?_) #[true, true, false, true, true, false, true, true, false, true, true, true, true, false, false, false, false] rfl rfl (any_of HT_.out (by kernel_rfl)) (fun _ _ _ h => h) (Or.inl ⟨by rfl, ?_⟩) ?_ ?_
          rotate_left
          ·intro w'
           go_simp
           with_reducible rfl
          rotate_left
          ·simp only [Act.put, List.setIfInBounds_toArray, List.set_cons_zero, List.set_cons_succ, i64_w, i32_w]
           rfl
          refine one_ (i := 2) (N := some 25) #[true, true, true, true, true, false, true, true, false, true, true, true, true, false, false, false, false] rfl rfl (one_of HT_.out (by kernel_rfl)) (by decide) (fun K hK => ?_)
          refine goes_ Try.func96 (by kernel_rfl) rfl #[.slice A27 ((l0.take 2).drop 0).length 2] (by rfl) rfl rfl (by (try simp only [List.map_toArray, List.map_cons, List.map_nil]); first | done | (rw [show ((l0.take 2).drop 0).length = 2 from (by rw [List.length_drop, List.length_take]; have h_ : (2 : Int) ≤ (l0.length : Int) := of_decide_eq_true (by first | (with_reducible assumption) | assumption); omega)] <;> rfl) | rfl | (simp only [List.length_drop, List.length_take]; rfl) | (go_simp; done) | (simp [Act.eval, IntKind.signed]; done) | (simp [Act.eval, IntKind.signed]; rfl)) ?_
          with_reducible refine (udp_two.calls _ _ ((l0.take 2).drop 0) t252 _ ?side1 ?side2 A16.out).mono ?_
          (case side1 => repeat (first | exact (Kd.C_below HR251.out HB.out) | (with_reducible refine Kd.C_alloc ?_ _) | (with_reducible refine Kd.C_drewN ?_ _) | (with_reducible refine Kd.C_drew ?_)))
          (case side2 => exact HC251.out)
          rintro e w' ⟨rfl, ⟨nd, rfl⟩⟩
          refine ⟨_, rfl, ?_⟩
          refine hK.out _ _ trivial (fun hHeld => ?_)
          clear hK K
          refine norm_ (a' := ?_) ?_ ?_
          rotate_left
          ·show Act.put _ (some 25) _ = _
           simp only [Act.put, List.setIfInBounds_toArray, List.set_cons_zero, List.set_cons_succ, i64_w, i32_w]
           rfl
          refine one_ (i := 5) (N := some 28) #[true, true, true, true, true, true, true, true, false, true, true, true, true, false, false, false, false] rfl rfl (one_of HT_.out (by kernel_rfl)) (by decide) (fun K hK => ?_)
          refine goes_ Try.func96 (by kernel_rfl) rfl #[.slice A28 ((l0.take 4).drop 2).length 2] (by rfl) rfl rfl (by (try simp only [List.map_toArray, List.map_cons, List.map_nil]); first | done | (rw [show ((l0.take 4).drop 2).length = 2 from (by rw [List.length_drop, List.length_take]; have h_ : (4 : Int) ≤ (l0.length : Int) := of_decide_eq_true (by first | (with_reducible assumption) | assumption); omega)] <;> rfl) | rfl | (simp only [List.length_drop, List.length_take]; rfl) | (go_simp; done) | (simp [Act.eval, IntKind.signed]; done) | (simp [Act.eval, IntKind.signed]; rfl)) ?_
          with_reducible refine (udp_two.calls _ _ ((l0.take 4).drop 2) t254 _ ?side1 ?side2 A18.out).mono ?_
          (case side1 => repeat (first | exact (Kd.C_below HR253.out (by repeat (first | (with_reducible first | exact HB.out | apply below_alloc | apply pw_below_drewN | apply below_drew1 | refine below_set ?_ GE248.out) | exact HB.out))) | (with_reducible refine Kd.C_alloc ?_ _) | (with_reducible refine Kd.C_drewN ?_ _) | (with_reducible refine Kd.C_drew ?_)))
          (case side2 => exact HC253.out)
          rintro e w' ⟨rfl, ⟨nd, rfl⟩⟩
          refine ⟨_, rfl, ?_⟩
          refine hK.out _ _ trivial (fun hHeld => ?_)
          clear hK K
          refine norm_ (a' := ?_) ?_ ?_
          rotate_left
          ·show Act.put _ (some 28) _ = _
           simp only [Act.put, List.setIfInBounds_toArray, List.set_cons_zero, List.set_cons_succ, i64_w, i32_w]
           rfl
          refine one_ (i := 8) (N := some 31) #[true, true, true, true, true, true, true, true, true, true, true, true, true, false, false, false, false] rfl rfl (one_of HT_.out (by kernel_rfl)) (by decide) (fun K hK => ?_)
          refine goes_ Try.func96 (by kernel_rfl) rfl #[.slice A29 ((l0.take 8).drop 6).length 2] (by rfl) rfl rfl (by (try simp only [List.map_toArray, List.map_cons, List.map_nil]); first | done | (rw [show ((l0.take 8).drop 6).length = 2 from (by rw [List.length_drop, List.length_take]; have h_ : (8 : Int) ≤ (l0.length : Int) := of_decide_eq_true (by first | (with_reducible assumption) | assumption); omega)] <;> rfl) | rfl | (simp only [List.length_drop, List.length_take]; rfl) | (go_simp; done) | (simp [Act.eval, IntKind.signed]; done) | (simp [Act.eval, IntKind.signed]; rfl)) ?_
          with_reducible refine (udp_two.calls _ _ ((l0.take 8).drop 6) t256 _ ?side1 ?side2 A20.out).mono ?_
          (case side1 => repeat (first | exact (Kd.C_below HR255.out (by repeat (first | (with_reducible first | exact HB.out | apply below_alloc | apply pw_below_drewN | apply below_drew1 | refine below_set ?_ GE248.out) | exact HB.out))) | (with_reducible refine Kd.C_alloc ?_ _) | (with_reducible refine Kd.C_drewN ?_ _) | (with_reducible refine Kd.C_drew ?_)))
          (case side2 => exact HC255.out)
          rintro e w' ⟨rfl, ⟨nd, rfl⟩⟩
          refine ⟨_, rfl, ?_⟩
          refine hK.out _ _ trivial (fun hHeld => ?_)
          clear hK K
          refine norm_ (a' := ?_) ?_ ?_
          rotate_left
          ·show Act.put _ (some 31) _ = _
           simp only [Act.put, List.setIfInBounds_toArray, List.set_cons_zero, List.set_cons_succ, i64_w, i32_w]
           rfl
          refine one_ (i := 13) (N := some 36) #[true, true, true, true, true, true, true, true, true, true, true, true, true, true, false, false, false] rfl rfl (one_of HT_.out (by kernel_rfl)) (by decide) (fun K hK => ?_)
          refine goes_ Try.func97 (by kernel_rfl) rfl #[.slice A30 ((l0.take ((wrap64 (t250)) : Int).toNat).drop 8).length ((wrap64 (t250)).toNat - 8)] (by rfl) rfl rfl (by (try simp only [List.map_toArray, List.map_cons, List.map_nil]); first | done | (rw [show ((l0.take ((wrap64 (t250)) : Int).toNat).drop 8).length = ((wrap64 (t250)).toNat - 8) from (by rw [List.length_drop, List.length_take]; have h_ : ((wrap64 (t250)) : Int) ≤ (l0.length : Int) := of_decide_eq_true (by first | (with_reducible assumption) | assumption); omega)] <;> rfl) | rfl | (simp only [List.length_drop, List.length_take]; rfl) | (go_simp; done) | (simp [Act.eval, IntKind.signed]; done) | (simp [Act.eval, IntKind.signed]; rfl)) ?_
          with_reducible refine (slices_Clone_byte_byte.calls _ _ ((l0.take ((wrap64 (t250)) : Int).toNat).drop 8) t258 _ ?side1 ?side2 A23.out).mono ?_
          (case side1 => repeat (first | exact (Kd.C_below HR257.out (by repeat (first | (with_reducible first | exact HB.out | apply below_alloc | apply pw_below_drewN | apply below_drew1 | refine below_set ?_ GE248.out) | exact HB.out))) | (with_reducible refine Kd.C_alloc ?_ _) | (with_reducible refine Kd.C_drewN ?_ _) | (with_reducible refine Kd.C_drew ?_)))
          (case side2 => exact HC257.out)
          rintro e w31 ⟨v259, rfl, ho0, hb⟩
          refine ⟨_, rfl, ?_⟩
          have n0_ := Aside0.mk (Kd.R_lower ho0 (below_size (by repeat (first | (with_reducible first | exact HB.out | apply below_alloc | apply pw_below_drewN | apply below_drew1 | refine below_set ?_ GE248.out) | exact HB.out))))
          have n1_ := Aside0.mk (blk_below (g := gb248) (o := .cells #[.int .u16 0, .int .u16 0, .int .u16 0, .slice none 0 0] 83 (0, 0)) (by (with_reducible repeat (first | refine blk_drewN ?_ _ | refine blk_drew ?_ | refine blk_alloc ?_ _)); exact BK248.out) hb)
          have n2_ := Aside0.mk (below_step (by repeat (first | (with_reducible first | exact HB.out | apply below_alloc | apply pw_below_drewN | apply below_drew1 | refine below_set ?_ GE248.out) | exact HB.out)) hb)
          clear BK248
          clear HB
          have HO260 := n0_
          have BK248 := n1_
          have HB := n2_
          clear n0_ n1_ n2_
          (try clear hb)
          (try clear hb2)
          (try clear hk)
          (try clear hi)
          (try clear ho0)
          obtain ⟨Ao32, co32, eo32⟩ := Kd.R_slice HO260.out
          (first | subst eo32 | (injection eo32 with f1_ f2_ f3_; have f4_ := f1_.symm; have f5_ := f3_.symm; clear f1_ f2_ f3_; subst f4_; subst f5_))
          refine hK.out _ _ trivial (fun hHeld => ?_)
          clear hK K
          refine norm_ (a' := ?_) ?_ ?_
          rotate_left
          ·show Act.put _ (some 36) _ = _
           simp only [Act.put, List.setIfInBounds_toArray, List.set_cons_zero, List.set_cons_succ, i64_w, i32_w]
           rfl
          refine pure_ (i := 14) (N := some 37) (v := ?_) (a' := ?_) #[true, true, true, true, true, true, true, true, true, true, true, true, true, true, true, false, false] rfl rfl (any_of HT_.out (by kernel_rfl)) (fun _ _ _ h => h) (Or.inl ⟨by rfl, ?_⟩) ?_ ?_
          rotate_left
          ·intro w'
           go_simp
           with_reducible rfl
          rotate_left
          ·simp only [Act.put, List.setIfInBounds_toArray, List.set_cons_zero, List.set_cons_succ, i64_w, i32_w]
           rfl
          refine one_ (i := 15) (N := none) #[true, true, true, true, true, true, true, true, true, true, true, true, true, true, true, true, false] rfl rfl (one_of HT_.out (by kernel_rfl)) (by decide) (fun K hK => ?_)
          have hs33 : w31.cell? ⟨gb248, 0, none⟩ = some (.int .u16 0) := (blk_cell BK248.out 0).trans rfl
          have hfs33 := blk_frozen BK248.out 0
          have hs34 : w31.cell? ⟨gb248, 1, none⟩ = some (.int .u16 0) := (blk_cell BK248.out 1).trans rfl
          have hfs34 := blk_frozen BK248.out 1
          have hs35 : w31.cell? ⟨gb248, 2, none⟩ = some (.int .u16 0) := (blk_cell BK248.out 2).trans rfl
          have hfs35 := blk_frozen BK248.out 2
          have hs36 : w31.cell? ⟨gb248, 3, none⟩ = some (.slice none 0 0) := (blk_cell BK248.out 3).trans rfl
          have hfs36 := blk_frozen BK248.out 3
          refine skip_ (w1 := ?_) (by rfl) rfl ?_ ?_
          rotate_left
          ·go_simp
           rfl
          refine hK.out _ _ trivial (fun hHeld => ?_)
          clear hK K
          refine pure_ (i := 16) (N := some 3) (v := ?_) (a' := ?_) #[true, true, true, true, true, true, true, true, true, true, true, true, true, true, true, true, true] rfl rfl (any_of HT_.out (by kernel_rfl)) (fun _ _ _ h => h) (Or.inl ⟨by rfl, ?_⟩) ?_ ?_
          rotate_left
          ·intro w'
           go_simp
           with_reducible rfl
          rotate_left
          ·simp only [Act.put, List.setIfInBounds_toArray, List.set_cons_zero, List.set_cons_succ, i64_w, i32_w]
           rfl
          refine done_ (done_of HT_.out (by kernel_rfl)) ?_
          try go_wp2
          refine bodyPost_ret (results_ct rfl _ _ gb248 83 #[.int .u16 t252, .int .u16 t254, .int .u16 t256, .slice Ao32 t258.length co32] (0, 0) _ rfl (by (with_reducible repeat (first | refine blk_drewN ?_ _ | refine blk_drew ?_ | refine blk_alloc ?_ _)); refine blk_put (cs := #[.int .u16 t252, .int .u16 t254, .int .u16 t256, .slice none 0 0]) ?_ 3 _ rfl; (with_reducible repeat (first | refine blk_drewN ?_ _ | refine blk_drew ?_ | refine blk_alloc ?_ _)); refine blk_put (cs := #[.int .u16 t252, .int .u16 t254, .int .u16 0, .slice none 0 0]) ?_ 2 _ rfl; (with_reducible repeat (first | refine blk_drewN ?_ _ | refine blk_drew ?_ | refine blk_alloc ?_ _)); refine blk_put (cs := #[.int .u16 t252, .int .u16 0, .int .u16 0, .slice none 0 0]) ?_ 1 _ rfl; (with_reducible repeat (first | refine blk_drewN ?_ _ | refine blk_drew ?_ | refine blk_alloc ?_ _)); refine blk_put (cs := #[.int .u16 0, .int .u16 0, .int .u16 0, .slice none 0 0]) ?_ 0 _ rfl; (with_reducible repeat (first | refine blk_drewN ?_ _ | refine blk_drew ?_ | refine blk_alloc ?_ _)); exact BK248.out) Try.underlying83 rfl (by kernel_rfl)) rfl ?_
          exact ⟨_, by first | rfl | (simp [errW_none, errW_some] <;> rfl) | (simp [*, errW_none, errW_some] <;> rfl), by (with_reducible repeat (first | apply Kd.R_alloc | apply Kd.R_drewN | apply Kd.R_drew)); exact Kd.R_mono (Kd.R_far (p := ⟨gb248, 3, none⟩) (Kd.R_far (p := ⟨gb248, 2, none⟩) (Kd.R_far (p := ⟨gb248, 1, none⟩) (Kd.R_far (p := ⟨gb248, 0, none⟩) (Kd.R_types HO260.out BK248.out (by decide)) (fun _ hk => hk.2) (.int .u16 t252)) (fun _ hk => hk.2) (.int .u16 t254)) (fun _ hk => hk.2) (.int .u16 t256)) (fun _ hk => hk.2) (.slice Ao32 t258.length co32)) (fun _ hk => trivial), by repeat (first | (with_reducible first | exact HB.out | apply below_alloc | apply pw_below_drewN | apply below_drew1 | refine below_set ?_ GE248.out) | exact HB.out)⟩
         ·rw [if_neg c22] at H
          exact absurd H (by simp)
        ·rw [if_neg c21] at H
         exact absurd H (by simp)
       ·rw [if_neg c19] at H
        exact absurd H (by simp)
      ·rw [if_neg c17] at H
       exact absurd H (by simp)
     ·rw [if_neg c15] at H
      exact absurd H (by simp)
  ·rw [if_neg c5] at H
   exact absurd H (by simp)

end Go.Proofs.Ytkmimamminddiaa.PB

-- written by a patched print
namespace Go.Proofs.Ytkmimamminddiaa.PB
open Go.RowKit Go.Proofs.YtkmimamminddiaaW.PrintWords Go.Proofs.YtkmimamminddiaaW.PrintLast Go.Proofs.YtkmimamminddiaaW.PrintMore
attribute [local go_sem] max2_int min2_int max_two min_two max_three min_three max_four min_four   -- for this text's walks alone
set_option linter.unusedVariables false
set_option linter.unusedSimpArgs false

/-! ### udp_Bytes: function 108 -/
def udp_Bytes.f (a0_0 : Int) (a0_1 : Int) (a0_2 : Int) (l0_3 : List Int) : Option (List Int × Int) := if (wrap64 (8 + (l0_3.length : Int))) > 65535 then (some (([] : List Int), 23)) else ((some (([(a0_0 / 256) % 256, (a0_0) % 256, (a0_1 / 256) % 256, (a0_1) % 256, ((wrap64 (8 + (l0_3.length : Int))) / 256) % 256, (wrap64 (8 + (l0_3.length : Int))) % 256, (a0_2 / 256) % 256, (a0_2) % 256] : List Int) : List Int)).bind fun y125 => (if y125.length + l0_3.length < 140737488355328 then (some ((y125 ++ l0_3), 0)) else (none)))
set_option maxHeartbeats 8000000 in
set_option maxRecDepth 100000 in
theorem udp_Bytes.calls (a0_0 : Int) (a0_1 : Int) (a0_2 : Int) (A0_3 : Option Addr) (c0_3 : Nat) (l0_3 : List Int) (r1 : List Int) (r2 : Int) (w : World) (hr0_3 : Kd.C (Kd.int .u8) w A0_3 l0_3.length l0_3) (hc0_3 : l0_3.length ≤ c0_3) (h : udp_Bytes.f a0_0 a0_1 a0_2 l0_3 = some (r1, r2)) :
  Calls Try.prog 108 #[.agg #[.int .u16 a0_0, .int .u16 a0_1, .int .u16 a0_2, .slice A0_3 l0_3.length c0_3]] w fun e w' => ∃ v0_ : Value, e = .returned (.tuple #[v0_, .int .i64 r2]) ∧ Kd.R (Kd.int .u8) 5 w' w.heap.size (fun _ => True) v0_ r1 ∧ Below w.heap.size w w' := by
 have hu83 := Try.underlying83
 have HR0_3 := Aside0.mk hr0_3
 have HC0_3 := Aside0.mk hc0_3
 clear hr0_3 hc0_3
 have HB := Aside0.mk (Below.refl w.heap.size w)
 have H : (if (wrap64 (8 + (l0_3.length : Int))) > 65535 then (some (([] : List Int), 23)) else ((some (([(a0_0 / 256) % 256, (a0_0) % 256, (a0_1 / 256) % 256, (a0_1) % 256, ((wrap64 (8 + (l0_3.length : Int))) / 256) % 256, (wrap64 (8 + (l0_3.length : Int))) % 256, (a0_2 / 256) % 256, (a0_2) % 256] : List Int) : List Int)).bind fun y125 => (if y125.length + l0_3.length < 140737488355328 then (some ((y125 ++ l0_3), 0)) else (none)))) = some (r1, r2) := h
 clear h
 by_cases c2 : (wrap64 (8 + (l0_3.length : Int))) > 65535
 ·rw [if_pos c2] at H
  have c2b0 : decide (65535 < (wrap64 (8 + (l0_3.length : Int)))) = true := decide_eq_true c2
  clear c2
  simp only [Option.some.injEq, Prod.mk.injEq] at H
  obtain ⟨rfl, rfl⟩ := H
  go_enter Try.func108, Try.ntmps108
  go_wp2_with (first | ((with_reducible refine gate_dst (N := 1) rfl ?_); refine box_event ?hg (N := 1) ?hd (cs := #[.int .u16 a0_0, .int .u16 a0_1, .int .u16 a0_2, .slice A0_3 l0_3.length c0_3]) (t := 83) ?hr ?_; (case hd => rfl); (case hg => rfl); (case hr => first | (go_simp; done) | (go_simp; rfl)); intro gb124 hg w3 hbox hb; have n0_ := Aside0.mk (below_step (by repeat (first | (with_reducible first | exact HB.out | apply below_alloc | apply pw_below_drewN | apply below_drew1) | exact HB.out)) hb); have n1_ := Aside0.mk (hbox); have n2_ := Aside0.mk ((by rw [hg]; exact (below_size (by repeat (first | (with_reducible first | exact HB.out | apply below_alloc | apply pw_below_drewN | apply below_drew1) | exact HB.out))) : w.heap.size ≤ gb124)); have n3_ := Aside0.mk ((by rw [hg]; exact (below_size (by repeat (first | (with_reducible first | exact HB.out | apply below_alloc | apply pw_below_drewN | apply below_drew1) | exact HB.out))) : w.heap.size ≤ gb124)); clear HB; have HB := n0_; have BK124 := n1_; have GW124 := n2_; have GE124 := n3_; clear n0_ n1_ n2_ n3_; clear hb hbox hg; have hcz4_0 : w3.cell? ⟨gb124, 0, none⟩ = some (.int .u16 a0_0) := (blk_cell BK124.out 0).trans rfl; have hcz4_1 : w3.cell? ⟨gb124, 1, none⟩ = some (.int .u16 a0_1) := (blk_cell BK124.out 1).trans rfl; have hcz4_2 : w3.cell? ⟨gb124, 2, none⟩ = some (.int .u16 a0_2) := (blk_cell BK124.out 2).trans rfl; have hcz4_3 : w3.cell? ⟨gb124, 3, none⟩ = some (.slice A0_3 l0_3.length c0_3) := (blk_cell BK124.out 3).trans rfl; have hfz4_0 := blk_frozen BK124.out 0; have hfz4_1 := blk_frozen BK124.out 1; have hfz4_2 := blk_frozen BK124.out 2; have hfz4_3 := blk_frozen BK124.out 3))
  go_ret2
  exact ⟨_, by first | rfl | (simp [errW_none, errW_some] <;> rfl) | (simp [*, errW_none, errW_some] <;> rfl), by first | exact Kd.R_nil _ _ _ _ _ | exact Kd.N_nil _ _ _ _ _ | exact Kd.V_nil _ _ _ _ _ | exact Kd.Q_nil _ _ _ _ _ | exact Kd.S_nil _ _ _ _ _, by repeat (first | (with_reducible first | exact HB.out | apply below_alloc | apply pw_below_drewN | apply below_drew1 | refine below_set ?_ GE124.out) | exact HB.out)⟩
 ·rw [if_neg c2] at H
  have c2b0 : decide (65535 < (wrap64 (8 + (l0_3.length : Int)))) = false := decide_eq_false c2
  clear c2
  obtain ⟨y125, hy125⟩ : ∃ y_ : List Int, y_ = (([(a0_0 / 256) % 256, (a0_0) % 256, (a0_1 / 256) % 256, (a0_1) % 256, ((wrap64 (8 + (l0_3.length : Int))) / 256) % 256, (wrap64 (8 + (l0_3.length : Int))) % 256, (a0_2 / 256) % 256, (a0_2) % 256] : List Int)) := ⟨_, rfl⟩
  replace H : (if y125.length + l0_3.length < 140737488355328 then (some ((y125 ++ l0_3), 0)) else (none)) = some (r1, r2) := by first | (rw [hy125]; with_reducible exact H) | (have H2_ := (Option.bind_some _ _).symm.trans H; rw [hy125]; with_reducible exact H2_) | (have H2_ := (Option.bind_some _ _).symm.trans H; with_reducible exact H2_) | with_reducible exact H | (rw [hy125]; exact H) | exact H
  have Ny125 := Aside0.mk hy125
  clear hy125
  by_cases c5 : y125.length + l0_3.length < 140737488355328
  ·rw [if_pos c5] at H
   have LMc5 := Aside0.mk c5
   clear c5
   obtain ⟨y128, hy128⟩ : ∃ y_ : List Int, y_ = (y125 ++ l0_3) := ⟨_, rfl⟩
   replace H : (some (y128, 0)) = some (r1, r2) := by first | (rw [hy128]; with_reducible exact H) | (have H2_ := (Option.bind_some _ _).symm.trans H; rw [hy128]; with_reducible exact H2_) | (have H2_ := (Option.bind_some _ _).symm.trans H; with_reducible exact H2_) | with_reducible exact H | (rw [hy128]; exact H) | exact H
   have Ny128 := Aside0.mk hy128
   clear hy128
   simp only [Option.some.injEq, Prod.mk.injEq] at H
   obtain ⟨rfl, rfl⟩ := H
   go_enter Try.func108, Try.ntmps108
   go_wp2_with (first | ((with_reducible refine gate_dst (N := 1) rfl ?_); refine box_event ?hg (N := 1) ?hd (cs := #[.int .u16 a0_0, .int .u16 a0_1, .int .u16 a0_2, .slice A0_3 l0_3.length c0_3]) (t := 83) ?hr ?_; (case hd => rfl); (case hg => rfl); (case hr => first | (go_simp; done) | (go_simp; rfl)); intro gb124 hg w6 hbox hb; have n0_ := Aside0.mk (below_step (by repeat (first | (with_reducible first | exact HB.out | apply below_alloc | apply pw_below_drewN | apply below_drew1) | exact HB.out)) hb); have n1_ := Aside0.mk (hbox); have n2_ := Aside0.mk ((by rw [hg]; exact (below_size (by repeat (first | (with_reducible first | exact HB.out | apply below_alloc | apply pw_below_drewN | apply below_drew1) | exact HB.out))) : w.heap.size ≤ gb124)); have n3_ := Aside0.mk ((by rw [hg]; exact (below_size (by repeat (first | (with_reducible first | exact HB.out | apply below_alloc | apply pw_below_drewN | apply below_drew1) | exact HB.out))) : w.heap.size ≤ gb124)); clear HB; have HB := n0_; have BK124 := n1_; have GW124 := n2_; have GE124 := n3_; clear n0_ n1_ n2_ n3_; clear hb hbox hg; have hcz7_0 : w6.cell? ⟨gb124, 0, none⟩ = some (.int .u16 a0_0) := (blk_cell BK124.out 0).trans rfl; have hcz7_1 : w6.cell? ⟨gb124, 1, none⟩ = some (.int .u16 a0_1) := (blk_cell BK124.out 1).trans rfl; have hcz7_2 : w6.cell? ⟨gb124, 2, none⟩ = some (.int .u16 a0_2) := (blk_cell BK124.out 2).trans rfl; have hcz7_3 : w6.cell? ⟨gb124, 3, none⟩ = some (.slice A0_3 l0_3.length c0_3) := (blk_cell BK124.out 3).trans rfl; have hfz7_0 := blk_frozen BK124.out 0; have hfz7_1 := blk_frozen BK124.out 1; have hfz7_2 := blk_frozen BK124.out 2; have hfz7_3 := blk_frozen BK124.out 3) | ((with_reducible refine gate_dst (N := 37) rfl ?_); refine Kd.R_lit (Kd.int .u8) _ 5 ?hg (N := 37) ?hd (xs := ([(a0_0 / 256) % 256, (a0_0) % 256, (a0_1 / 256) % 256, (a0_1) % 256, ((wrap64 (8 + (l0_3.length : Int))) / 256) % 256, (wrap64 (8 + (l0_3.length : Int))) % 256, (a0_2 / 256) % 256, (a0_2) % 256] : List Int)) (inner := [.int .u8 ((a0_0 / 256) % 256), .int .u8 ((a0_0) % 256), .int .u8 ((a0_1 / 256) % 256), .int .u8 ((a0_1) % 256), .int .u8 (((wrap64 (8 + (l0_3.length : Int))) / 256) % 256), .int .u8 ((wrap64 (8 + (l0_3.length : Int))) % 256), .int .u8 ((a0_2 / 256) % 256), .int .u8 ((a0_2) % 256)]) (ok := fun _ => True) (okp := fun _ => True) ?hr ?hp (fun _ hk => hk) trivial (Below.refl _ _) (Nat.le_refl _) (by simp) ?_; (case hd => rfl); (case hg => rfl); (case hr => first | (go_simp; done) | (go_simp; simp only [IntKind.wrap_u8, IntKind.wrap_u16, IntKind.wrap_u32]; done) | (go_simp; rfl)); (case hp => exact (Reps.one (show Kd.M (Kd.int .u8) _ _ _ ((a0_0 / 256) % 256) [.int .u8 ((a0_0 / 256) % 256)] from rfl) (Reps.one (show Kd.M (Kd.int .u8) _ _ _ ((a0_0) % 256) [.int .u8 ((a0_0) % 256)] from rfl) (Reps.one (show Kd.M (Kd.int .u8) _ _ _ ((a0_1 / 256) % 256) [.int .u8 ((a0_1 / 256) % 256)] from rfl) (Reps.one (show Kd.M (Kd.int .u8) _ _ _ ((a0_1) % 256) [.int .u8 ((a0_1) % 256)] from rfl) (Reps.one (show Kd.M (Kd.int .u8) _ _ _ (((wrap64 (8 + (l0_3.length : Int))) / 256) % 256) [.int .u8 (((wrap64 (8 + (l0_3.length : Int))) / 256) % 256)] from rfl) (Reps.one (show Kd.M (Kd.int .u8) _ _ _ ((wrap64 (8 + (l0_3.length : Int))) % 256) [.int .u8 ((wrap64 (8 + (l0_3.length : Int))) % 256)] from rfl) (Reps.one (show Kd.M (Kd.int .u8) _ _ _ ((a0_2 / 256) % 256) [.int .u8 ((a0_2 / 256) % 256)] from rfl) (Reps.one (show Kd.M (Kd.int .u8) _ _ _ ((a0_2) % 256) [.int .u8 ((a0_2) % 256)] from rfl) (Reps.none _ _)))))))))); intro v126 w8 ho9 hb hg_ hnew_; clear hg_ hnew_; (first | rw [← Ny125.out] at ho9 | (simp only [Int.reduceToNat] at ho9; rw [← Ny125.out] at ho9)); have n0_ := Aside0.mk (Kd.R_lower ho9 (below_size (by repeat (first | (with_reducible first | exact HB.out | apply below_alloc | apply pw_below_drewN | apply below_drew1 | refine below_set ?_ GE124.out) | exact HB.out)))); have n1_ := Aside0.mk (blk_below (g := gb124) (o := .cells #[.int .u16 a0_0, .int .u16 a0_1, .int .u16 a0_2, .slice A0_3 l0_3.length c0_3] 83 (0, 0)) (by (with_reducible repeat (first | refine blk_drewN ?_ _ | refine blk_drew ?_ | refine blk_alloc ?_ _)); exact BK124.out) hb); have n2_ := Aside0.mk (below_step (by repeat (first | (with_reducible first | exact HB.out | apply below_alloc | apply pw_below_drewN | apply below_drew1 | refine below_set ?_ GE124.out) | exact HB.out)) hb); clear BK124; clear HB; have HO127 := n0_; have BK124 := n1_; have HB := n2_; clear n0_ n1_ n2_; clear hb ho9; have hcz10_0 : w8.cell? ⟨gb124, 0, none⟩ = some (.int .u16 a0_0) := (blk_cell BK124.out 0).trans rfl; have hcz10_1 : w8.cell? ⟨gb124, 1, none⟩ = some (.int .u16 a0_1) := (blk_cell BK124.out 1).trans rfl; have hcz10_2 : w8.cell? ⟨gb124, 2, none⟩ = some (.int .u16 a0_2) := (blk_cell BK124.out 2).trans rfl; have hcz10_3 : w8.cell? ⟨gb124, 3, none⟩ = some (.slice A0_3 l0_3.length c0_3) := (blk_cell BK124.out 3).trans rfl; have hfz10_0 := blk_frozen BK124.out 0; have hfz10_1 := blk_frozen BK124.out 1; have hfz10_2 := blk_frozen BK124.out 2; have hfz10_3 := blk_frozen BK124.out 3) | ((with_reducible refine gate_builtin (b := .append) (xs := #[.tmp 37, .tmp 39]) rfl ?_); at_builtin; refine Kd.R_append_rows (Kd.int .u8) (w0 := w) w.heap.size rfl (.tmp 37) (.tmp 39) 23 5 (.int .u8 0) 1 rfl Try.underlying23 info5 rfl (by decide) (by omega) v126 y125 l0_3 _ _ _ (fun _ => True) (fun _ => False) rfl rfl ?aO ?aR (fun _ _ h => h) (fun _ h => h.elim) ?aF ?aB ?aS ?aL ?_; (case aR => repeat (first | exact (Kd.C_below HR0_3.out HB.out) | (with_reducible refine Kd.C_alloc ?_ _) | (with_reducible refine Kd.C_drewN ?_ _) | (with_reducible refine Kd.C_drew ?_))); (case aB => exact (by repeat (first | (with_reducible first | exact HB.out | apply below_alloc | apply pw_below_drewN | apply below_drew1 | refine below_set ?_ GE124.out) | exact HB.out))); (case aF => exact (fun _ _ => trivial)); (case aO => exact (by (with_reducible repeat (first | apply Kd.R_alloc | apply Kd.R_drewN | apply Kd.R_drew)); exact HO127.out)); (case aS => exact (below_size (by repeat (first | (with_reducible first | exact HB.out | apply below_alloc | apply pw_below_drewN | apply below_drew1 | refine below_set ?_ GE124.out) | exact HB.out)))); (case aL => have := LMc5.out; omega); intro v129 w11 ho hb hg hat; rw [← Ny128.out] at ho; have n0_ := Aside0.mk (blk_grown (g := gb124) (o := .cells #[.int .u16 a0_0, .int .u16 a0_1, .int .u16 a0_2, .slice A0_3 l0_3.length c0_3] 83 (0, 0)) (by (with_reducible repeat (first | refine blk_drewN ?_ _ | refine blk_drew ?_ | refine blk_alloc ?_ _)); exact BK124.out) hg (Kd.R_ne HO127.out BK124.out (by decide))); have n1_ := Aside0.mk (hb); have n2_ := Aside0.mk (ho); clear BK124; clear HB; clear HO127; have BK124 := n0_; have HB := n1_; have HO130 := n2_; clear n0_ n1_ n2_; clear ho hb hg hat))
   go_ret2
   exact ⟨_, by first | rfl | (simp [errW_none, errW_some] <;> rfl) | (simp [*, errW_none, errW_some] <;> rfl), by (with_reducible repeat (first | apply Kd.R_alloc | apply Kd.R_drewN | apply Kd.R_drew)); exact HO130.out, by repeat (first | (with_reducible first | exact HB.out | apply below_alloc | apply pw_below_drewN | apply below_drew1 | refine below_set ?_ GE124.out) | exact HB.out)⟩
  ·rw [if_neg c5] at H
   exact absurd H (by simp)

end Go.Proofs.Ytkmimamminddiaa.PB

-- written by a patched print
namespace Go.Proofs.Ytkmimamminddiaa.PB
open Go.RowKit Go.Proofs.YtkmimamminddiaaW.PrintWords Go.Proofs.YtkmimamminddiaaW.PrintLast Go.Proofs.YtkmimamminddiaaW.PrintMore
attribute [local go_sem] max2_int min2_int max_two min_two max_three min_three max_four min_four   -- for this text's walks alone
set_option linter.unusedVariables false
set_option linter.unusedSimpArgs false

/-! ### sum_Pseudo: function 121 -/
def sum_Pseudo.f (k : Nat) (a0 : Int) (a1 : Int) (a2 : Int) (a3 : Int) : Option (Int) := (sum_Fold.f k (((a0 / 65536) + (Go.bits .and .u32 a0 65535) + (a1 / 65536) + (Go.bits .and .u32 a1 65535) + (a2) + (IntKind.u16.wrap (a3))) % 4294967296)).bind fun t261 => (some ((t261) % 4294967296))
set_option maxHeartbeats 8000000 in
set_option maxRecDepth 100000 in
theorem sum_Pseudo.calls (k : Nat) (a0 : Int) (a1 : Int) (a2 : Int) (a3 : Int) (r : Int) (w : World) (h : sum_Pseudo.f k a0 a1 a2 a3 = some r) :
  Calls Try.prog 121 #[.int .u32 a0, .int .u32 a1, .int .u8 a2, .int .i64 a3] w fun e w' => e = .returned (.int .u32 r) ∧ Drawn0 w w' := by
 have H : ((sum_Fold.f k (((a0 / 65536) + (Go.bits .and .u32 a0 65535) + (a1 / 65536) + (Go.bits .and .u32 a1 65535) + (a2) + (IntKind.u16.wrap (a3))) % 4294967296)).bind fun t261 => (some ((t261) % 4294967296))) = some r := h
 clear h
 replace H := Option.bind_eq_some_iff.mp H
 obtain ⟨t261, A50, H⟩ := H
 replace H : (some ((t261) % 4294967296)) = some r := H
 have A5 := Aside0.mk A50
 clear A50
 obtain rfl := Option.some.inj H
 go_enter Try.func121, Try.ntmps121
 go_wp2_with (first | ((with_reducible refine gate_callee (f := 115) rfl ?_); refine goesL_ (some 27) rfl rfl Try.func115 (by kernel_rfl) rfl #[.int .u32 (((a0 / 65536) + (Go.bits .and .u32 a0 65535) + (a1 / 65536) + (Go.bits .and .u32 a1 65535) + (a2) + (IntKind.u16.wrap (a3))) % 4294967296)] rfl (by (try simp only [List.map_toArray, List.map_cons, List.map_nil]); first | done | rfl | (simp only [List.length_drop, List.length_take]; rfl) | (go_simp; done) | (simp [Act.eval, IntKind.signed]; done) | (simp [Act.eval, IntKind.signed]; rfl)) ?_; (with_reducible refine (sum_Fold.calls k (((a0 / 65536) + (Go.bits .and .u32 a0 65535) + (a1 / 65536) + (Go.bits .and .u32 a1 65535) + (a2) + (IntKind.u16.wrap (a3))) % 4294967296) t261 _ A5.out).mono ?_); rintro e w' ⟨rfl, ⟨nd, rfl⟩⟩; refine ⟨_, rfl, ?_⟩))
 go_ret
 exact ⟨by first | rfl | (simp; done) | (simp [*]; done), by repeat (first | exact Drawn0.refl _ | apply Drawn0.step)⟩

/-! ### udp_total: function 98 -/
def udp_total.f (k : Nat) (a0 : Int) (a1 : Int) (a2_0 : Int) (a2_1 : Int) (a2_2 : Int) (l2_3 : List Int) : Option (Int × Bool) := (udp_Bytes.f a2_0 a2_1 a2_2 l2_3).bind fun bt263 => ((sum_Pseudo.f k a0 a1 17 (bt263.1.length : Int)).bind fun t267 => ((sum_Add.f k t267 bt263.1).bind fun t268 => ((sum_Fold.f k t268).bind fun t269 => (some (t269, (bt263.2 == 0))))))
set_option maxHeartbeats 8000000 in
set_option maxRecDepth 100000 in
theorem udp_total.calls (k : Nat) (a0 : Int) (a1 : Int) (a2_0 : Int) (a2_1 : Int) (a2_2 : Int) (A2_3 : Option Addr) (c2_3 : Nat) (l2_3 : List Int) (r1 : Int) (r2 : Bool) (w : World) (hr2_3 : Kd.C (Kd.int .u8) w A2_3 l2_3.length l2_3) (hc2_3 : l2_3.length ≤ c2_3) (h : udp_total.f k a0 a1 a2_0 a2_1 a2_2 l2_3 = some (r1, r2)) :
  Calls Try.prog 98 #[.int .u32 a0, .int .u32 a1, .agg #[.int .u16 a2_0, .int .u16 a2_1, .int .u16 a2_2, .slice A2_3 l2_3.length c2_3]] w fun e w' => e = .returned (.tuple #[.int .u16 r1, .bool r2]) ∧ Below w.heap.size w w' := by
 have hu83 := Try.underlying83
 have HR2_3 := Aside0.mk hr2_3
 have HC2_3 := Aside0.mk hc2_3
 clear hr2_3 hc2_3
 have HB := Aside0.mk (Below.refl w.heap.size w)
 have H : ((udp_Bytes.f a2_0 a2_1 a2_2 l2_3).bind fun bt263 => ((sum_Pseudo.f k a0 a1 17 (bt263.1.length : Int)).bind fun t267 => ((sum_Add.f k t267 bt263.1).bind fun t268 => ((sum_Fold.f k t268).bind fun t269 => (some (t269, (bt263.2 == 0))))))) = some (r1, r2) := h
 clear h
 replace H := Option.bind_eq_some_iff.mp H
 obtain ⟨⟨t263, t266⟩, A40, H⟩ := H
 replace H : ((sum_Pseudo.f k a0 a1 17 (t263.length : Int)).bind fun t267 => ((sum_Add.f k t267 t263).bind fun t268 => ((sum_Fold.f k t268).bind fun t269 => (some (t269, (t266 == 0)))))) = some (r1, r2) := H
 have A4 := Aside0.mk A40
 clear A40
 replace H := Option.bind_eq_some_iff.mp H
 obtain ⟨t267, A50, H⟩ := H
 replace H : ((sum_Add.f k t267 t263).bind fun t268 => ((sum_Fold.f k t268).bind fun t269 => (some (t269, (t266 == 0))))) = some (r1, r2) := H
 have A5 := Aside0.mk A50
 clear A50
 replace H := Option.bind_eq_some_iff.mp H
 obtain ⟨t268, A60, H⟩ := H
 replace H : ((sum_Fold.f k t268).bind fun t269 => (some (t269, (t266 == 0)))) = some (r1, r2) := H
 have A6 := Aside0.mk A60
 clear A60
 replace H := Option.bind_eq_some_iff.mp H
 obtain ⟨t269, A70, H⟩ := H
 replace H : (some (t269, (t266 == 0))) = some (r1, r2) := H
 have A7 := Aside0.mk A70
 clear A70
 simp only [Option.some.injEq, Prod.mk.injEq] at H
 obtain ⟨rfl, rfl⟩ := H
 go_enter Try.func98, Try.ntmps98
 go_wp2_with (first | ((with_reducible refine gate_dst (N := 5) rfl ?_); refine box_event ?hg (N := 5) ?hd (cs := #[.int .u16 a2_0, .int .u16 a2_1, .int .u16 a2_2, .slice A2_3 l2_3.length c2_3]) (t := 83) ?hr ?_; (case hd => rfl); (case hg => rfl); (case hr => first | (go_simp; done) | (go_simp; rfl)); intro gb262 hg w8 hbox hb; have n0_ := Aside0.mk (below_step (by repeat (first | (with_reducible first | exact HB.out | apply below_alloc | apply pw_below_drewN | apply below_drew1) | exact HB.out)) hb); have n1_ := Aside0.mk (hbox); have n2_ := Aside0.mk ((by rw [hg]; exact (below_size (by repeat (first | (with_reducible first | exact HB.out | apply below_alloc | apply pw_below_drewN | apply below_drew1) | exact HB.out))) : w.heap.size ≤ gb262)); have n3_ := Aside0.mk ((by rw [hg]; exact (below_size (by repeat (first | (with_reducible first | exact HB.out | apply below_alloc | apply pw_below_drewN | apply below_drew1) | exact HB.out))) : w.heap.size ≤ gb262)); clear HB; have HB := n0_; have BK262 := n1_; have GW262 := n2_; have GE262 := n3_; clear n0_ n1_ n2_ n3_; clear hb hbox hg; have hcz9_0 : w8.cell? ⟨gb262, 0, none⟩ = some (.int .u16 a2_0) := (blk_cell BK262.out 0).trans rfl; have hcz9_1 : w8.cell? ⟨gb262, 1, none⟩ = some (.int .u16 a2_1) := (blk_cell BK262.out 1).trans rfl; have hcz9_2 : w8.cell? ⟨gb262, 2, none⟩ = some (.int .u16 a2_2) := (blk_cell BK262.out 2).trans rfl; have hcz9_3 : w8.cell? ⟨gb262, 3, none⟩ = some (.slice A2_3 l2_3.length c2_3) := (blk_cell BK262.out 3).trans rfl; have hfz9_0 := blk_frozen BK262.out 0; have hfz9_1 := blk_frozen BK262.out 1; have hfz9_2 := blk_frozen BK262.out 2; have hfz9_3 := blk_frozen BK262.out 3) | ((with_reducible refine gate_callee (f := 108) rfl ?_); refine goesL_ (some 12) rfl rfl Try.func108 (by kernel_rfl) rfl #[.agg #[.int .u16 a2_0, .int .u16 a2_1, .int .u16 a2_2, .slice A2_3 l2_3.length c2_3]] rfl (by (try simp only [List.map_toArray, List.map_cons, List.map_nil]); first | done | rfl | (simp only [List.length_drop, List.length_take]; rfl) | (go_simp; done) | (simp [Act.eval, IntKind.signed]; done) | (simp [Act.eval, IntKind.signed]; rfl)) ?_; (with_reducible refine (udp_Bytes.calls a2_0 a2_1 a2_2 _ _ l2_3 t263 t266 _ ?side1 ?side2 A4.out).mono ?_); (case side1 => repeat (first | exact (Kd.C_below HR2_3.out HB.out) | (with_reducible refine Kd.C_alloc ?_ _) | (with_reducible refine Kd.C_drewN ?_ _) | (with_reducible refine Kd.C_drew ?_))); (case side2 => exact HC2_3.out); rintro e w10 ⟨v264, rfl, ho0, hb⟩; refine ⟨_, rfl, ?_⟩; have n0_ := Aside0.mk (Kd.R_lower ho0 (below_size (by repeat (first | (with_reducible first | exact HB.out | apply below_alloc | apply pw_below_drewN | apply below_drew1 | refine below_set ?_ GE262.out) | exact HB.out)))); have n1_ := Aside0.mk (blk_below (g := gb262) (o := .cells #[.int .u16 a2_0, .int .u16 a2_1, .int .u16 a2_2, .slice A2_3 l2_3.length c2_3] 83 (0, 0)) (by (with_reducible repeat (first | refine blk_drewN ?_ _ | refine blk_drew ?_ | refine blk_alloc ?_ _)); exact BK262.out) hb); have n2_ := Aside0.mk (below_step (by repeat (first | (with_reducible first | exact HB.out | apply below_alloc | apply pw_below_drewN | apply below_drew1 | refine below_set ?_ GE262.out) | exact HB.out)) hb); clear BK262; clear HB; have HO265 := n0_; have BK262 := n1_; have HB := n2_; clear n0_ n1_ n2_; (try clear hb); (try clear hb2); (try clear hk); (try clear hi); (try clear ho0); obtain ⟨Ao11, co11, eo11⟩ := Kd.R_slice HO265.out; subst eo11) | ((with_reducible refine gate_callee (f := 121) rfl ?_); refine goesL_ (some 19) rfl rfl Try.func121 (by kernel_rfl) rfl #[.int .u32 a0, .int .u32 a1, .int .u8 17, .int .i64 (t263.length : Int)] rfl (by (try simp only [List.map_toArray, List.map_cons, List.map_nil]); first | done | rfl | (simp only [List.length_drop, List.length_take]; rfl) | (go_simp; done) | (simp [Act.eval, IntKind.signed]; done) | (simp [Act.eval, IntKind.signed]; rfl)) ?_; (with_reducible refine (sum_Pseudo.calls k a0 a1 17 (t263.length : Int) t267 _ A5.out).mono ?_); rintro e w' ⟨rfl, ⟨nd, rfl⟩⟩; refine ⟨_, rfl, ?_⟩) | ((with_reducible refine gate_callee (f := 116) rfl ?_); refine goesL_ (some 21) rfl rfl Try.func116 (by kernel_rfl) rfl #[.int .u32 t267, .slice Ao11 t263.length co11] rfl (by (try simp only [List.map_toArray, List.map_cons, List.map_nil]); first | done | rfl | (simp only [List.length_drop, List.length_take]; rfl) | (go_simp; done) | (simp [Act.eval, IntKind.signed]; done) | (simp [Act.eval, IntKind.signed]; rfl)) ?_; (with_reducible refine (sum_Add.calls k t267 _ _ t263 t268 _ ?side1 ?side2 A6.out).mono ?_); (case side1 => repeat (first | exact (Kd.R_reads' HO265.out).2.2 | (with_reducible refine Kd.C_alloc ?_ _) | (with_reducible refine Kd.C_drewN ?_ _) | (with_reducible refine Kd.C_drew ?_))); (case side2 => exact (Kd.R_reads' HO265.out).2.1); rintro e w12 ⟨rfl, hb⟩; refine ⟨_, rfl, ?_⟩; have n0_ := Aside0.mk (Kd.R_below (by (with_reducible repeat (first | apply Kd.R_alloc | apply Kd.R_drewN | apply Kd.R_drew)); exact HO265.out) hb); have n1_ := Aside0.mk (blk_below (g := gb262) (o := .cells #[.int .u16 a2_0, .int .u16 a2_1, .int .u16 a2_2, .slice A2_3 l2_3.length c2_3] 83 (0, 0)) (by (with_reducible repeat (first | refine blk_drewN ?_ _ | refine blk_drew ?_ | refine blk_alloc ?_ _)); exact BK262.out) hb); have n2_ := Aside0.mk (below_step (by repeat (first | (with_reducible first | exact HB.out | apply below_alloc | apply pw_below_drewN | apply below_drew1 | refine below_set ?_ GE262.out) | exact HB.out)) hb); clear HO265; clear BK262; clear HB; have HO265 := n0_; have BK262 := n1_; have HB := n2_; clear n0_ n1_ n2_; (try clear hb); (try clear hb2); (try clear hk); (try clear hi)) | ((with_reducible refine gate_callee (f := 115) rfl ?_); refine goesL_ (some 22) rfl rfl Try.func115 (by kernel_rfl) rfl #[.int .u32 t268] rfl (by (try simp only [List.map_toArray, List.map_cons, List.map_nil]); first | done | rfl | (simp only [List.length_drop, List.length_take]; rfl) | (go_simp; done) | (simp [Act.eval, IntKind.signed]; done) | (simp [Act.eval, IntKind.signed]; rfl)) ?_; (with_reducible refine (sum_Fold.calls k t268 t269 _ A7.out).mono ?_); rintro e w' ⟨rfl, ⟨nd, rfl⟩⟩; refine ⟨_, rfl, ?_⟩))
 go_ret2
 exact ⟨by first | rfl | (simp [errW_none, errW_some] <;> rfl) | (simp [*, errW_none, errW_some] <;> rfl), by repeat (first | (with_reducible first | exact HB.out | apply below_alloc | apply pw_below_drewN | apply below_drew1 | refine below_set ?_ GE262.out) | exact HB.out)⟩

end Go.Proofs.Ytkmimamminddiaa.PB

