-- written by a patched print
import Derived.Test.YtmlmiiejifhfeaaPAx0
import Derived.Test.YtmlmiiejifhfeaaPAx1
import Derived.Test.YtmlmiiejifhfeaaPAx3
namespace Go.Proofs.Ytmlmiiejifhfeaa.PA
open Go.RowKit Go.Proofs.YtmlmiiejifhfeaaW.PrintWords Go.Proofs.YtmlmiiejifhfeaaW.PrintLast Go.Proofs.YtmlmiiejifhfeaaW.PrintMore
attribute [local go_sem] max2_int min2_int max_two min_two max_three min_three max_four min_four   -- for this text's walks alone
set_option linter.unusedVariables false
set_option linter.unusedSimpArgs false

/-! ### ip_reader_packet: function 22 -/
def ip_reader_packet.j0 : Nat → List Int → Int → Int → Option (Int × Int × Int × Int × Int × Int × Int × Int × List Int × List Int)
 | 0, _, _, _ => none
 | k + 1, x0, x3, x4 => (ip_must.f (decide ((x0.length : Int) ≥ x4)) 20).bind fun _ => (if 0 ≤ x3 then (if x3 ≤ (x0.length : Int) then ((sum_Add.f k 0 (x0.take (x3 : Int).toNat)).bind fun t124 => ((sum_Fold.f k t124).bind fun t125 => ((ip_must.f (t125 == 65535) 22).bind fun _ => ((ip_reader_two.f x0 6).bind fun t126 => (if 1 < (x0.length : Int) then ((ip_reader_two.f x0 4).bind fun t128 => (if 8 < (x0.length : Int) then (if 9 < (x0.length : Int) then ((ip_reader_four.f x0 12).bind fun t131 => ((ip_reader_four.f x0 16).bind fun t132 => (if 20 ≤ x3 then ((ip_reader_byte.f ((x0.take (x3 : Int).toNat).drop 20)).bind fun t134 => (if x3 ≤ x4 then (if x4 ≤ (x0.length : Int) then ((ip_reader_byte.f ((x0.take (x4 : Int).toNat).drop (x3 : Int).toNat)).bind fun t138 => (some (rd x0 1, rd x0 8, rd x0 9, t128, (t126 / 8192) % 256, Go.bits .and .u16 t126 8191, t131, t132, t134, t138))) else (none)) else (none))) else (none)))) else (none)) else (none))) else (none)))))) else (none)) else (none))
def ip_reader_packet.f (k : Nat) (l0 : List Int) : Option (Int × Int × Int × Int × Int × Int × Int × Int × List Int × List Int) := (ip_must.f (decide ((l0.length : Int) ≥ 20)) 20).bind fun _ => (if 0 < (l0.length : Int) then ((ip_reader_two.f l0 2).bind fun t121 => (if ((rd l0 0) / 16) = 4 then (if (wrap64 (4 * (wrap64 (Go.bits .and .u8 (rd l0 0) 15)))) ≥ 20 then ((ip_must.f (decide ((wrap64 (t121)) ≥ (wrap64 (4 * (wrap64 (Go.bits .and .u8 (rd l0 0) 15)))))) 21).bind fun _ => (ip_reader_packet.j0 k l0 (wrap64 (4 * (wrap64 (Go.bits .and .u8 (rd l0 0) 15)))) (wrap64 (t121)))) else ((ip_must.f false 21).bind fun _ => (ip_reader_packet.j0 k l0 (wrap64 (4 * (wrap64 (Go.bits .and .u8 (rd l0 0) 15)))) (wrap64 (t121))))) else ((ip_must.f false 21).bind fun _ => (ip_reader_packet.j0 k l0 (wrap64 (4 * (wrap64 (Go.bits .and .u8 (rd l0 0) 15)))) (wrap64 (t121)))))) else (none))
theorem ip_reader_packet.mono_l : ∀ k, (∀ y0 y1 y2, LeO (ip_reader_packet.j0 k y0 y1 y2) (ip_reader_packet.j0 (k + 1) y0 y1 y2))
 | 0 => fun _ _ _ r h => by simp [ip_reader_packet.j0] at h
 | k + 1 => by
  have ih0 := ip_reader_packet.mono_l k
  ·intro y0 y1 y2
   unfold ip_reader_packet.j0
   repeat' first
   | (with_reducible exact ih0 _ _ _)
   | (with_reducible exact sum_Add.mono _ _ _)
   | (with_reducible exact sum_Fold.mono _ _)
   | (with_reducible exact LeO.refl _)
   | (with_reducible exact LeO.none _)
   | (with_reducible refine LeO.ite ?_ ?_)
   | (with_reducible refine LeO.bind ?_ (fun _ => ?_))
   | exact ih0 _ _ _
   | exact sum_Add.mono _ _ _
   | exact sum_Fold.mono _ _
   | exact LeO.none _
   | refine LeO.ite ?_ ?_
   | refine LeO.bind ?_ (fun _ => ?_)
theorem ip_reader_packet.mono : ∀ a0 k, LeO (ip_reader_packet.f k a0) (ip_reader_packet.f (k + 1) a0) := by
 intro a0 k
 have ih0 := ip_reader_packet.mono_l k
 unfold ip_reader_packet.f
 repeat' first
   | (with_reducible exact ih0 _ _ _)
   | (with_reducible exact sum_Add.mono _ _ _)
   | (with_reducible exact sum_Fold.mono _ _)
   | (with_reducible exact LeO.refl _)
   | (with_reducible exact LeO.none _)
   | (with_reducible refine LeO.ite ?_ ?_)
   | (with_reducible refine LeO.bind ?_ (fun _ => ?_))
   | exact ih0 _ _ _
   | exact sum_Add.mono _ _ _
   | exact sum_Fold.mono _ _
   | exact LeO.none _
   | refine LeO.ite ?_ ?_
   | refine LeO.bind ?_ (fun _ => ?_)
def ip_reader_packet.T2 : Bool × List (List Nat × List Nat) := (true, [([], []), ([0], [0]), ([1], [1]), ([2], [2]), ([3], [3]), ([4], [4]), ([], []), ([6], [6]), ([7], [7]), ([5, 7, 0, 1, 2, 3, 4, 5], [5]), ([8, 9, 0, 1, 2, 3, 4, 5, 6, 7, 8, 9], [8])])
def ip_reader_packet.B2 : List Nat := [0, 1, 3, 7, 15, 31, 0, 64, 192, 255, 1023]
theorem ip_reader_packet.tab2 : rtab .any (opsOf Try.f22 2) = ip_reader_packet.T2 := by kernel_rfl
theorem ip_reader_packet.bits2 : waitsOk ip_reader_packet.T2.2 ip_reader_packet.B2 = true := by kernel_rfl
def ip_reader_packet.T7 : Bool × List (List Nat × List Nat) := (true, [([], []), ([0], [0]), ([1], [1]), ([], []), ([3], [3]), ([], []), ([5], [5]), ([6], [6]), ([], []), ([8], [8]), ([], []), ([10], [10]), ([11], [11]), ([], []), ([13], [13]), ([14], [14]), ([], []), ([16, 4], [16]), ([], []), ([18, 17], [18]), ([], []), ([], []), ([20, 21], [20, 21]), ([22, 19], [22]), ([], []), ([], []), ([], []), ([24, 25, 26], [24, 25, 26]), ([27, 23], [27]), ([2, 4, 7, 9, 12, 15, 17, 19, 23, 28], [2, 4, 7, 9, 12, 15, 17, 19, 23, 28]), ([29, 28, 0, 1, 2, 3, 4, 5, 6, 7, 8, 9, 10, 11, 12, 13, 14, 15, 16, 17, 18, 19, 20, 21, 22, 23, 24, 25, 26, 27, 28, 29], [29])])
def ip_reader_packet.B7 : List Nat := [0, 1, 3, 0, 8, 0, 32, 96, 0, 256, 0, 1024, 3072, 0, 8192, 24576, 0, 65560, 0, 458776, 0, 0, 3145728, 8323096, 0, 0, 0, 117440512, 268369944, 536870911, 1073741823]
theorem ip_reader_packet.tab7 : rtab .any (opsOf Try.f22 7) = ip_reader_packet.T7 := by kernel_rfl
theorem ip_reader_packet.bits7 : waitsOk ip_reader_packet.T7.2 ip_reader_packet.B7 = true := by kernel_rfl
set_option maxHeartbeats 8000000 in
set_option maxRecDepth 100000 in
theorem ip_reader_packet.calls (k : Nat) (A0 : Option Addr) (c0 : Nat) (l0 : List Int) (r1 : Int) (r2 : Int) (r3 : Int) (r4 : Int) (r5 : Int) (r6 : Int) (r7 : Int) (r8 : Int) (r9 : List Int) (r10 : List Int) (w : World) (hr0 : Kd.C (Kd.int .u8) w A0 l0.length l0) (hc0 : l0.length ≤ c0) (h : ip_reader_packet.f k l0 = some (r1, r2, r3, r4, r5, r6, r7, r8, r9, r10)) :
  Calls Try.prog 22 #[.slice A0 l0.length c0] w fun e w' => ∃ v8_ v9_ : Value, e = .returned (.agg #[.int .u8 r1, .int .u8 r2, .int .u8 r3, .int .u16 r4, .int .u8 r5, .int .u16 r6, .int .u32 r7, .int .u32 r8, v8_, v9_]) ∧ Kd.R (Kd.int .u8) 5 w' w.heap.size (fun k_ => some k_ ≠ (v9_ : Value).ownBlock) v8_ r9 ∧ Kd.R (Kd.int .u8) 5 w' w.heap.size (fun k_ => some k_ ≠ (v8_ : Value).ownBlock) v9_ r10 ∧ Below w.heap.size w w' := by
 have hu30 := Try.underlying30
 have HR0 := Aside0.mk hr0
 have HC0 := Aside0.mk hc0
 clear hr0 hc0
 have HB := Aside0.mk (Below.refl w.heap.size w)
 have H : ((ip_must.f (decide ((l0.length : Int) ≥ 20)) 20).bind fun _ => (if 0 < (l0.length : Int) then ((ip_reader_two.f l0 2).bind fun t121 => (if ((rd l0 0) / 16) = 4 then (if (wrap64 (4 * (wrap64 (Go.bits .and .u8 (rd l0 0) 15)))) ≥ 20 then ((ip_must.f (decide ((wrap64 (t121)) ≥ (wrap64 (4 * (wrap64 (Go.bits .and .u8 (rd l0 0) 15)))))) 21).bind fun _ => (ip_reader_packet.j0 k l0 (wrap64 (4 * (wrap64 (Go.bits .and .u8 (rd l0 0) 15)))) (wrap64 (t121)))) else ((ip_must.f false 21).bind fun _ => (ip_reader_packet.j0 k l0 (wrap64 (4 * (wrap64 (Go.bits .and .u8 (rd l0 0) 15)))) (wrap64 (t121))))) else ((ip_must.f false 21).bind fun _ => (ip_reader_packet.j0 k l0 (wrap64 (4 * (wrap64 (Go.bits .and .u8 (rd l0 0) 15)))) (wrap64 (t121)))))) else (none))) = some (r1, r2, r3, r4, r5, r6, r7, r8, r9, r10) := h
 clear h
 replace H := Option.bind_eq_some_iff.mp H
 obtain ⟨_, A20, H⟩ := H
 replace H : (if 0 < (l0.length : Int) then ((ip_reader_two.f l0 2).bind fun t121 => (if ((rd l0 0) / 16) = 4 then (if (wrap64 (4 * (wrap64 (Go.bits .and .u8 (rd l0 0) 15)))) ≥ 20 then ((ip_must.f (decide ((wrap64 (t121)) ≥ (wrap64 (4 * (wrap64 (Go.bits .and .u8 (rd l0 0) 15)))))) 21).bind fun _ => (ip_reader_packet.j0 k l0 (wrap64 (4 * (wrap64 (Go.bits .and .u8 (rd l0 0) 15)))) (wrap64 (t121)))) else ((ip_must.f false 21).bind fun _ => (ip_reader_packet.j0 k l0 (wrap64 (4 * (wrap64 (Go.bits .and .u8 (rd l0 0) 15)))) (wrap64 (t121))))) else ((ip_must.f false 21).bind fun _ => (ip_reader_packet.j0 k l0 (wrap64 (4 * (wrap64 (Go.bits .and .u8 (rd l0 0) 15)))) (wrap64 (t121)))))) else (none)) = some (r1, r2, r3, r4, r5, r6, r7, r8, r9, r10) := H
 have A2 := Aside0.mk A20
 clear A20
 by_cases c3 : 0 < (l0.length : Int)
 ·rw [if_pos c3] at H
  have c3b0 : decide (0 < (l0.length : Int)) = true := decide_eq_true c3
  have c3b1 : decide (0 < l0.length) = true := decide_eq_true (by omega)
  clear c3
  replace H := Option.bind_eq_some_iff.mp H
  obtain ⟨t121, A40, H⟩ := H
  replace H : (if ((rd l0 0) / 16) = 4 then (if (wrap64 (4 * (wrap64 (Go.bits .and .u8 (rd l0 0) 15)))) ≥ 20 then ((ip_must.f (decide ((wrap64 (t121)) ≥ (wrap64 (4 * (wrap64 (Go.bits .and .u8 (rd l0 0) 15)))))) 21).bind fun _ => (ip_reader_packet.j0 k l0 (wrap64 (4 * (wrap64 (Go.bits .and .u8 (rd l0 0) 15)))) (wrap64 (t121)))) else ((ip_must.f false 21).bind fun _ => (ip_reader_packet.j0 k l0 (wrap64 (4 * (wrap64 (Go.bits .and .u8 (rd l0 0) 15)))) (wrap64 (t121))))) else ((ip_must.f false 21).bind fun _ => (ip_reader_packet.j0 k l0 (wrap64 (4 * (wrap64 (Go.bits .and .u8 (rd l0 0) 15)))) (wrap64 (t121))))) = some (r1, r2, r3, r4, r5, r6, r7, r8, r9, r10) := H
  have A4 := Aside0.mk A40
  clear A40
  have HC5 := Aside0.mk H
  clear H
  go_enter Try.func22, Try.ntmps22
  try go_wp2_with (first | ((with_reducible refine gate_dst (N := 2) rfl ?_); refine box_event ?hg (N := 2) ?hd (cs := #[.int .u8 0, .int .u8 0, .int .u8 0, .int .u16 0, .int .u8 0, .int .u16 0, .int .u32 0, .int .u32 0, .slice none 0 0, .slice none 0 0]) (t := 30) ?hr ?_; (case hd => rfl); (case hg => rfl); (case hr => first | (go_simp; done) | (go_simp; rfl)); intro gb119 hg w6 hbox hb; have n0_ := Aside0.mk (below_step (by repeat (first | (with_reducible first | exact HB.out | apply below_alloc | apply pw_below_drewN | apply below_drew1) | exact HB.out)) hb); have n1_ := Aside0.mk (hbox); have n2_ := Aside0.mk ((by rw [hg]; exact (below_size (by repeat (first | (with_reducible first | exact HB.out | apply below_alloc | apply pw_below_drewN | apply below_drew1) | exact HB.out))) : w.heap.size ≤ gb119)); have n3_ := Aside0.mk ((by rw [hg]; exact (below_size (by repeat (first | (with_reducible first | exact HB.out | apply below_alloc | apply pw_below_drewN | apply below_drew1) | exact HB.out))) : w.heap.size ≤ gb119)); clear HB; have HB := n0_; have BK119 := n1_; have GW119 := n2_; have GE119 := n3_; clear n0_ n1_ n2_ n3_; clear hb hbox hg) | ((with_reducible refine gate_callee (f := 30) rfl ?_); refine goesL_ (some 9) rfl rfl Try.func30 (by kernel_rfl) rfl #[.bool (decide ((l0.length : Int) ≥ 20)), .int .i64 20] rfl (by (try simp only [List.map_toArray, List.map_cons, List.map_nil]); first | done | rfl | (simp only [List.length_drop, List.length_take]; rfl) | (go_simp; done) | (simp [Act.eval, IntKind.signed]; done) | (simp [Act.eval, IntKind.signed]; rfl)) ?_; (with_reducible refine (ip_must.calls (decide ((l0.length : Int) ≥ 20)) 20  _ A2.out).mono ?_); rintro e w' ⟨rfl, ⟨nd, rfl⟩⟩; refine ⟨_, rfl, ?_⟩))
  (try (rw [drewN_self w6]; generalize hq_ : World.drewN w6 _ = w6; have n0_ : Aside0 (w6.heap[gb119]? = some (.cells #[.int .u8 0, .int .u8 0, .int .u8 0, .int .u16 0, .int .u8 0, .int .u16 0, .int .u32 0, .int .u32 0, .slice none 0 0, .slice none 0 0] 30 (0, 0))) := ⟨by rw [← hq_]; exact (by (with_reducible repeat (first | refine blk_drewN ?_ _ | refine blk_drew ?_ | refine blk_alloc ?_ _)); exact BK119.out)⟩; have n1_ : Aside0 (Below w.heap.size w w6) := ⟨by rw [← hq_]; exact (by repeat (first | (with_reducible first | exact HB.out | apply below_alloc | apply pw_below_drewN | apply below_drew1 | refine below_set ?_ GE119.out) | exact HB.out))⟩; clear BK119 HB hq_; have BK119 := n0_; have HB := n1_; clear n0_ n1_))
  have n0_ := Aside0.mk (blk_drew BK119.out)
  have n1_ := Aside0.mk (below_drew1 HB.out)
  clear BK119
  clear HB
  have BK119 := n0_
  have HB := n1_
  clear n0_ n1_
  have p120 : 0 ≤ (0 : Int) := (by omega)
  have q120 : 0 < (l0.length : Int) := of_decide_eq_true (by first | (with_reducible assumption) | assumption)
  obtain ⟨ad120, e120, hx120_0⟩ := Kd.at_int HR0.out 0 p120 q120
  have hw120_0 := hx120_0
  (try rw [show ((0 : Int)).toNat = 0 from rfl] at hw120_0)
  (try rw [show 0 * 1 = 0 from rfl] at hw120_0)
  (try rw [Addr.add_zero'] at hw120_0)
  cases e120
  have qi120 : (0 < l0.length) = True := eq_true (by omega)
  (try rw [show ((0 : Int)).toNat = 0 from rfl] at hx120_0)
  (try rw [Addr.add_zero'] at hx120_0)
  replace hx120_0 := (HB.out.cell (World.block_lt_of_cell? w _ hx120_0)).trans hx120_0
  replace p120 := eq_true p120
  replace q120 := eq_true q120
  refine start_ (n := 11) (S := fun w' => w'.cell? ad120 = some (.int .u8 (rd l0 0))) (ds := []) #[false, false, false, false, false, false, false, false, false, false, false] (by kernel_rfl) rfl rfl (((HB.out.cell (World.block_lt_of_cell? w _ hw120_0)).trans hw120_0)) (fun hHeld => ?_); refine with_tabW ip_reader_packet.tab2 ip_reader_packet.bits2 (fun HT_ HW_ => ?_)
  generalize w6.drew = w7 at BK119 HB hx120_0 hHeld ⊢
  refine pure_ (i := 0) (N := some 10) (v := ?_) (a' := ?_) #[true, false, false, false, false, false, false, false, false, false, false] rfl rfl (any_of HT_.out (by kernel_rfl)) (fun _ _ _ h => h) (Or.inl ⟨by rfl, ?_⟩) ?_ ?_
  rotate_left
  ·intro w'
   go_simp
   with_reducible rfl
  rotate_left
  ·simp only [Act.put, List.setIfInBounds_toArray, List.set_cons_zero, List.set_cons_succ, i64_w, i32_w]
   rfl
  refine pure_ (i := 1) (N := some 11) (v := ?_) (a' := ?_) #[true, true, false, false, false, false, false, false, false, false, false] rfl rfl (any_of HT_.out (by kernel_rfl)) (fun _ _ _ h => h) (Or.inl ⟨by rfl, ?_⟩) ?_ ?_
  rotate_left
  ·intro w'
   go_simp
   with_reducible rfl
  rotate_left
  ·simp only [Act.put, List.setIfInBounds_toArray, List.set_cons_zero, List.set_cons_succ, i64_w, i32_w]
   rfl
  refine pure_ (i := 6) (N := some 16) (v := ?_) (a' := ?_) #[true, true, false, false, false, false, true, false, false, false, false] rfl rfl (any_of HT_.out (by kernel_rfl)) (fun _ _ _ h => h) (Or.inl ⟨by rfl, ?_⟩) ?_ ?_
  rotate_left
  ·intro w'
   go_simp
   with_reducible rfl
  rotate_left
  ·simp only [Act.put, List.setIfInBounds_toArray, List.set_cons_zero, List.set_cons_succ, i64_w, i32_w]
   rfl
  refine take_ (i := 2) (N := some 12) (v := ?_) (a' := ?_) #[true, true, true, false, false, false, true, false, false, false, false] rfl rfl (take_ofW HT_.out HW_.out (by kernel_rfl)) (fun _ _ _ h => h) (Or.inl ⟨by rfl, ?_⟩) hHeld ?_ ?_
  rotate_left
  ·intro w' s0
   go_simp
   with_reducible rfl
  rotate_left
  ·simp only [Act.put, List.setIfInBounds_toArray, List.set_cons_zero, List.set_cons_succ, i64_w, i32_w]
   rfl
  refine pure_ (i := 3) (N := some 13) (v := ?_) (a' := ?_) #[true, true, true, true, false, false, true, false, false, false, false] rfl rfl (any_of HT_.out (by kernel_rfl)) (fun _ _ _ h => h) (Or.inl ⟨by rfl, ?_⟩) ?_ ?_
  rotate_left
  ·intro w'
   go_simp
   with_reducible rfl
  rotate_left
  ·simp only [Act.put, List.setIfInBounds_toArray, List.set_cons_zero, List.set_cons_succ, i64_w, i32_w]
   rfl
  refine pure_ (i := 4) (N := some 14) (v := ?_) (a' := ?_) #[true, true, true, true, true, false, true, false, false, false, false] rfl rfl (any_of HT_.out (by kernel_rfl)) (fun _ _ _ h => h) (Or.inl ⟨by rfl, ?_⟩) ?_ ?_
  rotate_left
  ·intro w'
   go_simp
   with_reducible rfl
  rotate_left
  ·simp only [Act.put, List.setIfInBounds_toArray, List.set_cons_zero, List.set_cons_succ, i64_w, i32_w]
   rfl
  refine pure_ (i := 5) (N := some 15) (v := ?_) (a' := ?_) #[true, true, true, true, true, true, true, false, false, false, false] rfl rfl (any_of HT_.out (by kernel_rfl)) (fun _ _ _ h => h) (Or.inl ⟨by rfl, ?_⟩) ?_ ?_
  rotate_left
  ·intro w'
   go_simp
   with_reducible rfl
  rotate_left
  ·simp only [Act.put, List.setIfInBounds_toArray, List.set_cons_zero, List.set_cons_succ, i64_w, i32_w]
   rfl
  refine one_ (i := 7) (N := some 17) #[true, true, true, true, true, true, true, true, false, false, false] rfl rfl (one_of HT_.out (by kernel_rfl)) (by decide) (fun K hK => ?_)
  refine goes_ Try.func31 (by kernel_rfl) rfl #[.slice (some ad120) l0.length c0, .int .i64 2] (by rfl) rfl rfl (by (try simp only [List.map_toArray, List.map_cons, List.map_nil]); first | done | rfl | (simp only [List.length_drop, List.length_take]; rfl) | (go_simp; done) | (simp [Act.eval, IntKind.signed]; done) | (simp [Act.eval, IntKind.signed]; rfl)) ?_
  with_reducible refine (ip_reader_two.calls _ _ l0 2 t121 _ ?side1 ?side2 A4.out).mono ?_
  (case side1 => repeat (first | exact (Kd.C_below HR0.out HB.out) | (with_reducible refine Kd.C_alloc ?_ _) | (with_reducible refine Kd.C_drewN ?_ _) | (with_reducible refine Kd.C_drew ?_)))
  (case side2 => exact HC0.out)
  rintro e w' ⟨rfl, ⟨nd, rfl⟩⟩
  refine ⟨_, rfl, ?_⟩
  refine hK.out _ _ (((HB.out.cell (World.block_lt_of_cell? w _ hw120_0)).trans hw120_0)) (fun hHeld => ?_)
  clear hK K
  refine norm_ (a' := ?_) ?_ ?_
  rotate_left
  ·show Act.put _ (some 17) _ = _
   simp only [Act.put, List.setIfInBounds_toArray, List.set_cons_zero, List.set_cons_succ, i64_w, i32_w]
   rfl
  refine pure_ (i := 8) (N := some 18) (v := ?_) (a' := ?_) #[true, true, true, true, true, true, true, true, true, false, false] rfl rfl (any_of HT_.out (by kernel_rfl)) (fun _ _ _ h => h) (Or.inl ⟨by rfl, ?_⟩) ?_ ?_
  rotate_left
  ·intro w'
   go_simp
   with_reducible rfl
  rotate_left
  ·simp only [Act.put, List.setIfInBounds_toArray, List.set_cons_zero, List.set_cons_succ, i64_w, i32_w]
   rfl
  refine pure_ (i := 9) (N := some 3) (v := ?_) (a' := ?_) #[true, true, true, true, true, true, true, true, true, true, false] rfl rfl (any_of HT_.out (by kernel_rfl)) (fun _ _ _ h => h) (Or.inl ⟨by rfl, ?_⟩) ?_ ?_
  rotate_left
  ·intro w'
   go_simp
   with_reducible rfl
  rotate_left
  ·simp only [Act.put, List.setIfInBounds_toArray, List.set_cons_zero, List.set_cons_succ, i64_w, i32_w]
   rfl
  refine pure_ (i := 10) (N := some 4) (v := ?_) (a' := ?_) #[true, true, true, true, true, true, true, true, true, true, true] rfl rfl (any_of HT_.out (by kernel_rfl)) (fun _ _ _ h => h) (Or.inl ⟨by rfl, ?_⟩) ?_ ?_
  rotate_left
  ·intro w'
   go_simp
   with_reducible rfl
  rotate_left
  ·simp only [Act.put, List.setIfInBounds_toArray, List.set_cons_zero, List.set_cons_succ, i64_w, i32_w]
   rfl
  refine done_ (done_of HT_.out (by kernel_rfl)) ?_
  go_upto_region 3 with (fail)
  go_cut [] (fun wc => ∃ (kq : Nat), Aside0 (ip_reader_packet.j0 kq l0 (wrap64 (4 * (wrap64 (Go.bits .and .u8 (rd l0 0) 15)))) (wrap64 (t121)) = some (r1, r2, r3, r4, r5, r6, r7, r8, r9, r10)) ∧ Aside0 (kq ≤ k) ∧ Aside0 (wc.heap[gb119]? = some (.cells #[.int .u8 0, .int .u8 0, .int .u8 0, .int .u16 0, .int .u8 0, .int .u16 0, .int .u32 0, .int .u32 0, (.slice none 0 0), (.slice none 0 0)] 30 (0, 0))) ∧ Aside0 (Below w.heap.size w wc))
  case first =>
   have H := HC5.out
   clear HC5
   by_cases c8 : ((rd l0 0) / 16) = 4
   ·rw [if_pos c8] at H
    have c8b0 : (((rd l0 0) / 16) == 4) = true := beq_iff_eq.mpr c8
    have c8b1 : (((rd l0 0) / 16) != 4) = false := bne_eq_false_iff_eq.mpr c8
    clear c8
    (first | rw [c8b0] | (simp only [i64_w, i32_w]; rw [c8b0]) | skip)
    by_cases c9 : (wrap64 (4 * (wrap64 (Go.bits .and .u8 (rd l0 0) 15)))) ≥ 20
    ·rw [if_pos c9] at H
     have c9b0 : decide (20 ≤ (wrap64 (4 * (wrap64 (Go.bits .and .u8 (rd l0 0) 15))))) = true := decide_eq_true c9
     clear c9
     replace H := Option.bind_eq_some_iff.mp H
     obtain ⟨_, A100, H⟩ := H
     replace H : (ip_reader_packet.j0 k l0 (wrap64 (4 * (wrap64 (Go.bits .and .u8 (rd l0 0) 15)))) (wrap64 (t121))) = some (r1, r2, r3, r4, r5, r6, r7, r8, r9, r10) := H
     have A10 := Aside0.mk A100
     clear A100
     have H' := Aside0.mk H
     clear H
     have p122 : 0 ≤ (0 : Int) := (by omega)
     have q122 : 0 < (l0.length : Int) := of_decide_eq_true (by first | (with_reducible assumption) | assumption)
     obtain ⟨ad122, e122, hx122_0⟩ := Kd.at_int HR0.out 0 p122 q122
     obtain rfl : ad120 = ad122 := (by injection e122)
     have qi122 : (0 < l0.length) = True := eq_true (by omega)
     (try rw [show ((0 : Int)).toNat = 0 from rfl] at hx122_0)
     (try rw [Addr.add_zero'] at hx122_0)
     replace hx122_0 := (HB.out.cell (World.block_lt_of_cell? w _ hx122_0)).trans hx122_0
     replace p122 := eq_true p122
     replace q122 := eq_true q122
     go_wp2_with (first | ((with_reducible refine gate_callee (f := 30) rfl ?_); refine goesL_ (some 33) rfl rfl Try.func30 (by kernel_rfl) rfl #[.bool (decide ((wrap64 (t121)) ≥ (wrap64 (4 * (wrap64 (Go.bits .and .u8 (rd l0 0) 15)))))), .int .i64 21] rfl (by (try simp only [List.map_toArray, List.map_cons, List.map_nil]); first | done | rfl | (simp only [List.length_drop, List.length_take]; rfl) | (go_simp; done) | (simp [Act.eval, IntKind.signed]; done) | (simp [Act.eval, IntKind.signed]; rfl)) ?_; (with_reducible refine (ip_must.calls (decide ((wrap64 (t121)) ≥ (wrap64 (4 * (wrap64 (Go.bits .and .u8 (rd l0 0) 15)))))) 21  _ A10.out).mono ?_); rintro e w' ⟨rfl, ⟨nd, rfl⟩⟩; refine ⟨_, rfl, ?_⟩))
     go_meet
     case rel => exact ⟨_, H', ⟨by first | omega | exact Nat.le_refl _⟩, ⟨by (with_reducible repeat (first | refine blk_drewN ?_ _ | refine blk_drew ?_ | refine blk_alloc ?_ _)); exact BK119.out⟩, ⟨by repeat (first | (with_reducible first | exact HB.out | apply below_alloc | apply pw_below_drewN | apply below_drew1 | refine below_set ?_ GE119.out) | exact HB.out)⟩⟩
    ·rw [if_neg c9] at H
     have c9b0 : decide (20 ≤ (wrap64 (4 * (wrap64 (Go.bits .and .u8 (rd l0 0) 15))))) = false := decide_eq_false c9
     clear c9
     replace H := Option.bind_eq_some_iff.mp H
     obtain ⟨_, A110, H⟩ := H
     replace H : (ip_reader_packet.j0 k l0 (wrap64 (4 * (wrap64 (Go.bits .and .u8 (rd l0 0) 15)))) (wrap64 (t121))) = some (r1, r2, r3, r4, r5, r6, r7, r8, r9, r10) := H
     have A11 := Aside0.mk A110
     clear A110
     have H' := Aside0.mk H
     clear H
     have p122 : 0 ≤ (0 : Int) := (by omega)
     have q122 : 0 < (l0.length : Int) := of_decide_eq_true (by first | (with_reducible assumption) | assumption)
     obtain ⟨ad122, e122, hx122_0⟩ := Kd.at_int HR0.out 0 p122 q122
     obtain rfl : ad120 = ad122 := (by injection e122)
     have qi122 : (0 < l0.length) = True := eq_true (by omega)
     (try rw [show ((0 : Int)).toNat = 0 from rfl] at hx122_0)
     (try rw [Addr.add_zero'] at hx122_0)
     replace hx122_0 := (HB.out.cell (World.block_lt_of_cell? w _ hx122_0)).trans hx122_0
     replace p122 := eq_true p122
     replace q122 := eq_true q122
     go_wp2_with (first | ((with_reducible refine gate_callee (f := 30) rfl ?_); refine goesL_ (some 33) rfl rfl Try.func30 (by kernel_rfl) rfl #[.bool false, .int .i64 21] rfl (by (try simp only [List.map_toArray, List.map_cons, List.map_nil]); first | done | rfl | (simp only [List.length_drop, List.length_take]; rfl) | (go_simp; done) | (simp [Act.eval, IntKind.signed]; done) | (simp [Act.eval, IntKind.signed]; rfl)) ?_; (with_reducible refine (ip_must.calls false 21  _ A11.out).mono ?_); rintro e w' ⟨rfl, ⟨nd, rfl⟩⟩; refine ⟨_, rfl, ?_⟩))
     go_meet
     case rel => exact ⟨_, H', ⟨by first | omega | exact Nat.le_refl _⟩, ⟨by (with_reducible repeat (first | refine blk_drewN ?_ _ | refine blk_drew ?_ | refine blk_alloc ?_ _)); exact BK119.out⟩, ⟨by repeat (first | (with_reducible first | exact HB.out | apply below_alloc | apply pw_below_drewN | apply below_drew1 | refine below_set ?_ GE119.out) | exact HB.out)⟩⟩
   ·rw [if_neg c8] at H
    have c8b0 : (((rd l0 0) / 16) == 4) = false := beq_eq_false_iff_ne.mpr c8
    have c8b1 : (((rd l0 0) / 16) != 4) = true := bne_iff_ne.mpr c8
    (first | rw [c8b0] | (simp only [i64_w, i32_w]; rw [c8b0]) | skip)
    replace H := Option.bind_eq_some_iff.mp H
    obtain ⟨_, A120, H⟩ := H
    replace H : (ip_reader_packet.j0 k l0 (wrap64 (4 * (wrap64 (Go.bits .and .u8 (rd l0 0) 15)))) (wrap64 (t121))) = some (r1, r2, r3, r4, r5, r6, r7, r8, r9, r10) := H
    have A12 := Aside0.mk A120
    clear A120
    have H' := Aside0.mk H
    clear H
    have p122 : 0 ≤ (0 : Int) := (by omega)
    have q122 : 0 < (l0.length : Int) := of_decide_eq_true (by first | (with_reducible assumption) | assumption)
    obtain ⟨ad122, e122, hx122_0⟩ := Kd.at_int HR0.out 0 p122 q122
    obtain rfl : ad120 = ad122 := (by injection e122)
    have qi122 : (0 < l0.length) = True := eq_true (by omega)
    (try rw [show ((0 : Int)).toNat = 0 from rfl] at hx122_0)
    (try rw [Addr.add_zero'] at hx122_0)
    replace hx122_0 := (HB.out.cell (World.block_lt_of_cell? w _ hx122_0)).trans hx122_0
    replace p122 := eq_true p122
    replace q122 := eq_true q122
    go_wp2_with (first | ((with_reducible refine gate_callee (f := 30) rfl ?_); refine goesL_ (some 33) rfl rfl Try.func30 (by kernel_rfl) rfl #[.bool false, .int .i64 21] rfl (by (try simp only [List.map_toArray, List.map_cons, List.map_nil]); first | done | rfl | (simp only [List.length_drop, List.length_take]; rfl) | (go_simp; done) | (simp [Act.eval, IntKind.signed]; done) | (simp [Act.eval, IntKind.signed]; rfl)) ?_; (with_reducible refine (ip_must.calls false 21  _ A12.out).mono ?_); rintro e w' ⟨rfl, ⟨nd, rfl⟩⟩; refine ⟨_, rfl, ?_⟩))
    go_meet
    case rel => exact ⟨_, H', ⟨by first | omega | exact Nat.le_refl _⟩, ⟨by (with_reducible repeat (first | refine blk_drewN ?_ _ | refine blk_drew ?_ | refine blk_alloc ?_ _)); exact BK119.out⟩, ⟨by repeat (first | (with_reducible first | exact HB.out | apply below_alloc | apply pw_below_drewN | apply below_drew1 | refine below_set ?_ GE119.out) | exact HB.out)⟩⟩
  case rest =>
   clear HC5
   try clear p1
   try clear q1
   try clear hx1
   try clear qi1
   try clear c2
   try clear p2
   try clear c3
   try clear c3b0
   try clear c3b1
   try clear p6
   try clear c8
   try clear c8b0
   try clear c8b1
   try clear c9
   try clear c9b0
   try clear p12
   try clear q12
   try clear hx12
   try clear qi12
   try clear hx120_0
   try clear hx122_0
   try clear p120
   try clear p122
   try clear q120
   try clear q122
   obtain ⟨kq, HA, HJ4, BK119, HB⟩ := hcut
   cases kq with
   | zero => exact absurd HA.out (by simp [ip_reader_packet.j0])
   | succ kj4 =>
    have H := HA.out
    clear HA
    simp only [ip_reader_packet.j0] at H
    replace H := Option.bind_eq_some_iff.mp H
    obtain ⟨_, A130, H⟩ := H
    replace H : (if 0 ≤ (wrap64 (4 * (wrap64 (Go.bits .and .u8 (rd l0 0) 15)))) then (if (wrap64 (4 * (wrap64 (Go.bits .and .u8 (rd l0 0) 15)))) ≤ (l0.length : Int) then ((sum_Add.f kj4 0 (l0.take ((wrap64 (4 * (wrap64 (Go.bits .and .u8 (rd l0 0) 15)))) : Int).toNat)).bind fun t124 => ((sum_Fold.f kj4 t124).bind fun t125 => ((ip_must.f (t125 == 65535) 22).bind fun _ => ((ip_reader_two.f l0 6).bind fun t126 => (if 1 < (l0.length : Int) then ((ip_reader_two.f l0 4).bind fun t128 => (if 8 < (l0.length : Int) then (if 9 < (l0.length : Int) then ((ip_reader_four.f l0 12).bind fun t131 => ((ip_reader_four.f l0 16).bind fun t132 => (if 20 ≤ (wrap64 (4 * (wrap64 (Go.bits .and .u8 (rd l0 0) 15)))) then ((ip_reader_byte.f ((l0.take ((wrap64 (4 * (wrap64 (Go.bits .and .u8 (rd l0 0) 15)))) : Int).toNat).drop 20)).bind fun t134 => (if (wrap64 (4 * (wrap64 (Go.bits .and .u8 (rd l0 0) 15)))) ≤ (wrap64 (t121)) then (if (wrap64 (t121)) ≤ (l0.length : Int) then ((ip_reader_byte.f ((l0.take ((wrap64 (t121)) : Int).toNat).drop ((wrap64 (4 * (wrap64 (Go.bits .and .u8 (rd l0 0) 15)))) : Int).toNat)).bind fun t138 => (some (rd l0 1, rd l0 8, rd l0 9, t128, (t126 / 8192) % 256, Go.bits .and .u16 t126 8191, t131, t132, t134, t138))) else (none)) else (none))) else (none)))) else (none)) else (none))) else (none)))))) else (none)) else (none)) = some (r1, r2, r3, r4, r5, r6, r7, r8, r9, r10) := H
    have A13 := Aside0.mk A130
    clear A130
    obtain ⟨ji14, hji14⟩ : ∃ j_ : Int, (wrap64 (4 * (wrap64 (Go.bits .and .u8 (rd l0 0) 15)))) = j_ := ⟨_, rfl⟩
    replace H : (if 0 ≤ (ji14) then (if (ji14) ≤ (l0.length : Int) then ((sum_Add.f kj4 0 (l0.take ((ji14) : Int).toNat)).bind fun t124 => ((sum_Fold.f kj4 t124).bind fun t125 => ((ip_must.f (t125 == 65535) 22).bind fun _ => ((ip_reader_two.f l0 6).bind fun t126 => (if 1 < (l0.length : Int) then ((ip_reader_two.f l0 4).bind fun t128 => (if 8 < (l0.length : Int) then (if 9 < (l0.length : Int) then ((ip_reader_four.f l0 12).bind fun t131 => ((ip_reader_four.f l0 16).bind fun t132 => (if 20 ≤ (ji14) then ((ip_reader_byte.f ((l0.take ((ji14) : Int).toNat).drop 20)).bind fun t134 => (if (ji14) ≤ (wrap64 (t121)) then (if (wrap64 (t121)) ≤ (l0.length : Int) then ((ip_reader_byte.f ((l0.take ((wrap64 (t121)) : Int).toNat).drop ((ji14) : Int).toNat)).bind fun t138 => (some (rd l0 1, rd l0 8, rd l0 9, t128, (t126 / 8192) % 256, Go.bits .and .u16 t126 8191, t131, t132, t134, t138))) else (none)) else (none))) else (none)))) else (none)) else (none))) else (none)))))) else (none)) else (none)) = some (r1, r2, r3, r4, r5, r6, r7, r8, r9, r10) := by first | (rw [hji14] at H; exact H) | (simp only [hji14] at H ⊢; exact H)
    (try rw [hji14] at A13)
    have hji14w : (IntKind.i64.wrap (4 * (wrap64 (Go.bits .and .u8 (rd l0 0) 15)))) = ji14 := (i64_w _).trans hji14
    by_cases c15 : 0 ≤ (ji14)
    ·rw [if_pos c15] at H
     have c15b0 := eq_true c15
     have c15b1 : decide (0 ≤ (ji14)) = true := decide_eq_true c15
     clear c15
     by_cases c16 : (ji14) ≤ (l0.length : Int)
     ·rw [if_pos c16] at H
      have c16b0 := eq_true c16
      have c16b1 : decide ((ji14) ≤ (l0.length : Int)) = true := decide_eq_true c16
      clear c16
      replace H := Option.bind_eq_some_iff.mp H
      obtain ⟨t124, A170, H⟩ := H
      replace H : ((sum_Fold.f kj4 t124).bind fun t125 => ((ip_must.f (t125 == 65535) 22).bind fun _ => ((ip_reader_two.f l0 6).bind fun t126 => (if 1 < (l0.length : Int) then ((ip_reader_two.f l0 4).bind fun t128 => (if 8 < (l0.length : Int) then (if 9 < (l0.length : Int) then ((ip_reader_four.f l0 12).bind fun t131 => ((ip_reader_four.f l0 16).bind fun t132 => (if 20 ≤ (ji14) then ((ip_reader_byte.f ((l0.take ((ji14) : Int).toNat).drop 20)).bind fun t134 => (if (ji14) ≤ (wrap64 (t121)) then (if (wrap64 (t121)) ≤ (l0.length : Int) then ((ip_reader_byte.f ((l0.take ((wrap64 (t121)) : Int).toNat).drop ((ji14) : Int).toNat)).bind fun t138 => (some (rd l0 1, rd l0 8, rd l0 9, t128, (t126 / 8192) % 256, Go.bits .and .u16 t126 8191, t131, t132, t134, t138))) else (none)) else (none))) else (none)))) else (none)) else (none))) else (none))))) = some (r1, r2, r3, r4, r5, r6, r7, r8, r9, r10) := H
      have A17 := Aside0.mk A170
      clear A170
      replace H := Option.bind_eq_some_iff.mp H
      obtain ⟨t125, A180, H⟩ := H
      replace H : ((ip_must.f (t125 == 65535) 22).bind fun _ => ((ip_reader_two.f l0 6).bind fun t126 => (if 1 < (l0.length : Int) then ((ip_reader_two.f l0 4).bind fun t128 => (if 8 < (l0.length : Int) then (if 9 < (l0.length : Int) then ((ip_reader_four.f l0 12).bind fun t131 => ((ip_reader_four.f l0 16).bind fun t132 => (if 20 ≤ (ji14) then ((ip_reader_byte.f ((l0.take ((ji14) : Int).toNat).drop 20)).bind fun t134 => (if (ji14) ≤ (wrap64 (t121)) then (if (wrap64 (t121)) ≤ (l0.length : Int) then ((ip_reader_byte.f ((l0.take ((wrap64 (t121)) : Int).toNat).drop ((ji14) : Int).toNat)).bind fun t138 => (some (rd l0 1, rd l0 8, rd l0 9, t128, (t126 / 8192) % 256, Go.bits .and .u16 t126 8191, t131, t132, t134, t138))) else (none)) else (none))) else (none)))) else (none)) else (none))) else (none)))) = some (r1, r2, r3, r4, r5, r6, r7, r8, r9, r10) := H
      have A18 := Aside0.mk A180
      clear A180
      replace H := Option.bind_eq_some_iff.mp H
      obtain ⟨_, A190, H⟩ := H
      replace H : ((ip_reader_two.f l0 6).bind fun t126 => (if 1 < (l0.length : Int) then ((ip_reader_two.f l0 4).bind fun t128 => (if 8 < (l0.length : Int) then (if 9 < (l0.length : Int) then ((ip_reader_four.f l0 12).bind fun t131 => ((ip_reader_four.f l0 16).bind fun t132 => (if 20 ≤ (ji14) then ((ip_reader_byte.f ((l0.take ((ji14) : Int).toNat).drop 20)).bind fun t134 => (if (ji14) ≤ (wrap64 (t121)) then (if (wrap64 (t121)) ≤ (l0.length : Int) then ((ip_reader_byte.f ((l0.take ((wrap64 (t121)) : Int).toNat).drop ((ji14) : Int).toNat)).bind fun t138 => (some (rd l0 1, rd l0 8, rd l0 9, t128, (t126 / 8192) % 256, Go.bits .and .u16 t126 8191, t131, t132, t134, t138))) else (none)) else (none))) else (none)))) else (none)) else (none))) else (none))) = some (r1, r2, r3, r4, r5, r6, r7, r8, r9, r10) := H
      have A19 := Aside0.mk A190
      clear A190
      replace H := Option.bind_eq_some_iff.mp H
      obtain ⟨t126, A200, H⟩ := H
      replace H : (if 1 < (l0.length : Int) then ((ip_reader_two.f l0 4).bind fun t128 => (if 8 < (l0.length : Int) then (if 9 < (l0.length : Int) then ((ip_reader_four.f l0 12).bind fun t131 => ((ip_reader_four.f l0 16).bind fun t132 => (if 20 ≤ (ji14) then ((ip_reader_byte.f ((l0.take ((ji14) : Int).toNat).drop 20)).bind fun t134 => (if (ji14) ≤ (wrap64 (t121)) then (if (wrap64 (t121)) ≤ (l0.length : Int) then ((ip_reader_byte.f ((l0.take ((wrap64 (t121)) : Int).toNat).drop ((ji14) : Int).toNat)).bind fun t138 => (some (rd l0 1, rd l0 8, rd l0 9, t128, (t126 / 8192) % 256, Go.bits .and .u16 t126 8191, t131, t132, t134, t138))) else (none)) else (none))) else (none)))) else (none)) else (none))) else (none)) = some (r1, r2, r3, r4, r5, r6, r7, r8, r9, r10) := H
      have A20 := Aside0.mk A200
      clear A200
      by_cases c21 : 1 < (l0.length : Int)
      ·rw [if_pos c21] at H
       have c21b0 : decide (1 < (l0.length : Int)) = true := decide_eq_true c21
       have c21b1 : decide (1 < l0.length) = true := decide_eq_true (by omega)
       clear c21
       replace H := Option.bind_eq_some_iff.mp H
       obtain ⟨t128, A220, H⟩ := H
       replace H : (if 8 < (l0.length : Int) then (if 9 < (l0.length : Int) then ((ip_reader_four.f l0 12).bind fun t131 => ((ip_reader_four.f l0 16).bind fun t132 => (if 20 ≤ (ji14) then ((ip_reader_byte.f ((l0.take ((ji14) : Int).toNat).drop 20)).bind fun t134 => (if (ji14) ≤ (wrap64 (t121)) then (if (wrap64 (t121)) ≤ (l0.length : Int) then ((ip_reader_byte.f ((l0.take ((wrap64 (t121)) : Int).toNat).drop ((ji14) : Int).toNat)).bind fun t138 => (some (rd l0 1, rd l0 8, rd l0 9, t128, (t126 / 8192) % 256, Go.bits .and .u16 t126 8191, t131, t132, t134, t138))) else (none)) else (none))) else (none)))) else (none)) else (none)) = some (r1, r2, r3, r4, r5, r6, r7, r8, r9, r10) := H
       have A22 := Aside0.mk A220
       clear A220
       by_cases c23 : 8 < (l0.length : Int)
       ·rw [if_pos c23] at H
        have c23b0 : decide (8 < (l0.length : Int)) = true := decide_eq_true c23
        have c23b1 : decide (8 < l0.length) = true := decide_eq_true (by omega)
        clear c23
        by_cases c24 : 9 < (l0.length : Int)
        ·rw [if_pos c24] at H
         have c24b0 : decide (9 < (l0.length : Int)) = true := decide_eq_true c24
         have c24b1 : decide (9 < l0.length) = true := decide_eq_true (by omega)
         clear c24
         replace H := Option.bind_eq_some_iff.mp H
         obtain ⟨t131, A250, H⟩ := H
         replace H : ((ip_reader_four.f l0 16).bind fun t132 => (if 20 ≤ (ji14) then ((ip_reader_byte.f ((l0.take ((ji14) : Int).toNat).drop 20)).bind fun t134 => (if (ji14) ≤ (wrap64 (t121)) then (if (wrap64 (t121)) ≤ (l0.length : Int) then ((ip_reader_byte.f ((l0.take ((wrap64 (t121)) : Int).toNat).drop ((ji14) : Int).toNat)).bind fun t138 => (some (rd l0 1, rd l0 8, rd l0 9, t128, (t126 / 8192) % 256, Go.bits .and .u16 t126 8191, t131, t132, t134, t138))) else (none)) else (none))) else (none))) = some (r1, r2, r3, r4, r5, r6, r7, r8, r9, r10) := H
         have A25 := Aside0.mk A250
         clear A250
         replace H := Option.bind_eq_some_iff.mp H
         obtain ⟨t132, A260, H⟩ := H
         replace H : (if 20 ≤ (ji14) then ((ip_reader_byte.f ((l0.take ((ji14) : Int).toNat).drop 20)).bind fun t134 => (if (ji14) ≤ (wrap64 (t121)) then (if (wrap64 (t121)) ≤ (l0.length : Int) then ((ip_reader_byte.f ((l0.take ((wrap64 (t121)) : Int).toNat).drop ((ji14) : Int).toNat)).bind fun t138 => (some (rd l0 1, rd l0 8, rd l0 9, t128, (t126 / 8192) % 256, Go.bits .and .u16 t126 8191, t131, t132, t134, t138))) else (none)) else (none))) else (none)) = some (r1, r2, r3, r4, r5, r6, r7, r8, r9, r10) := H
         have A26 := Aside0.mk A260
         clear A260
         by_cases c27 : 20 ≤ (ji14)
         ·rw [if_pos c27] at H
          have c27b0 := eq_true c27
          have c27b1 : decide (20 ≤ (ji14)) = true := decide_eq_true c27
          clear c27
          have c28b0 := eq_true (of_decide_eq_true (by first | (with_reducible assumption) | assumption) : (ji14) ≤ (l0.length : Int))
          replace H := Option.bind_eq_some_iff.mp H
          obtain ⟨t134, A290, H⟩ := H
          replace H : (if (ji14) ≤ (wrap64 (t121)) then (if (wrap64 (t121)) ≤ (l0.length : Int) then ((ip_reader_byte.f ((l0.take ((wrap64 (t121)) : Int).toNat).drop ((ji14) : Int).toNat)).bind fun t138 => (some (rd l0 1, rd l0 8, rd l0 9, t128, (t126 / 8192) % 256, Go.bits .and .u16 t126 8191, t131, t132, t134, t138))) else (none)) else (none)) = some (r1, r2, r3, r4, r5, r6, r7, r8, r9, r10) := H
          have A29 := Aside0.mk A290
          clear A290
          have c30b0 := eq_true (of_decide_eq_true (by first | (with_reducible assumption) | assumption) : 0 ≤ (ji14))
          by_cases c31 : (ji14) ≤ (wrap64 (t121))
          ·rw [if_pos c31] at H
           have c31b0 := eq_true c31
           have c31b1 : decide ((ji14) ≤ (wrap64 (t121))) = true := decide_eq_true c31
           clear c31
           by_cases c32 : (wrap64 (t121)) ≤ (l0.length : Int)
           ·rw [if_pos c32] at H
            have c32b0 := eq_true c32
            have c32b1 : decide ((wrap64 (t121)) ≤ (l0.length : Int)) = true := decide_eq_true c32
            clear c32
            replace H := Option.bind_eq_some_iff.mp H
            obtain ⟨t138, A330, H⟩ := H
            replace H : (some (rd l0 1, rd l0 8, rd l0 9, t128, (t126 / 8192) % 256, Go.bits .and .u16 t126 8191, t131, t132, t134, t138)) = some (r1, r2, r3, r4, r5, r6, r7, r8, r9, r10) := H
            have A33 := Aside0.mk A330
            clear A330
            simp only [Option.some.injEq, Prod.mk.injEq] at H
            obtain ⟨rfl, rfl, rfl, rfl, rfl, rfl, rfl, rfl, rfl, rfl⟩ := H
            try go_wp2_with (first | ((with_reducible refine gate_callee (f := 30) rfl ?_); refine goesL_ (some 38) rfl rfl Try.func30 (by kernel_rfl) rfl #[.bool (decide ((l0.length : Int) ≥ (wrap64 (t121)))), .int .i64 20] rfl (by (try simp only [List.map_toArray, List.map_cons, List.map_nil]); first | done | rfl | (simp only [List.length_drop, List.length_take]; rfl) | (go_simp; done) | (simp [Act.eval, IntKind.signed]; done) | (simp [Act.eval, IntKind.signed]; rfl)) ?_; (with_reducible refine (ip_must.calls (decide ((l0.length : Int) ≥ (wrap64 (t121)))) 20  _ A13.out).mono ?_); rintro e w' ⟨rfl, ⟨nd, rfl⟩⟩; refine ⟨_, rfl, ?_⟩; (try (rw [drewN_self wc]; generalize hq_ : World.drewN wc _ = wc; have n0_ : Aside0 (wc.heap[gb119]? = some (.cells #[.int .u8 0, .int .u8 0, .int .u8 0, .int .u16 0, .int .u8 0, .int .u16 0, .int .u32 0, .int .u32 0, .slice none 0 0, .slice none 0 0] 30 (0, 0))) := ⟨by rw [← hq_]; exact (by (with_reducible repeat (first | refine blk_drewN ?_ _ | refine blk_drew ?_ | refine blk_alloc ?_ _)); exact BK119.out)⟩; have n1_ : Aside0 (Below w.heap.size w wc) := ⟨by rw [← hq_]; exact (by repeat (first | (with_reducible first | exact HB.out | apply below_alloc | apply pw_below_drewN | apply below_drew1 | refine below_set ?_ GE119.out) | exact HB.out))⟩; clear BK119 HB hq_; have BK119 := n0_; have HB := n1_; clear n0_ n1_)); obtain ⟨i034, hi034, _, hsz34, _⟩ := info_parts info5; obtain ⟨hcut34, hA34, hC34⟩ := print_take_of (P := Try.prog) (Value.int .u8) 0 54 5 .i64 Try.underlying54 hi034 hsz34 (some ad120) c0 l0 (ji14) (of_decide_eq_true (by first | (with_reducible assumption) | assumption)) (of_decide_eq_true (by first | (with_reducible assumption) | assumption)) HC0.out; have HR123 := Aside0.mk (Kd.C_of_reads (h1 := fun _ => rfl) (hA34 _ (Kd.reads_of_C HR0.out))); have HC123 := Aside0.mk hC34; clear hA34 hC34 hi034 hsz34) | ((with_reducible refine gate_callee (f := 33) rfl ?_); refine goesL_ (some 42) rfl rfl Try.func33 (by kernel_rfl) rfl #[.int .u32 0, .slice (some ad120) (l0.take ((ji14) : Int).toNat).length c0] rfl (by (try simp only [List.map_toArray, List.map_cons, List.map_nil]); first | done | (rw [show (l0.take ((ji14) : Int).toNat).length = (ji14).toNat from (by rw [List.length_take]; have h_ : ((ji14) : Int) ≤ (l0.length : Int) := of_decide_eq_true (by first | (with_reducible assumption) | assumption); omega)] <;> rfl) | (simp only [hji14]; rfl) | rfl | (simp only [List.length_drop, List.length_take]; rfl) | (go_simp; done) | (simp [Act.eval, IntKind.signed]; done) | (simp [Act.eval, IntKind.signed]; rfl)) ?_; (with_reducible refine (sum_Add.calls kj4 0 _ _ (l0.take ((ji14) : Int).toNat) t124 _ ?side1 ?side2 A17.out).mono ?_); (case side1 => repeat (first | exact (Kd.C_below HR123.out HB.out) | (with_reducible refine Kd.C_alloc ?_ _) | (with_reducible refine Kd.C_drewN ?_ _) | (with_reducible refine Kd.C_drew ?_))); (case side2 => exact HC123.out); rintro e w35 ⟨rfl, hb⟩; refine ⟨_, rfl, ?_⟩; have n0_ := Aside0.mk (blk_below (g := gb119) (o := .cells #[.int .u8 0, .int .u8 0, .int .u8 0, .int .u16 0, .int .u8 0, .int .u16 0, .int .u32 0, .int .u32 0, .slice none 0 0, .slice none 0 0] 30 (0, 0)) (by (with_reducible repeat (first | refine blk_drewN ?_ _ | refine blk_drew ?_ | refine blk_alloc ?_ _)); exact BK119.out) hb); have n1_ := Aside0.mk (below_step (by repeat (first | (with_reducible first | exact HB.out | apply below_alloc | apply pw_below_drewN | apply below_drew1 | refine below_set ?_ GE119.out) | exact HB.out)) hb); clear BK119; clear HB; have BK119 := n0_; have HB := n1_; clear n0_ n1_; (try clear hb); (try clear hb2); (try clear hk); (try clear hi)) | ((with_reducible refine gate_callee (f := 32) rfl ?_); refine goesL_ (some 43) rfl rfl Try.func32 (by kernel_rfl) rfl #[.int .u32 t124] rfl (by (try simp only [List.map_toArray, List.map_cons, List.map_nil]); first | done | rfl | (simp only [List.length_drop, List.length_take]; rfl) | (go_simp; done) | (simp [Act.eval, IntKind.signed]; done) | (simp [Act.eval, IntKind.signed]; rfl)) ?_; (with_reducible refine (sum_Fold.calls kj4 t124 t125 _ A18.out).mono ?_); rintro e w' ⟨rfl, ⟨nd, rfl⟩⟩; refine ⟨_, rfl, ?_⟩; (try (rw [drewN_self w35]; generalize hq_ : World.drewN w35 _ = w35; have n0_ : Aside0 (w35.heap[gb119]? = some (.cells #[.int .u8 0, .int .u8 0, .int .u8 0, .int .u16 0, .int .u8 0, .int .u16 0, .int .u32 0, .int .u32 0, .slice none 0 0, .slice none 0 0] 30 (0, 0))) := ⟨by rw [← hq_]; exact (by (with_reducible repeat (first | refine blk_drewN ?_ _ | refine blk_drew ?_ | refine blk_alloc ?_ _)); exact BK119.out)⟩; have n1_ : Aside0 (Below w.heap.size w w35) := ⟨by rw [← hq_]; exact (by repeat (first | (with_reducible first | exact HB.out | apply below_alloc | apply pw_below_drewN | apply below_drew1 | refine below_set ?_ GE119.out) | exact HB.out))⟩; clear BK119 HB hq_; have BK119 := n0_; have HB := n1_; clear n0_ n1_))) | ((with_reducible refine gate_callee (f := 30) rfl ?_); refine goesL_ (some 45) rfl rfl Try.func30 (by kernel_rfl) rfl #[.bool (t125 == 65535), .int .i64 22] rfl (by (try simp only [List.map_toArray, List.map_cons, List.map_nil]); first | done | rfl | (simp only [List.length_drop, List.length_take]; rfl) | (go_simp; done) | (simp [Act.eval, IntKind.signed]; done) | (simp [Act.eval, IntKind.signed]; rfl)) ?_; (with_reducible refine (ip_must.calls (t125 == 65535) 22  _ A19.out).mono ?_); rintro e w' ⟨rfl, ⟨nd, rfl⟩⟩; refine ⟨_, rfl, ?_⟩; (try (rw [drewN_self w35]; generalize hq_ : World.drewN w35 _ = w35; have n0_ : Aside0 (w35.heap[gb119]? = some (.cells #[.int .u8 0, .int .u8 0, .int .u8 0, .int .u16 0, .int .u8 0, .int .u16 0, .int .u32 0, .int .u32 0, .slice none 0 0, .slice none 0 0] 30 (0, 0))) := ⟨by rw [← hq_]; exact (by (with_reducible repeat (first | refine blk_drewN ?_ _ | refine blk_drew ?_ | refine blk_alloc ?_ _)); exact BK119.out)⟩; have n1_ : Aside0 (Below w.heap.size w w35) := ⟨by rw [← hq_]; exact (by repeat (first | (with_reducible first | exact HB.out | apply below_alloc | apply pw_below_drewN | apply below_drew1 | refine below_set ?_ GE119.out) | exact HB.out))⟩; clear BK119 HB hq_; have BK119 := n0_; have HB := n1_; clear n0_ n1_))) | ((with_reducible refine gate_callee (f := 31) rfl ?_); refine goesL_ (some 47) rfl rfl Try.func31 (by kernel_rfl) rfl #[.slice (some ad120) l0.length c0, .int .i64 6] rfl (by (try simp only [List.map_toArray, List.map_cons, List.map_nil]); first | done | rfl | (simp only [List.length_drop, List.length_take]; rfl) | (go_simp; done) | (simp [Act.eval, IntKind.signed]; done) | (simp [Act.eval, IntKind.signed]; rfl)) ?_; (with_reducible refine (ip_reader_two.calls _ _ l0 6 t126 _ ?side1 ?side2 A20.out).mono ?_); (case side1 => repeat (first | exact (Kd.C_below HR0.out HB.out) | (with_reducible refine Kd.C_alloc ?_ _) | (with_reducible refine Kd.C_drewN ?_ _) | (with_reducible refine Kd.C_drew ?_))); (case side2 => exact HC0.out); rintro e w' ⟨rfl, ⟨nd, rfl⟩⟩; refine ⟨_, rfl, ?_⟩; (try (rw [drewN_self w35]; generalize hq_ : World.drewN w35 _ = w35; have n0_ : Aside0 (w35.heap[gb119]? = some (.cells #[.int .u8 0, .int .u8 0, .int .u8 0, .int .u16 0, .int .u8 0, .int .u16 0, .int .u32 0, .int .u32 0, .slice none 0 0, .slice none 0 0] 30 (0, 0))) := ⟨by rw [← hq_]; exact (by (with_reducible repeat (first | refine blk_drewN ?_ _ | refine blk_drew ?_ | refine blk_alloc ?_ _)); exact BK119.out)⟩; have n1_ : Aside0 (Below w.heap.size w w35) := ⟨by rw [← hq_]; exact (by repeat (first | (with_reducible first | exact HB.out | apply below_alloc | apply pw_below_drewN | apply below_drew1 | refine below_set ?_ GE119.out) | exact HB.out))⟩; clear BK119 HB hq_; have BK119 := n0_; have HB := n1_; clear n0_ n1_))))
            have n0_ := Aside0.mk (blk_drew BK119.out)
            have n1_ := Aside0.mk (below_drew1 HB.out)
            clear BK119
            clear HB
            have BK119 := n0_
            have HB := n1_
            clear n0_ n1_
            have p127 : 0 ≤ (1 : Int) := (by omega)
            have q127 : 1 < (l0.length : Int) := of_decide_eq_true (by first | (with_reducible assumption) | assumption)
            obtain ⟨ad127, e127, hx127_0⟩ := Kd.at_int HR0.out 1 p127 q127
            have hw127_0 := hx127_0
            (try rw [show ((1 : Int)).toNat = 1 from rfl] at hw127_0)
            (try rw [show 1 * 1 = 1 from rfl] at hw127_0)
            (try simp only [Nat.reduceMul, Nat.reduceEqDiff, Go.Addr.add, ↓reduceIte] at hw127_0)
            obtain rfl : ad120 = ad127 := (by injection e127)
            (try simp only [show (1 : Int).toNat = 1 from rfl, Nat.reduceMul, Nat.reduceEqDiff, Go.Addr.add, ↓reduceIte] at hx127_0)
            have qi127 : (1 < l0.length) = True := eq_true (by omega)
            (try rw [show ((1 : Int)).toNat = 1 from rfl] at hx127_0)
            replace hx127_0 := (HB.out.cell (World.block_lt_of_cell? w _ hx127_0)).trans hx127_0
            replace p127 := eq_true p127
            replace q127 := eq_true q127
            have p129 : 0 ≤ (8 : Int) := (by omega)
            have q129 : 8 < (l0.length : Int) := of_decide_eq_true (by first | (with_reducible assumption) | assumption)
            obtain ⟨ad129, e129, hx129_0⟩ := Kd.at_int HR0.out 8 p129 q129
            have hw129_0 := hx129_0
            (try rw [show ((8 : Int)).toNat = 8 from rfl] at hw129_0)
            (try rw [show 8 * 1 = 8 from rfl] at hw129_0)
            (try simp only [Nat.reduceMul, Nat.reduceEqDiff, Go.Addr.add, ↓reduceIte] at hw129_0)
            obtain rfl : ad120 = ad129 := (by injection e129)
            (try simp only [show (8 : Int).toNat = 8 from rfl, Nat.reduceMul, Nat.reduceEqDiff, Go.Addr.add, ↓reduceIte] at hx129_0)
            have qi129 : (8 < l0.length) = True := eq_true (by omega)
            (try rw [show ((8 : Int)).toNat = 8 from rfl] at hx129_0)
            replace hx129_0 := (HB.out.cell (World.block_lt_of_cell? w _ hx129_0)).trans hx129_0
            replace p129 := eq_true p129
            replace q129 := eq_true q129
            have p130 : 0 ≤ (9 : Int) := (by omega)
            have q130 : 9 < (l0.length : Int) := of_decide_eq_true (by first | (with_reducible assumption) | assumption)
            obtain ⟨ad130, e130, hx130_0⟩ := Kd.at_int HR0.out 9 p130 q130
            have hw130_0 := hx130_0
            (try rw [show ((9 : Int)).toNat = 9 from rfl] at hw130_0)
            (try rw [show 9 * 1 = 9 from rfl] at hw130_0)
            (try simp only [Nat.reduceMul, Nat.reduceEqDiff, Go.Addr.add, ↓reduceIte] at hw130_0)
            obtain rfl : ad120 = ad130 := (by injection e130)
            (try simp only [show (9 : Int).toNat = 9 from rfl, Nat.reduceMul, Nat.reduceEqDiff, Go.Addr.add, ↓reduceIte] at hx130_0)
            have qi130 : (9 < l0.length) = True := eq_true (by omega)
            (try rw [show ((9 : Int)).toNat = 9 from rfl] at hx130_0)
            replace hx130_0 := (HB.out.cell (World.block_lt_of_cell? w _ hx130_0)).trans hx130_0
            replace p130 := eq_true p130
            replace q130 := eq_true q130
            obtain ⟨i037, hi037, _, hsz37, _⟩ := info_parts info5
            obtain ⟨A37, hcut37, hA37, hC37⟩ := print_mid_of (P := Try.prog) (Value.int .u8) 0 54 5 .i64 .i64 Try.underlying54 hi037 hsz37 (some ad120) c0 l0 20 (ji14) (by omega) (by first | omega | exact of_decide_eq_true (by first | (with_reducible assumption) | assumption)) (of_decide_eq_true (by first | (with_reducible assumption) | assumption)) HC0.out
            have HR133 := Aside0.mk (Kd.C_of_reads (h1 := fun _ => rfl) (hA37 _ (Kd.reads_of_C HR0.out)))
            have HC133 := Aside0.mk hC37
            clear hA37 hC37 hi037 hsz37
            obtain ⟨i038, hi038, _, hsz38, _⟩ := info_parts info5
            obtain ⟨A38, hcut38, hA38, hC38⟩ := print_mid_of (P := Try.prog) (Value.int .u8) 0 54 5 .i64 .i64 Try.underlying54 hi038 hsz38 (some ad120) c0 l0 (ji14) (wrap64 (t121)) (of_decide_eq_true (by first | (with_reducible assumption) | assumption)) (by first | omega | exact of_decide_eq_true (by first | (with_reducible assumption) | assumption)) (of_decide_eq_true (by first | (with_reducible assumption) | assumption)) HC0.out
            have HR137 := Aside0.mk (Kd.C_of_reads (h1 := fun _ => rfl) (hA38 _ (Kd.reads_of_C HR0.out)))
            have HC137 := Aside0.mk hC38
            clear hA38 hC38 hi038 hsz38
            refine start_ (n := 31) (S := fun w' => w'.cell? ⟨ad120.block, ad120.off + 1, none⟩ = some (.int .u8 (rd l0 1)) ∧ w'.cell? ⟨ad120.block, ad120.off + 8, none⟩ = some (.int .u8 (rd l0 8)) ∧ w'.cell? ⟨ad120.block, ad120.off + 9, none⟩ = some (.int .u8 (rd l0 9))) (ds := []) #[false, false, false, false, false, false, false, false, false, false, false, false, false, false, false, false, false, false, false, false, false, false, false, false, false, false, false, false, false, false, false] (by kernel_rfl) rfl rfl ⟨((HB.out.cell (World.block_lt_of_cell? w _ hw127_0)).trans hw127_0), ((HB.out.cell (World.block_lt_of_cell? w _ hw129_0)).trans hw129_0), ((HB.out.cell (World.block_lt_of_cell? w _ hw130_0)).trans hw130_0)⟩ (fun hHeld => ?_); refine with_tabW ip_reader_packet.tab7 ip_reader_packet.bits7 (fun HT_ HW_ => ?_)
            generalize w35.drew = w36 at BK119 HB HR133 HR137 hx127_0 hx129_0 hx130_0 hHeld ⊢
            refine pure_ (i := 0) (N := some 48) (v := ?_) (a' := ?_) #[true, false, false, false, false, false, false, false, false, false, false, false, false, false, false, false, false, false, false, false, false, false, false, false, false, false, false, false, false, false, false] rfl rfl (any_of HT_.out (by kernel_rfl)) (fun _ _ _ h => h) (Or.inl ⟨by rfl, ?_⟩) ?_ ?_
            rotate_left
            ·intro w'
             go_simp
             with_reducible rfl
            rotate_left
            ·simp only [Act.put, List.setIfInBounds_toArray, List.set_cons_zero, List.set_cons_succ, i64_w, i32_w]
             rfl
            refine pure_ (i := 1) (N := some 49) (v := ?_) (a' := ?_) #[true, true, false, false, false, false, false, false, false, false, false, false, false, false, false, false, false, false, false, false, false, false, false, false, false, false, false, false, false, false, false] rfl rfl (any_of HT_.out (by kernel_rfl)) (fun _ _ _ h => h) (Or.inl ⟨by rfl, ?_⟩) ?_ ?_
            rotate_left
            ·intro w'
             go_simp
             with_reducible rfl
            rotate_left
            ·simp only [Act.put, List.setIfInBounds_toArray, List.set_cons_zero, List.set_cons_succ, i64_w, i32_w]
             rfl
            refine pure_ (i := 3) (N := some 51) (v := ?_) (a' := ?_) #[true, true, false, true, false, false, false, false, false, false, false, false, false, false, false, false, false, false, false, false, false, false, false, false, false, false, false, false, false, false, false] rfl rfl (any_of HT_.out (by kernel_rfl)) (fun _ _ _ h => h) (Or.inl ⟨by rfl, ?_⟩) ?_ ?_
            rotate_left
            ·intro w'
             go_simp
             with_reducible rfl
            rotate_left
            ·simp only [Act.put, List.setIfInBounds_toArray, List.set_cons_zero, List.set_cons_succ, i64_w, i32_w]
             rfl
            refine pure_ (i := 5) (N := some 53) (v := ?_) (a' := ?_) #[true, true, false, true, false, true, false, false, false, false, false, false, false, false, false, false, false, false, false, false, false, false, false, false, false, false, false, false, false, false, false] rfl rfl (any_of HT_.out (by kernel_rfl)) (fun _ _ _ h => h) (Or.inl ⟨by rfl, ?_⟩) ?_ ?_
            rotate_left
            ·intro w'
             go_simp
             with_reducible rfl
            rotate_left
            ·simp only [Act.put, List.setIfInBounds_toArray, List.set_cons_zero, List.set_cons_succ, i64_w, i32_w]
             rfl
            refine pure_ (i := 6) (N := some 54) (v := ?_) (a' := ?_) #[true, true, false, true, false, true, true, false, false, false, false, false, false, false, false, false, false, false, false, false, false, false, false, false, false, false, false, false, false, false, false] rfl rfl (any_of HT_.out (by kernel_rfl)) (fun _ _ _ h => h) (Or.inl ⟨by rfl, ?_⟩) ?_ ?_
            rotate_left
            ·intro w'
             go_simp
             with_reducible rfl
            rotate_left
            ·simp only [Act.put, List.setIfInBounds_toArray, List.set_cons_zero, List.set_cons_succ, i64_w, i32_w]
             rfl
            refine pure_ (i := 7) (N := some 55) (v := ?_) (a' := ?_) #[true, true, false, true, false, true, true, true, false, false, false, false, false, false, false, false, false, false, false, false, false, false, false, false, false, false, false, false, false, false, false] rfl rfl (any_of HT_.out (by kernel_rfl)) (fun _ _ _ h => h) (Or.inl ⟨by rfl, ?_⟩) ?_ ?_
            rotate_left
            ·intro w'
             go_simp
             with_reducible rfl
            rotate_left
            ·simp only [Act.put, List.setIfInBounds_toArray, List.set_cons_zero, List.set_cons_succ, i64_w, i32_w]
             rfl
            refine pure_ (i := 8) (N := some 56) (v := ?_) (a' := ?_) #[true, true, false, true, false, true, true, true, true, false, false, false, false, false, false, false, false, false, false, false, false, false, false, false, false, false, false, false, false, false, false] rfl rfl (any_of HT_.out (by kernel_rfl)) (fun _ _ _ h => h) (Or.inl ⟨by rfl, ?_⟩) ?_ ?_
            rotate_left
            ·intro w'
             go_simp
             with_reducible rfl
            rotate_left
            ·simp only [Act.put, List.setIfInBounds_toArray, List.set_cons_zero, List.set_cons_succ, i64_w, i32_w]
             rfl
            refine pure_ (i := 9) (N := some 57) (v := ?_) (a' := ?_) #[true, true, false, true, false, true, true, true, true, true, false, false, false, false, false, false, false, false, false, false, false, false, false, false, false, false, false, false, false, false, false] rfl rfl (any_of HT_.out (by kernel_rfl)) (fun _ _ _ h => h) (Or.inl ⟨by rfl, ?_⟩) ?_ ?_
            rotate_left
            ·intro w'
             go_simp
             with_reducible rfl
            rotate_left
            ·simp only [Act.put, List.setIfInBounds_toArray, List.set_cons_zero, List.set_cons_succ, i64_w, i32_w]
             rfl
            refine pure_ (i := 10) (N := some 58) (v := ?_) (a' := ?_) #[true, true, false, true, false, true, true, true, true, true, true, false, false, false, false, false, false, false, false, false, false, false, false, false, false, false, false, false, false, false, false] rfl rfl (any_of HT_.out (by kernel_rfl)) (fun _ _ _ h => h) (Or.inl ⟨by rfl, ?_⟩) ?_ ?_
            rotate_left
            ·intro w'
             go_simp
             with_reducible rfl
            rotate_left
            ·simp only [Act.put, List.setIfInBounds_toArray, List.set_cons_zero, List.set_cons_succ, i64_w, i32_w]
             rfl
            refine pure_ (i := 11) (N := some 59) (v := ?_) (a' := ?_) #[true, true, false, true, false, true, true, true, true, true, true, true, false, false, false, false, false, false, false, false, false, false, false, false, false, false, false, false, false, false, false] rfl rfl (any_of HT_.out (by kernel_rfl)) (fun _ _ _ h => h) (Or.inl ⟨by rfl, ?_⟩) ?_ ?_
            rotate_left
            ·intro w'
             go_simp
             with_reducible rfl
            rotate_left
            ·simp only [Act.put, List.setIfInBounds_toArray, List.set_cons_zero, List.set_cons_succ, i64_w, i32_w]
             rfl
            refine pure_ (i := 13) (N := some 61) (v := ?_) (a' := ?_) #[true, true, false, true, false, true, true, true, true, true, true, true, false, true, false, false, false, false, false, false, false, false, false, false, false, false, false, false, false, false, false] rfl rfl (any_of HT_.out (by kernel_rfl)) (fun _ _ _ h => h) (Or.inl ⟨by rfl, ?_⟩) ?_ ?_
            rotate_left
            ·intro w'
             go_simp
             with_reducible rfl
            rotate_left
            ·simp only [Act.put, List.setIfInBounds_toArray, List.set_cons_zero, List.set_cons_succ, i64_w, i32_w]
             rfl
            refine pure_ (i := 14) (N := some 62) (v := ?_) (a' := ?_) #[true, true, false, true, false, true, true, true, true, true, true, true, false, true, true, false, false, false, false, false, false, false, false, false, false, false, false, false, false, false, false] rfl rfl (any_of HT_.out (by kernel_rfl)) (fun _ _ _ h => h) (Or.inl ⟨by rfl, ?_⟩) ?_ ?_
            rotate_left
            ·intro w'
             go_simp
             with_reducible rfl
            rotate_left
            ·simp only [Act.put, List.setIfInBounds_toArray, List.set_cons_zero, List.set_cons_succ, i64_w, i32_w]
             rfl
            refine pure_ (i := 16) (N := some 64) (v := ?_) (a' := ?_) #[true, true, false, true, false, true, true, true, true, true, true, true, false, true, true, false, true, false, false, false, false, false, false, false, false, false, false, false, false, false, false] rfl rfl (any_of HT_.out (by kernel_rfl)) (fun _ _ _ h => h) (Or.inl ⟨by rfl, ?_⟩) ?_ ?_
            rotate_left
            ·intro w'
             go_simp
             with_reducible rfl
            rotate_left
            ·simp only [Act.put, List.setIfInBounds_toArray, List.set_cons_zero, List.set_cons_succ, i64_w, i32_w]
             rfl
            refine pure_ (i := 18) (N := some 66) (v := ?_) (a' := ?_) #[true, true, false, true, false, true, true, true, true, true, true, true, false, true, true, false, true, false, true, false, false, false, false, false, false, false, false, false, false, false, false] rfl rfl (any_of HT_.out (by kernel_rfl)) (fun _ _ _ h => h) (Or.inl ⟨by rfl, ?_⟩) ?_ ?_
            rotate_left
            ·intro w'
             go_simp
             with_reducible rfl
            rotate_left
            ·simp only [Act.put, List.setIfInBounds_toArray, List.set_cons_zero, List.set_cons_succ, i64_w, i32_w]
             rfl
            refine pure_ (i := 20) (N := some 68) (v := ?_) (a' := ?_) #[true, true, false, true, false, true, true, true, true, true, true, true, false, true, true, false, true, false, true, false, true, false, false, false, false, false, false, false, false, false, false] rfl rfl (any_of HT_.out (by kernel_rfl)) (fun _ _ _ h => h) (Or.inl ⟨by rfl, ?_⟩) ?_ ?_
            rotate_left
            ·intro w'
             go_simp
             with_reducible rfl
            rotate_left
            ·simp only [Act.put, List.setIfInBounds_toArray, List.set_cons_zero, List.set_cons_succ, i64_w, i32_w]
             rfl
            refine pure_ (i := 21) (N := some 69) (v := ?_) (a' := ?_) #[true, true, false, true, false, true, true, true, true, true, true, true, false, true, true, false, true, false, true, false, true, true, false, false, false, false, false, false, false, false, false] rfl rfl (any_of HT_.out (by kernel_rfl)) (fun _ _ _ h => h) (Or.inl ⟨by rfl, ?_⟩) ?_ ?_
            rotate_left
            ·intro w'
             go_simp
             with_reducible rfl
            rotate_left
            ·simp only [Act.put, List.setIfInBounds_toArray, List.set_cons_zero, List.set_cons_succ, i64_w, i32_w]
             rfl
            refine pure_ (i := 22) (N := some 70) (v := ?_) (a' := ?_) #[true, true, false, true, false, true, true, true, true, true, true, true, false, true, true, false, true, false, true, false, true, true, true, false, false, false, false, false, false, false, false] rfl rfl (any_of HT_.out (by kernel_rfl)) (fun _ _ _ h => h) (Or.inl ⟨by rfl, ?_⟩) ?_ ?_
            rotate_left
            ·intro w'
             go_simp
             with_reducible rfl
            rotate_left
            ·simp only [Act.put, List.setIfInBounds_toArray, List.set_cons_zero, List.set_cons_succ, i64_w, i32_w]
             rfl
            refine pure_ (i := 24) (N := some 72) (v := ?_) (a' := ?_) #[true, true, false, true, false, true, true, true, true, true, true, true, false, true, true, false, true, false, true, false, true, true, true, false, true, false, false, false, false, false, false] rfl rfl (any_of HT_.out (by kernel_rfl)) (fun _ _ _ h => h) (Or.inl ⟨by rfl, ?_⟩) ?_ ?_
            rotate_left
            ·intro w'
             go_simp
             with_reducible rfl
            rotate_left
            ·simp only [Act.put, List.setIfInBounds_toArray, List.set_cons_zero, List.set_cons_succ, i64_w, i32_w]
             rfl
            refine pure_ (i := 25) (N := some 73) (v := ?_) (a' := ?_) #[true, true, false, true, false, true, true, true, true, true, true, true, false, true, true, false, true, false, true, false, true, true, true, false, true, true, false, false, false, false, false] rfl rfl (any_of HT_.out (by kernel_rfl)) (fun _ _ _ h => h) (Or.inl ⟨by rfl, ?_⟩) ?_ ?_
            rotate_left
            ·intro w'
             go_simp
             with_reducible rfl
            rotate_left
            ·simp only [Act.put, List.setIfInBounds_toArray, List.set_cons_zero, List.set_cons_succ, i64_w, i32_w]
             rfl
            refine pure_ (i := 26) (N := some 74) (v := ?_) (a' := ?_) #[true, true, false, true, false, true, true, true, true, true, true, true, false, true, true, false, true, false, true, false, true, true, true, false, true, true, true, false, false, false, false] rfl rfl (any_of HT_.out (by kernel_rfl)) (fun _ _ _ h => h) (Or.inl ⟨by rfl, ?_⟩) ?_ ?_
            rotate_left
            ·intro w'
             go_simp
             with_reducible rfl
            rotate_left
            ·simp only [Act.put, List.setIfInBounds_toArray, List.set_cons_zero, List.set_cons_succ, i64_w, i32_w]
             rfl
            refine pure_ (i := 27) (N := some 75) (v := ?_) (a' := ?_) #[true, true, false, true, false, true, true, true, true, true, true, true, false, true, true, false, true, false, true, false, true, true, true, false, true, true, true, true, false, false, false] rfl rfl (any_of HT_.out (by kernel_rfl)) (fun _ _ _ h => h) (Or.inl ⟨by rfl, ?_⟩) ?_ ?_
            rotate_left
            ·intro w'
             go_simp
             with_reducible rfl
            rotate_left
            ·simp only [Act.put, List.setIfInBounds_toArray, List.set_cons_zero, List.set_cons_succ, i64_w, i32_w]
             rfl
            refine take_ (i := 2) (N := some 50) (v := ?_) (a' := ?_) #[true, true, true, true, false, true, true, true, true, true, true, true, false, true, true, false, true, false, true, false, true, true, true, false, true, true, true, true, false, false, false] rfl rfl (take_ofW HT_.out HW_.out (by kernel_rfl)) (fun _ _ _ h => h) (Or.inl ⟨by rfl, ?_⟩) hHeld ?_ ?_
            rotate_left
            ·rintro w' ⟨s0, s1, s2⟩
             go_simp
             with_reducible rfl
            rotate_left
            ·simp only [Act.put, List.setIfInBounds_toArray, List.set_cons_zero, List.set_cons_succ, i64_w, i32_w]
             rfl
            refine take_ (i := 12) (N := some 60) (v := ?_) (a' := ?_) #[true, true, true, true, false, true, true, true, true, true, true, true, true, true, true, false, true, false, true, false, true, true, true, false, true, true, true, true, false, false, false] rfl rfl (take_ofW HT_.out HW_.out (by kernel_rfl)) (fun _ _ _ h => h) (Or.inl ⟨by rfl, ?_⟩) hHeld ?_ ?_
            rotate_left
            ·rintro w' ⟨s0, s1, s2⟩
             go_simp
             with_reducible rfl
            rotate_left
            ·simp only [Act.put, List.setIfInBounds_toArray, List.set_cons_zero, List.set_cons_succ, i64_w, i32_w]
             rfl
            refine take_ (i := 15) (N := some 63) (v := ?_) (a' := ?_) #[true, true, true, true, false, true, true, true, true, true, true, true, true, true, true, true, true, false, true, false, true, true, true, false, true, true, true, true, false, false, false] rfl rfl (take_ofW HT_.out HW_.out (by kernel_rfl)) (fun _ _ _ h => h) (Or.inl ⟨by rfl, ?_⟩) hHeld ?_ ?_
            rotate_left
            ·rintro w' ⟨s0, s1, s2⟩
             go_simp
             with_reducible rfl
            rotate_left
            ·simp only [Act.put, List.setIfInBounds_toArray, List.set_cons_zero, List.set_cons_succ, i64_w, i32_w]
             rfl
            refine one_ (i := 4) (N := some 52) #[true, true, true, true, true, true, true, true, true, true, true, true, true, true, true, true, true, false, true, false, true, true, true, false, true, true, true, true, false, false, false] rfl rfl (one_of HT_.out (by kernel_rfl)) (by decide) (fun K hK => ?_)
            refine goes_ Try.func31 (by kernel_rfl) rfl #[.slice (some ad120) l0.length c0, .int .i64 4] (by rfl) rfl rfl (by (try simp only [List.map_toArray, List.map_cons, List.map_nil]); first | done | rfl | (simp only [List.length_drop, List.length_take]; rfl) | (go_simp; done) | (simp [Act.eval, IntKind.signed]; done) | (simp [Act.eval, IntKind.signed]; rfl)) ?_
            with_reducible refine (ip_reader_two.calls _ _ l0 4 t128 _ ?side1 ?side2 A22.out).mono ?_
            (case side1 => repeat (first | exact (Kd.C_below HR0.out HB.out) | (with_reducible refine Kd.C_alloc ?_ _) | (with_reducible refine Kd.C_drewN ?_ _) | (with_reducible refine Kd.C_drew ?_)))
            (case side2 => exact HC0.out)
            rintro e w' ⟨rfl, ⟨nd, rfl⟩⟩
            refine ⟨_, rfl, ?_⟩
            refine hK.out _ _ ⟨((HB.out.cell (World.block_lt_of_cell? w _ hw127_0)).trans hw127_0), ((HB.out.cell (World.block_lt_of_cell? w _ hw129_0)).trans hw129_0), ((HB.out.cell (World.block_lt_of_cell? w _ hw130_0)).trans hw130_0)⟩ (fun hHeld => ?_)
            clear hK K
            refine norm_ (a' := ?_) ?_ ?_
            rotate_left
            ·show Act.put _ (some 52) _ = _
             simp only [Act.put, List.setIfInBounds_toArray, List.set_cons_zero, List.set_cons_succ, i64_w, i32_w]
             rfl
            refine one_ (i := 17) (N := some 65) #[true, true, true, true, true, true, true, true, true, true, true, true, true, true, true, true, true, true, true, false, true, true, true, false, true, true, true, true, false, false, false] rfl rfl (one_of HT_.out (by kernel_rfl)) (by decide) (fun K hK => ?_)
            refine goes_ Try.func34 (by kernel_rfl) rfl #[.slice (some ad120) l0.length c0, .int .i64 12] (by rfl) rfl rfl (by (try simp only [List.map_toArray, List.map_cons, List.map_nil]); first | done | rfl | (simp only [List.length_drop, List.length_take]; rfl) | (go_simp; done) | (simp [Act.eval, IntKind.signed]; done) | (simp [Act.eval, IntKind.signed]; rfl)) ?_
            with_reducible refine (ip_reader_four.calls _ _ l0 12 t131 _ ?side1 ?side2 A25.out).mono ?_
            (case side1 => repeat (first | exact (Kd.C_below HR0.out (by repeat (first | (with_reducible first | exact HB.out | apply below_alloc | apply pw_below_drewN | apply below_drew1 | refine below_set ?_ GE119.out) | exact HB.out))) | (with_reducible refine Kd.C_alloc ?_ _) | (with_reducible refine Kd.C_drewN ?_ _) | (with_reducible refine Kd.C_drew ?_)))
            (case side2 => exact HC0.out)
            rintro e w' ⟨rfl, ⟨nd, rfl⟩⟩
            refine ⟨_, rfl, ?_⟩
            refine hK.out _ _ ⟨((HB.out.cell (World.block_lt_of_cell? w _ hw127_0)).trans hw127_0), ((HB.out.cell (World.block_lt_of_cell? w _ hw129_0)).trans hw129_0), ((HB.out.cell (World.block_lt_of_cell? w _ hw130_0)).trans hw130_0)⟩ (fun hHeld => ?_)
            clear hK K
            refine norm_ (a' := ?_) ?_ ?_
            rotate_left
            ·show Act.put _ (some 65) _ = _
             simp only [Act.put, List.setIfInBounds_toArray, List.set_cons_zero, List.set_cons_succ, i64_w, i32_w]
             rfl
            refine one_ (i := 19) (N := some 67) #[true, true, true, true, true, true, true, true, true, true, true, true, true, true, true, true, true, true, true, true, true, true, true, false, true, true, true, true, false, false, false] rfl rfl (one_of HT_.out (by kernel_rfl)) (by decide) (fun K hK => ?_)
            refine goes_ Try.func34 (by kernel_rfl) rfl #[.slice (some ad120) l0.length c0, .int .i64 16] (by rfl) rfl rfl (by (try simp only [List.map_toArray, List.map_cons, List.map_nil]); first | done | rfl | (simp only [List.length_drop, List.length_take]; rfl) | (go_simp; done) | (simp [Act.eval, IntKind.signed]; done) | (simp [Act.eval, IntKind.signed]; rfl)) ?_
            with_reducible refine (ip_reader_four.calls _ _ l0 16 t132 _ ?side1 ?side2 A26.out).mono ?_
            (case side1 => repeat (first | exact (Kd.C_below HR0.out (by repeat (first | (with_reducible first | exact HB.out | apply below_alloc | apply pw_below_drewN | apply below_drew1 | refine below_set ?_ GE119.out) | exact HB.out))) | (with_reducible refine Kd.C_alloc ?_ _) | (with_reducible refine Kd.C_drewN ?_ _) | (with_reducible refine Kd.C_drew ?_)))
            (case side2 => exact HC0.out)
            rintro e w' ⟨rfl, ⟨nd, rfl⟩⟩
            refine ⟨_, rfl, ?_⟩
            refine hK.out _ _ ⟨((HB.out.cell (World.block_lt_of_cell? w _ hw127_0)).trans hw127_0), ((HB.out.cell (World.block_lt_of_cell? w _ hw129_0)).trans hw129_0), ((HB.out.cell (World.block_lt_of_cell? w _ hw130_0)).trans hw130_0)⟩ (fun hHeld => ?_)
            clear hK K
            refine norm_ (a' := ?_) ?_ ?_
            rotate_left
            ·show Act.put _ (some 67) _ = _
             simp only [Act.put, List.setIfInBounds_toArray, List.set_cons_zero, List.set_cons_succ, i64_w, i32_w]
             rfl
            refine one_ (i := 23) (N := some 71) #[true, true, true, true, true, true, true, true, true, true, true, true, true, true, true, true, true, true, true, true, true, true, true, true, true, true, true, true, false, false, false] rfl rfl (one_of HT_.out (by kernel_rfl)) (by decide) (fun K hK => ?_)
            refine goes_ Try.func35 (by kernel_rfl) rfl #[.slice A37 ((l0.take ((ji14) : Int).toNat).drop 20).length (c0 - 20)] (by rfl) rfl rfl (by (try simp only [List.map_toArray, List.map_cons, List.map_nil]); first | done | (rw [show ((l0.take ((ji14) : Int).toNat).drop 20).length = ((ji14).toNat - 20) from (by rw [List.length_drop, List.length_take]; have h_ : ((ji14) : Int) ≤ (l0.length : Int) := of_decide_eq_true (by first | (with_reducible assumption) | assumption); omega)] <;> rfl) | (simp only [hji14]; rfl) | rfl | (simp only [List.length_drop, List.length_take]; rfl) | (go_simp; done) | (simp [Act.eval, IntKind.signed]; done) | (simp [Act.eval, IntKind.signed]; rfl)) ?_
            with_reducible refine (ip_reader_byte.calls _ _ ((l0.take ((ji14) : Int).toNat).drop 20) t134 _ ?side1 ?side2 A29.out).mono ?_
            (case side1 => repeat (first | exact (Kd.C_below HR133.out (by repeat (first | (with_reducible first | exact HB.out | apply below_alloc | apply pw_below_drewN | apply below_drew1 | refine below_set ?_ GE119.out) | exact HB.out))) | (with_reducible refine Kd.C_alloc ?_ _) | (with_reducible refine Kd.C_drewN ?_ _) | (with_reducible refine Kd.C_drew ?_)))
            (case side2 => exact HC133.out)
            rintro e w39 ⟨v135, rfl, ho0, hb⟩
            refine ⟨_, rfl, ?_⟩
            have n0_ := Aside0.mk (Kd.R_lower ho0 (below_size (by repeat (first | (with_reducible first | exact HB.out | apply below_alloc | apply pw_below_drewN | apply below_drew1 | refine below_set ?_ GE119.out) | exact HB.out))))
            have n1_ := Aside0.mk (blk_below (g := gb119) (o := .cells #[.int .u8 0, .int .u8 0, .int .u8 0, .int .u16 0, .int .u8 0, .int .u16 0, .int .u32 0, .int .u32 0, .slice none 0 0, .slice none 0 0] 30 (0, 0)) (by (with_reducible repeat (first | refine blk_drewN ?_ _ | refine blk_drew ?_ | refine blk_alloc ?_ _)); exact BK119.out) hb)
            have n2_ := Aside0.mk (below_step (by repeat (first | (with_reducible first | exact HB.out | apply below_alloc | apply pw_below_drewN | apply below_drew1 | refine below_set ?_ GE119.out) | exact HB.out)) hb)
            clear BK119
            clear HB
            have HO136 := n0_
            have BK119 := n1_
            have HB := n2_
            clear n0_ n1_ n2_
            (try clear hb)
            (try clear hb2)
            (try clear hk)
            (try clear hi)
            (try clear ho0)
            refine hK.out _ _ ⟨((HB.out.cell (World.block_lt_of_cell? w _ hw127_0)).trans hw127_0), ((HB.out.cell (World.block_lt_of_cell? w _ hw129_0)).trans hw129_0), ((HB.out.cell (World.block_lt_of_cell? w _ hw130_0)).trans hw130_0)⟩ (fun hHeld => ?_)
            clear hK K
            refine norm_ (a' := ?_) ?_ ?_
            rotate_left
            ·show Act.put _ (some 71) _ = _
             simp only [Act.put, List.setIfInBounds_toArray, List.set_cons_zero, List.set_cons_succ, i64_w, i32_w]
             rfl
            refine one_ (i := 28) (N := some 76) #[true, true, true, true, true, true, true, true, true, true, true, true, true, true, true, true, true, true, true, true, true, true, true, true, true, true, true, true, true, false, false] rfl rfl (one_of HT_.out (by kernel_rfl)) (by decide) (fun K hK => ?_)
            refine goes_ Try.func35 (by kernel_rfl) rfl #[.slice A38 ((l0.take ((wrap64 (t121)) : Int).toNat).drop ((ji14) : Int).toNat).length (c0 - (ji14).toNat)] (by rfl) rfl rfl (by (try simp only [List.map_toArray, List.map_cons, List.map_nil]); first | done | (rw [show ((l0.take ((wrap64 (t121)) : Int).toNat).drop ((ji14) : Int).toNat).length = ((wrap64 (t121)).toNat - (ji14).toNat) from (by rw [List.length_drop, List.length_take]; have h_ : ((wrap64 (t121)) : Int) ≤ (l0.length : Int) := of_decide_eq_true (by first | (with_reducible assumption) | assumption); omega)] <;> rfl) | (simp only [hji14]; rfl) | rfl | (simp only [List.length_drop, List.length_take]; rfl) | (go_simp; done) | (simp [Act.eval, IntKind.signed]; done) | (simp [Act.eval, IntKind.signed]; rfl)) ?_
            with_reducible refine (ip_reader_byte.calls _ _ ((l0.take ((wrap64 (t121)) : Int).toNat).drop ((ji14) : Int).toNat) t138 _ ?side1 ?side2 A33.out).mono ?_
            (case side1 => repeat (first | exact (Kd.C_below HR137.out HB.out) | (with_reducible refine Kd.C_alloc ?_ _) | (with_reducible refine Kd.C_drewN ?_ _) | (with_reducible refine Kd.C_drew ?_)))
            (case side2 => exact HC137.out)
            rintro e w40 ⟨v139, rfl, ho0, hb⟩
            refine ⟨_, rfl, ?_⟩
            have n0_ := Aside0.mk (Kd.R_elder' (by (with_reducible repeat (first | apply Kd.R_alloc | apply Kd.R_drewN | apply Kd.R_drew)); exact HO136.out) (Kd.R_base ho0) hb)
            have n1_ := Aside0.mk (Kd.R_lower (Kd.R_new' ho0 (Kd.R_lt (by (with_reducible repeat (first | apply Kd.R_alloc | apply Kd.R_drewN | apply Kd.R_drew)); exact HO136.out))) (below_size (by repeat (first | (with_reducible first | exact HB.out | apply below_alloc | apply pw_below_drewN | apply below_drew1 | refine below_set ?_ GE119.out) | exact HB.out))))
            have n2_ := Aside0.mk (blk_below (g := gb119) (o := .cells #[.int .u8 0, .int .u8 0, .int .u8 0, .int .u16 0, .int .u8 0, .int .u16 0, .int .u32 0, .int .u32 0, .slice none 0 0, .slice none 0 0] 30 (0, 0)) (by (with_reducible repeat (first | refine blk_drewN ?_ _ | refine blk_drew ?_ | refine blk_alloc ?_ _)); exact BK119.out) hb)
            have n3_ := Aside0.mk (below_step (by repeat (first | (with_reducible first | exact HB.out | apply below_alloc | apply pw_below_drewN | apply below_drew1 | refine below_set ?_ GE119.out) | exact HB.out)) hb)
            clear HO136
            clear BK119
            clear HB
            have HO136 := n0_
            have HO140 := n1_
            have BK119 := n2_
            have HB := n3_
            clear n0_ n1_ n2_ n3_
            (try clear hb)
            (try clear hb2)
            (try clear hk)
            (try clear hi)
            (try clear ho0)
            obtain ⟨Ao41, co41, eo41⟩ := Kd.R_slice HO140.out
            (first | subst eo41 | (injection eo41 with f1_ f2_ f3_; have f4_ := f1_.symm; have f5_ := f3_.symm; clear f1_ f2_ f3_; subst f4_; subst f5_))
            obtain ⟨Ao42, co42, eo42⟩ := Kd.R_slice HO136.out
            (first | subst eo42 | (injection eo42 with f1_ f2_ f3_; have f4_ := f1_.symm; have f5_ := f3_.symm; clear f1_ f2_ f3_; subst f4_; subst f5_))
            refine hK.out _ _ ⟨((HB.out.cell (World.block_lt_of_cell? w _ hw127_0)).trans hw127_0), ((HB.out.cell (World.block_lt_of_cell? w _ hw129_0)).trans hw129_0), ((HB.out.cell (World.block_lt_of_cell? w _ hw130_0)).trans hw130_0)⟩ (fun hHeld => ?_)
            clear hK K
            refine norm_ (a' := ?_) ?_ ?_
            rotate_left
            ·show Act.put _ (some 76) _ = _
             simp only [Act.put, List.setIfInBounds_toArray, List.set_cons_zero, List.set_cons_succ, i64_w, i32_w]
             rfl
            refine pure_ (i := 29) (N := some 77) (v := ?_) (a' := ?_) #[true, true, true, true, true, true, true, true, true, true, true, true, true, true, true, true, true, true, true, true, true, true, true, true, true, true, true, true, true, true, false] rfl rfl (any_of HT_.out (by kernel_rfl)) (fun _ _ _ h => h) (Or.inl ⟨by rfl, ?_⟩) ?_ ?_
            rotate_left
            ·intro w'
             go_simp
             with_reducible rfl
            rotate_left
            ·simp only [Act.put, List.setIfInBounds_toArray, List.set_cons_zero, List.set_cons_succ, i64_w, i32_w]
             rfl
            refine one_ (i := 30) (N := none) #[true, true, true, true, true, true, true, true, true, true, true, true, true, true, true, true, true, true, true, true, true, true, true, true, true, true, true, true, true, true, true] rfl rfl (one_of HT_.out (by kernel_rfl)) (by decide) (fun K hK => ?_)
            have hs43 : w40.cell? ⟨gb119, 0, none⟩ = some (.int .u8 0) := (blk_cell BK119.out 0).trans rfl
            have hfs43 := blk_frozen BK119.out 0
            have hs44 : w40.cell? ⟨gb119, 1, none⟩ = some (.int .u8 0) := (blk_cell BK119.out 1).trans rfl
            have hfs44 := blk_frozen BK119.out 1
            have hs45 : w40.cell? ⟨gb119, 2, none⟩ = some (.int .u8 0) := (blk_cell BK119.out 2).trans rfl
            have hfs45 := blk_frozen BK119.out 2
            have hs46 : w40.cell? ⟨gb119, 3, none⟩ = some (.int .u16 0) := (blk_cell BK119.out 3).trans rfl
            have hfs46 := blk_frozen BK119.out 3
            have hs47 : w40.cell? ⟨gb119, 4, none⟩ = some (.int .u8 0) := (blk_cell BK119.out 4).trans rfl
            have hfs47 := blk_frozen BK119.out 4
            have hs48 : w40.cell? ⟨gb119, 5, none⟩ = some (.int .u16 0) := (blk_cell BK119.out 5).trans rfl
            have hfs48 := blk_frozen BK119.out 5
            have hs49 : w40.cell? ⟨gb119, 6, none⟩ = some (.int .u32 0) := (blk_cell BK119.out 6).trans rfl
            have hfs49 := blk_frozen BK119.out 6
            have hs50 : w40.cell? ⟨gb119, 7, none⟩ = some (.int .u32 0) := (blk_cell BK119.out 7).trans rfl
            have hfs50 := blk_frozen BK119.out 7
            have hs51 : w40.cell? ⟨gb119, 8, none⟩ = some (.slice none 0 0) := (blk_cell BK119.out 8).trans rfl
            have hfs51 := blk_frozen BK119.out 8
            have hs52 : w40.cell? ⟨gb119, 9, none⟩ = some (.slice none 0 0) := (blk_cell BK119.out 9).trans rfl
            have hfs52 := blk_frozen BK119.out 9
            refine skip_ (w1 := ?_) (by rfl) rfl ?_ ?_
            rotate_left
            ·go_simp
             rfl
            refine hK.out _ _ ⟨((cell_far (p := ⟨gb119, _, none⟩) (by first | exact Nat.ne_of_lt (Nat.lt_of_lt_of_le (by have := World.block_lt_of_cell? _ _ hw127_0; first | rwa [add_block] at this | exact this) GW119.out) | (rw [add_block]; exact Nat.ne_of_lt (Nat.lt_of_lt_of_le (by have := World.block_lt_of_cell? _ _ hw127_0; first | rwa [add_block] at this | exact this) GW119.out)) | (show (Addr.add _ _).block ≠ _; rw [add_block]; exact Nat.ne_of_lt (Nat.lt_of_lt_of_le (by have := World.block_lt_of_cell? _ _ hw127_0; first | rwa [add_block] at this | exact this) GW119.out)) | (dsimp only; exact Nat.ne_of_lt (Nat.lt_of_lt_of_le (by have := World.block_lt_of_cell? _ _ hw127_0; first | rwa [add_block] at this | exact this) GW119.out))) _).trans (((cell_far (p := ⟨gb119, _, none⟩) (by first | exact Nat.ne_of_lt (Nat.lt_of_lt_of_le (by have := World.block_lt_of_cell? _ _ hw127_0; first | rwa [add_block] at this | exact this) GW119.out) | (rw [add_block]; exact Nat.ne_of_lt (Nat.lt_of_lt_of_le (by have := World.block_lt_of_cell? _ _ hw127_0; first | rwa [add_block] at this | exact this) GW119.out)) | (show (Addr.add _ _).block ≠ _; rw [add_block]; exact Nat.ne_of_lt (Nat.lt_of_lt_of_le (by have := World.block_lt_of_cell? _ _ hw127_0; first | rwa [add_block] at this | exact this) GW119.out)) | (dsimp only; exact Nat.ne_of_lt (Nat.lt_of_lt_of_le (by have := World.block_lt_of_cell? _ _ hw127_0; first | rwa [add_block] at this | exact this) GW119.out))) _).trans (((cell_far (p := ⟨gb119, _, none⟩) (by first | exact Nat.ne_of_lt (Nat.lt_of_lt_of_le (by have := World.block_lt_of_cell? _ _ hw127_0; first | rwa [add_block] at this | exact this) GW119.out) | (rw [add_block]; exact Nat.ne_of_lt (Nat.lt_of_lt_of_le (by have := World.block_lt_of_cell? _ _ hw127_0; first | rwa [add_block] at this | exact this) GW119.out)) | (show (Addr.add _ _).block ≠ _; rw [add_block]; exact Nat.ne_of_lt (Nat.lt_of_lt_of_le (by have := World.block_lt_of_cell? _ _ hw127_0; first | rwa [add_block] at this | exact this) GW119.out)) | (dsimp only; exact Nat.ne_of_lt (Nat.lt_of_lt_of_le (by have := World.block_lt_of_cell? _ _ hw127_0; first | rwa [add_block] at this | exact this) GW119.out))) _).trans (((cell_far (p := ⟨gb119, _, none⟩) (by first | exact Nat.ne_of_lt (Nat.lt_of_lt_of_le (by have := World.block_lt_of_cell? _ _ hw127_0; first | rwa [add_block] at this | exact this) GW119.out) | (rw [add_block]; exact Nat.ne_of_lt (Nat.lt_of_lt_of_le (by have := World.block_lt_of_cell? _ _ hw127_0; first | rwa [add_block] at this | exact this) GW119.out)) | (show (Addr.add _ _).block ≠ _; rw [add_block]; exact Nat.ne_of_lt (Nat.lt_of_lt_of_le (by have := World.block_lt_of_cell? _ _ hw127_0; first | rwa [add_block] at this | exact this) GW119.out)) | (dsimp only; exact Nat.ne_of_lt (Nat.lt_of_lt_of_le (by have := World.block_lt_of_cell? _ _ hw127_0; first | rwa [add_block] at this | exact this) GW119.out))) _).trans (((cell_far (p := ⟨gb119, _, none⟩) (by first | exact Nat.ne_of_lt (Nat.lt_of_lt_of_le (by have := World.block_lt_of_cell? _ _ hw127_0; first | rwa [add_block] at this | exact this) GW119.out) | (rw [add_block]; exact Nat.ne_of_lt (Nat.lt_of_lt_of_le (by have := World.block_lt_of_cell? _ _ hw127_0; first | rwa [add_block] at this | exact this) GW119.out)) | (show (Addr.add _ _).block ≠ _; rw [add_block]; exact Nat.ne_of_lt (Nat.lt_of_lt_of_le (by have := World.block_lt_of_cell? _ _ hw127_0; first | rwa [add_block] at this | exact this) GW119.out)) | (dsimp only; exact Nat.ne_of_lt (Nat.lt_of_lt_of_le (by have := World.block_lt_of_cell? _ _ hw127_0; first | rwa [add_block] at this | exact this) GW119.out))) _).trans (((cell_far (p := ⟨gb119, _, none⟩) (by first | exact Nat.ne_of_lt (Nat.lt_of_lt_of_le (by have := World.block_lt_of_cell? _ _ hw127_0; first | rwa [add_block] at this | exact this) GW119.out) | (rw [add_block]; exact Nat.ne_of_lt (Nat.lt_of_lt_of_le (by have := World.block_lt_of_cell? _ _ hw127_0; first | rwa [add_block] at this | exact this) GW119.out)) | (show (Addr.add _ _).block ≠ _; rw [add_block]; exact Nat.ne_of_lt (Nat.lt_of_lt_of_le (by have := World.block_lt_of_cell? _ _ hw127_0; first | rwa [add_block] at this | exact this) GW119.out)) | (dsimp only; exact Nat.ne_of_lt (Nat.lt_of_lt_of_le (by have := World.block_lt_of_cell? _ _ hw127_0; first | rwa [add_block] at this | exact this) GW119.out))) _).trans (((cell_far (p := ⟨gb119, _, none⟩) (by first | exact Nat.ne_of_lt (Nat.lt_of_lt_of_le (by have := World.block_lt_of_cell? _ _ hw127_0; first | rwa [add_block] at this | exact this) GW119.out) | (rw [add_block]; exact Nat.ne_of_lt (Nat.lt_of_lt_of_le (by have := World.block_lt_of_cell? _ _ hw127_0; first | rwa [add_block] at this | exact this) GW119.out)) | (show (Addr.add _ _).block ≠ _; rw [add_block]; exact Nat.ne_of_lt (Nat.lt_of_lt_of_le (by have := World.block_lt_of_cell? _ _ hw127_0; first | rwa [add_block] at this | exact this) GW119.out)) | (dsimp only; exact Nat.ne_of_lt (Nat.lt_of_lt_of_le (by have := World.block_lt_of_cell? _ _ hw127_0; first | rwa [add_block] at this | exact this) GW119.out))) _).trans (((cell_far (p := ⟨gb119, _, none⟩) (by first | exact Nat.ne_of_lt (Nat.lt_of_lt_of_le (by have := World.block_lt_of_cell? _ _ hw127_0; first | rwa [add_block] at this | exact this) GW119.out) | (rw [add_block]; exact Nat.ne_of_lt (Nat.lt_of_lt_of_le (by have := World.block_lt_of_cell? _ _ hw127_0; first | rwa [add_block] at this | exact this) GW119.out)) | (show (Addr.add _ _).block ≠ _; rw [add_block]; exact Nat.ne_of_lt (Nat.lt_of_lt_of_le (by have := World.block_lt_of_cell? _ _ hw127_0; first | rwa [add_block] at this | exact this) GW119.out)) | (dsimp only; exact Nat.ne_of_lt (Nat.lt_of_lt_of_le (by have := World.block_lt_of_cell? _ _ hw127_0; first | rwa [add_block] at this | exact this) GW119.out))) _).trans (((cell_far (p := ⟨gb119, _, none⟩) (by first | exact Nat.ne_of_lt (Nat.lt_of_lt_of_le (by have := World.block_lt_of_cell? _ _ hw127_0; first | rwa [add_block] at this | exact this) GW119.out) | (rw [add_block]; exact Nat.ne_of_lt (Nat.lt_of_lt_of_le (by have := World.block_lt_of_cell? _ _ hw127_0; first | rwa [add_block] at this | exact this) GW119.out)) | (show (Addr.add _ _).block ≠ _; rw [add_block]; exact Nat.ne_of_lt (Nat.lt_of_lt_of_le (by have := World.block_lt_of_cell? _ _ hw127_0; first | rwa [add_block] at this | exact this) GW119.out)) | (dsimp only; exact Nat.ne_of_lt (Nat.lt_of_lt_of_le (by have := World.block_lt_of_cell? _ _ hw127_0; first | rwa [add_block] at this | exact this) GW119.out))) _).trans (((cell_far (p := ⟨gb119, _, none⟩) (by first | exact Nat.ne_of_lt (Nat.lt_of_lt_of_le (by have := World.block_lt_of_cell? _ _ hw127_0; first | rwa [add_block] at this | exact this) GW119.out) | (rw [add_block]; exact Nat.ne_of_lt (Nat.lt_of_lt_of_le (by have := World.block_lt_of_cell? _ _ hw127_0; first | rwa [add_block] at this | exact this) GW119.out)) | (show (Addr.add _ _).block ≠ _; rw [add_block]; exact Nat.ne_of_lt (Nat.lt_of_lt_of_le (by have := World.block_lt_of_cell? _ _ hw127_0; first | rwa [add_block] at this | exact this) GW119.out)) | (dsimp only; exact Nat.ne_of_lt (Nat.lt_of_lt_of_le (by have := World.block_lt_of_cell? _ _ hw127_0; first | rwa [add_block] at this | exact this) GW119.out))) _).trans (hHeld.1)))))))))))))))))))), ((cell_far (p := ⟨gb119, _, none⟩) (by first | exact Nat.ne_of_lt (Nat.lt_of_lt_of_le (by have := World.block_lt_of_cell? _ _ hw129_0; first | rwa [add_block] at this | exact this) GW119.out) | (rw [add_block]; exact Nat.ne_of_lt (Nat.lt_of_lt_of_le (by have := World.block_lt_of_cell? _ _ hw129_0; first | rwa [add_block] at this | exact this) GW119.out)) | (show (Addr.add _ _).block ≠ _; rw [add_block]; exact Nat.ne_of_lt (Nat.lt_of_lt_of_le (by have := World.block_lt_of_cell? _ _ hw129_0; first | rwa [add_block] at this | exact this) GW119.out)) | (dsimp only; exact Nat.ne_of_lt (Nat.lt_of_lt_of_le (by have := World.block_lt_of_cell? _ _ hw129_0; first | rwa [add_block] at this | exact this) GW119.out))) _).trans (((cell_far (p := ⟨gb119, _, none⟩) (by first | exact Nat.ne_of_lt (Nat.lt_of_lt_of_le (by have := World.block_lt_of_cell? _ _ hw129_0; first | rwa [add_block] at this | exact this) GW119.out) | (rw [add_block]; exact Nat.ne_of_lt (Nat.lt_of_lt_of_le (by have := World.block_lt_of_cell? _ _ hw129_0; first | rwa [add_block] at this | exact this) GW119.out)) | (show (Addr.add _ _).block ≠ _; rw [add_block]; exact Nat.ne_of_lt (Nat.lt_of_lt_of_le (by have := World.block_lt_of_cell? _ _ hw129_0; first | rwa [add_block] at this | exact this) GW119.out)) | (dsimp only; exact Nat.ne_of_lt (Nat.lt_of_lt_of_le (by have := World.block_lt_of_cell? _ _ hw129_0; first | rwa [add_block] at this | exact this) GW119.out))) _).trans (((cell_far (p := ⟨gb119, _, none⟩) (by first | exact Nat.ne_of_lt (Nat.lt_of_lt_of_le (by have := World.block_lt_of_cell? _ _ hw129_0; first | rwa [add_block] at this | exact this) GW119.out) | (rw [add_block]; exact Nat.ne_of_lt (Nat.lt_of_lt_of_le (by have := World.block_lt_of_cell? _ _ hw129_0; first | rwa [add_block] at this | exact this) GW119.out)) | (show (Addr.add _ _).block ≠ _; rw [add_block]; exact Nat.ne_of_lt (Nat.lt_of_lt_of_le (by have := World.block_lt_of_cell? _ _ hw129_0; first | rwa [add_block] at this | exact this) GW119.out)) | (dsimp only; exact Nat.ne_of_lt (Nat.lt_of_lt_of_le (by have := World.block_lt_of_cell? _ _ hw129_0; first | rwa [add_block] at this | exact this) GW119.out))) _).trans (((cell_far (p := ⟨gb119, _, none⟩) (by first | exact Nat.ne_of_lt (Nat.lt_of_lt_of_le (by have := World.block_lt_of_cell? _ _ hw129_0; first | rwa [add_block] at this | exact this) GW119.out) | (rw [add_block]; exact Nat.ne_of_lt (Nat.lt_of_lt_of_le (by have := World.block_lt_of_cell? _ _ hw129_0; first | rwa [add_block] at this | exact this) GW119.out)) | (show (Addr.add _ _).block ≠ _; rw [add_block]; exact Nat.ne_of_lt (Nat.lt_of_lt_of_le (by have := World.block_lt_of_cell? _ _ hw129_0; first | rwa [add_block] at this | exact this) GW119.out)) | (dsimp only; exact Nat.ne_of_lt (Nat.lt_of_lt_of_le (by have := World.block_lt_of_cell? _ _ hw129_0; first | rwa [add_block] at this | exact this) GW119.out))) _).trans (((cell_far (p := ⟨gb119, _, none⟩) (by first | exact Nat.ne_of_lt (Nat.lt_of_lt_of_le (by have := World.block_lt_of_cell? _ _ hw129_0; first | rwa [add_block] at this | exact this) GW119.out) | (rw [add_block]; exact Nat.ne_of_lt (Nat.lt_of_lt_of_le (by have := World.block_lt_of_cell? _ _ hw129_0; first | rwa [add_block] at this | exact this) GW119.out)) | (show (Addr.add _ _).block ≠ _; rw [add_block]; exact Nat.ne_of_lt (Nat.lt_of_lt_of_le (by have := World.block_lt_of_cell? _ _ hw129_0; first | rwa [add_block] at this | exact this) GW119.out)) | (dsimp only; exact Nat.ne_of_lt (Nat.lt_of_lt_of_le (by have := World.block_lt_of_cell? _ _ hw129_0; first | rwa [add_block] at this | exact this) GW119.out))) _).trans (((cell_far (p := ⟨gb119, _, none⟩) (by first | exact Nat.ne_of_lt (Nat.lt_of_lt_of_le (by have := World.block_lt_of_cell? _ _ hw129_0; first | rwa [add_block] at this | exact this) GW119.out) | (rw [add_block]; exact Nat.ne_of_lt (Nat.lt_of_lt_of_le (by have := World.block_lt_of_cell? _ _ hw129_0; first | rwa [add_block] at this | exact this) GW119.out)) | (show (Addr.add _ _).block ≠ _; rw [add_block]; exact Nat.ne_of_lt (Nat.lt_of_lt_of_le (by have := World.block_lt_of_cell? _ _ hw129_0; first | rwa [add_block] at this | exact this) GW119.out)) | (dsimp only; exact Nat.ne_of_lt (Nat.lt_of_lt_of_le (by have := World.block_lt_of_cell? _ _ hw129_0; first | rwa [add_block] at this | exact this) GW119.out))) _).trans (((cell_far (p := ⟨gb119, _, none⟩) (by first | exact Nat.ne_of_lt (Nat.lt_of_lt_of_le (by have := World.block_lt_of_cell? _ _ hw129_0; first | rwa [add_block] at this | exact this) GW119.out) | (rw [add_block]; exact Nat.ne_of_lt (Nat.lt_of_lt_of_le (by have := World.block_lt_of_cell? _ _ hw129_0; first | rwa [add_block] at this | exact this) GW119.out)) | (show (Addr.add _ _).block ≠ _; rw [add_block]; exact Nat.ne_of_lt (Nat.lt_of_lt_of_le (by have := World.block_lt_of_cell? _ _ hw129_0; first | rwa [add_block] at this | exact this) GW119.out)) | (dsimp only; exact Nat.ne_of_lt (Nat.lt_of_lt_of_le (by have := World.block_lt_of_cell? _ _ hw129_0; first | rwa [add_block] at this | exact this) GW119.out))) _).trans (((cell_far (p := ⟨gb119, _, none⟩) (by first | exact Nat.ne_of_lt (Nat.lt_of_lt_of_le (by have := World.block_lt_of_cell? _ _ hw129_0; first | rwa [add_block] at this | exact this) GW119.out) | (rw [add_block]; exact Nat.ne_of_lt (Nat.lt_of_lt_of_le (by have := World.block_lt_of_cell? _ _ hw129_0; first | rwa [add_block] at this | exact this) GW119.out)) | (show (Addr.add _ _).block ≠ _; rw [add_block]; exact Nat.ne_of_lt (Nat.lt_of_lt_of_le (by have := World.block_lt_of_cell? _ _ hw129_0; first | rwa [add_block] at this | exact this) GW119.out)) | (dsimp only; exact Nat.ne_of_lt (Nat.lt_of_lt_of_le (by have := World.block_lt_of_cell? _ _ hw129_0; first | rwa [add_block] at this | exact this) GW119.out))) _).trans (((cell_far (p := ⟨gb119, _, none⟩) (by first | exact Nat.ne_of_lt (Nat.lt_of_lt_of_le (by have := World.block_lt_of_cell? _ _ hw129_0; first | rwa [add_block] at this | exact this) GW119.out) | (rw [add_block]; exact Nat.ne_of_lt (Nat.lt_of_lt_of_le (by have := World.block_lt_of_cell? _ _ hw129_0; first | rwa [add_block] at this | exact this) GW119.out)) | (show (Addr.add _ _).block ≠ _; rw [add_block]; exact Nat.ne_of_lt (Nat.lt_of_lt_of_le (by have := World.block_lt_of_cell? _ _ hw129_0; first | rwa [add_block] at this | exact this) GW119.out)) | (dsimp only; exact Nat.ne_of_lt (Nat.lt_of_lt_of_le (by have := World.block_lt_of_cell? _ _ hw129_0; first | rwa [add_block] at this | exact this) GW119.out))) _).trans (((cell_far (p := ⟨gb119, _, none⟩) (by first | exact Nat.ne_of_lt (Nat.lt_of_lt_of_le (by have := World.block_lt_of_cell? _ _ hw129_0; first | rwa [add_block] at this | exact this) GW119.out) | (rw [add_block]; exact Nat.ne_of_lt (Nat.lt_of_lt_of_le (by have := World.block_lt_of_cell? _ _ hw129_0; first | rwa [add_block] at this | exact this) GW119.out)) | (show (Addr.add _ _).block ≠ _; rw [add_block]; exact Nat.ne_of_lt (Nat.lt_of_lt_of_le (by have := World.block_lt_of_cell? _ _ hw129_0; first | rwa [add_block] at this | exact this) GW119.out)) | (dsimp only; exact Nat.ne_of_lt (Nat.lt_of_lt_of_le (by have := World.block_lt_of_cell? _ _ hw129_0; first | rwa [add_block] at this | exact this) GW119.out))) _).trans (hHeld.2.1)))))))))))))))))))), ((cell_far (p := ⟨gb119, _, none⟩) (by first | exact Nat.ne_of_lt (Nat.lt_of_lt_of_le (by have := World.block_lt_of_cell? _ _ hw130_0; first | rwa [add_block] at this | exact this) GW119.out) | (rw [add_block]; exact Nat.ne_of_lt (Nat.lt_of_lt_of_le (by have := World.block_lt_of_cell? _ _ hw130_0; first | rwa [add_block] at this | exact this) GW119.out)) | (show (Addr.add _ _).block ≠ _; rw [add_block]; exact Nat.ne_of_lt (Nat.lt_of_lt_of_le (by have := World.block_lt_of_cell? _ _ hw130_0; first | rwa [add_block] at this | exact this) GW119.out)) | (dsimp only; exact Nat.ne_of_lt (Nat.lt_of_lt_of_le (by have := World.block_lt_of_cell? _ _ hw130_0; first | rwa [add_block] at this | exact this) GW119.out))) _).trans (((cell_far (p := ⟨gb119, _, none⟩) (by first | exact Nat.ne_of_lt (Nat.lt_of_lt_of_le (by have := World.block_lt_of_cell? _ _ hw130_0; first | rwa [add_block] at this | exact this) GW119.out) | (rw [add_block]; exact Nat.ne_of_lt (Nat.lt_of_lt_of_le (by have := World.block_lt_of_cell? _ _ hw130_0; first | rwa [add_block] at this | exact this) GW119.out)) | (show (Addr.add _ _).block ≠ _; rw [add_block]; exact Nat.ne_of_lt (Nat.lt_of_lt_of_le (by have := World.block_lt_of_cell? _ _ hw130_0; first | rwa [add_block] at this | exact this) GW119.out)) | (dsimp only; exact Nat.ne_of_lt (Nat.lt_of_lt_of_le (by have := World.block_lt_of_cell? _ _ hw130_0; first | rwa [add_block] at this | exact this) GW119.out))) _).trans (((cell_far (p := ⟨gb119, _, none⟩) (by first | exact Nat.ne_of_lt (Nat.lt_of_lt_of_le (by have := World.block_lt_of_cell? _ _ hw130_0; first | rwa [add_block] at this | exact this) GW119.out) | (rw [add_block]; exact Nat.ne_of_lt (Nat.lt_of_lt_of_le (by have := World.block_lt_of_cell? _ _ hw130_0; first | rwa [add_block] at this | exact this) GW119.out)) | (show (Addr.add _ _).block ≠ _; rw [add_block]; exact Nat.ne_of_lt (Nat.lt_of_lt_of_le (by have := World.block_lt_of_cell? _ _ hw130_0; first | rwa [add_block] at this | exact this) GW119.out)) | (dsimp only; exact Nat.ne_of_lt (Nat.lt_of_lt_of_le (by have := World.block_lt_of_cell? _ _ hw130_0; first | rwa [add_block] at this | exact this) GW119.out))) _).trans (((cell_far (p := ⟨gb119, _, none⟩) (by first | exact Nat.ne_of_lt (Nat.lt_of_lt_of_le (by have := World.block_lt_of_cell? _ _ hw130_0; first | rwa [add_block] at this | exact this) GW119.out) | (rw [add_block]; exact Nat.ne_of_lt (Nat.lt_of_lt_of_le (by have := World.block_lt_of_cell? _ _ hw130_0; first | rwa [add_block] at this | exact this) GW119.out)) | (show (Addr.add _ _).block ≠ _; rw [add_block]; exact Nat.ne_of_lt (Nat.lt_of_lt_of_le (by have := World.block_lt_of_cell? _ _ hw130_0; first | rwa [add_block] at this | exact this) GW119.out)) | (dsimp only; exact Nat.ne_of_lt (Nat.lt_of_lt_of_le (by have := World.block_lt_of_cell? _ _ hw130_0; first | rwa [add_block] at this | exact this) GW119.out))) _).trans (((cell_far (p := ⟨gb119, _, none⟩) (by first | exact Nat.ne_of_lt (Nat.lt_of_lt_of_le (by have := World.block_lt_of_cell? _ _ hw130_0; first | rwa [add_block] at this | exact this) GW119.out) | (rw [add_block]; exact Nat.ne_of_lt (Nat.lt_of_lt_of_le (by have := World.block_lt_of_cell? _ _ hw130_0; first | rwa [add_block] at this | exact this) GW119.out)) | (show (Addr.add _ _).block ≠ _; rw [add_block]; exact Nat.ne_of_lt (Nat.lt_of_lt_of_le (by have := World.block_lt_of_cell? _ _ hw130_0; first | rwa [add_block] at this | exact this) GW119.out)) | (dsimp only; exact Nat.ne_of_lt (Nat.lt_of_lt_of_le (by have := World.block_lt_of_cell? _ _ hw130_0; first | rwa [add_block] at this | exact this) GW119.out))) _).trans (((cell_far (p := ⟨gb119, _, none⟩) (by first | exact Nat.ne_of_lt (Nat.lt_of_lt_of_le (by have := World.block_lt_of_cell? _ _ hw130_0; first | rwa [add_block] at this | exact this) GW119.out) | (rw [add_block]; exact Nat.ne_of_lt (Nat.lt_of_lt_of_le (by have := World.block_lt_of_cell? _ _ hw130_0; first | rwa [add_block] at this | exact this) GW119.out)) | (show (Addr.add _ _).block ≠ _; rw [add_block]; exact Nat.ne_of_lt (Nat.lt_of_lt_of_le (by have := World.block_lt_of_cell? _ _ hw130_0; first | rwa [add_block] at this | exact this) GW119.out)) | (dsimp only; exact Nat.ne_of_lt (Nat.lt_of_lt_of_le (by have := World.block_lt_of_cell? _ _ hw130_0; first | rwa [add_block] at this | exact this) GW119.out))) _).trans (((cell_far (p := ⟨gb119, _, none⟩) (by first | exact Nat.ne_of_lt (Nat.lt_of_lt_of_le (by have := World.block_lt_of_cell? _ _ hw130_0; first | rwa [add_block] at this | exact this) GW119.out) | (rw [add_block]; exact Nat.ne_of_lt (Nat.lt_of_lt_of_le (by have := World.block_lt_of_cell? _ _ hw130_0; first | rwa [add_block] at this | exact this) GW119.out)) | (show (Addr.add _ _).block ≠ _; rw [add_block]; exact Nat.ne_of_lt (Nat.lt_of_lt_of_le (by have := World.block_lt_of_cell? _ _ hw130_0; first | rwa [add_block] at this | exact this) GW119.out)) | (dsimp only; exact Nat.ne_of_lt (Nat.lt_of_lt_of_le (by have := World.block_lt_of_cell? _ _ hw130_0; first | rwa [add_block] at this | exact this) GW119.out))) _).trans (((cell_far (p := ⟨gb119, _, none⟩) (by first | exact Nat.ne_of_lt (Nat.lt_of_lt_of_le (by have := World.block_lt_of_cell? _ _ hw130_0; first | rwa [add_block] at this | exact this) GW119.out) | (rw [add_block]; exact Nat.ne_of_lt (Nat.lt_of_lt_of_le (by have := World.block_lt_of_cell? _ _ hw130_0; first | rwa [add_block] at this | exact this) GW119.out)) | (show (Addr.add _ _).block ≠ _; rw [add_block]; exact Nat.ne_of_lt (Nat.lt_of_lt_of_le (by have := World.block_lt_of_cell? _ _ hw130_0; first | rwa [add_block] at this | exact this) GW119.out)) | (dsimp only; exact Nat.ne_of_lt (Nat.lt_of_lt_of_le (by have := World.block_lt_of_cell? _ _ hw130_0; first | rwa [add_block] at this | exact this) GW119.out))) _).trans (((cell_far (p := ⟨gb119, _, none⟩) (by first | exact Nat.ne_of_lt (Nat.lt_of_lt_of_le (by have := World.block_lt_of_cell? _ _ hw130_0; first | rwa [add_block] at this | exact this) GW119.out) | (rw [add_block]; exact Nat.ne_of_lt (Nat.lt_of_lt_of_le (by have := World.block_lt_of_cell? _ _ hw130_0; first | rwa [add_block] at this | exact this) GW119.out)) | (show (Addr.add _ _).block ≠ _; rw [add_block]; exact Nat.ne_of_lt (Nat.lt_of_lt_of_le (by have := World.block_lt_of_cell? _ _ hw130_0; first | rwa [add_block] at this | exact this) GW119.out)) | (dsimp only; exact Nat.ne_of_lt (Nat.lt_of_lt_of_le (by have := World.block_lt_of_cell? _ _ hw130_0; first | rwa [add_block] at this | exact this) GW119.out))) _).trans (((cell_far (p := ⟨gb119, _, none⟩) (by first | exact Nat.ne_of_lt (Nat.lt_of_lt_of_le (by have := World.block_lt_of_cell? _ _ hw130_0; first | rwa [add_block] at this | exact this) GW119.out) | (rw [add_block]; exact Nat.ne_of_lt (Nat.lt_of_lt_of_le (by have := World.block_lt_of_cell? _ _ hw130_0; first | rwa [add_block] at this | exact this) GW119.out)) | (show (Addr.add _ _).block ≠ _; rw [add_block]; exact Nat.ne_of_lt (Nat.lt_of_lt_of_le (by have := World.block_lt_of_cell? _ _ hw130_0; first | rwa [add_block] at this | exact this) GW119.out)) | (dsimp only; exact Nat.ne_of_lt (Nat.lt_of_lt_of_le (by have := World.block_lt_of_cell? _ _ hw130_0; first | rwa [add_block] at this | exact this) GW119.out))) _).trans (hHeld.2.2))))))))))))))))))))⟩ (fun hHeld => ?_)
            clear hK K
            refine done_ (done_of HT_.out (by kernel_rfl)) ?_
            try go_wp2
            refine bodyPost_ret (results_cell_row rfl _ _ gb119 30 #[.int .u8 (rd l0 1), .int .u8 (rd l0 8), .int .u8 (rd l0 9), .int .u16 t128, .int .u8 ((t126 / 8192) % 256), .int .u16 (Go.bits .and .u16 t126 8191), .int .u32 t131, .int .u32 t132, .slice Ao42 t134.length co42, .slice Ao41 t138.length co41] (0, 0) _ rfl (by (with_reducible repeat (first | refine blk_drewN ?_ _ | refine blk_drew ?_ | refine blk_alloc ?_ _)); refine blk_put (cs := #[.int .u8 (rd l0 1), .int .u8 (rd l0 8), .int .u8 (rd l0 9), .int .u16 t128, .int .u8 ((t126 / 8192) % 256), .int .u16 (Go.bits .and .u16 t126 8191), .int .u32 t131, .int .u32 t132, .slice Ao42 t134.length co42, .slice none 0 0]) ?_ 9 _ rfl; (with_reducible repeat (first | refine blk_drewN ?_ _ | refine blk_drew ?_ | refine blk_alloc ?_ _)); refine blk_put (cs := #[.int .u8 (rd l0 1), .int .u8 (rd l0 8), .int .u8 (rd l0 9), .int .u16 t128, .int .u8 ((t126 / 8192) % 256), .int .u16 (Go.bits .and .u16 t126 8191), .int .u32 t131, .int .u32 t132, .slice none 0 0, .slice none 0 0]) ?_ 8 _ rfl; (with_reducible repeat (first | refine blk_drewN ?_ _ | refine blk_drew ?_ | refine blk_alloc ?_ _)); refine blk_put (cs := #[.int .u8 (rd l0 1), .int .u8 (rd l0 8), .int .u8 (rd l0 9), .int .u16 t128, .int .u8 ((t126 / 8192) % 256), .int .u16 (Go.bits .and .u16 t126 8191), .int .u32 t131, .int .u32 0, .slice none 0 0, .slice none 0 0]) ?_ 7 _ rfl; (with_reducible repeat (first | refine blk_drewN ?_ _ | refine blk_drew ?_ | refine blk_alloc ?_ _)); refine blk_put (cs := #[.int .u8 (rd l0 1), .int .u8 (rd l0 8), .int .u8 (rd l0 9), .int .u16 t128, .int .u8 ((t126 / 8192) % 256), .int .u16 (Go.bits .and .u16 t126 8191), .int .u32 0, .int .u32 0, .slice none 0 0, .slice none 0 0]) ?_ 6 _ rfl; (with_reducible repeat (first | refine blk_drewN ?_ _ | refine blk_drew ?_ | refine blk_alloc ?_ _)); refine blk_put (cs := #[.int .u8 (rd l0 1), .int .u8 (rd l0 8), .int .u8 (rd l0 9), .int .u16 t128, .int .u8 ((t126 / 8192) % 256), .int .u16 0, .int .u32 0, .int .u32 0, .slice none 0 0, .slice none 0 0]) ?_ 5 _ rfl; (with_reducible repeat (first | refine blk_drewN ?_ _ | refine blk_drew ?_ | refine blk_alloc ?_ _)); refine blk_put (cs := #[.int .u8 (rd l0 1), .int .u8 (rd l0 8), .int .u8 (rd l0 9), .int .u16 t128, .int .u8 0, .int .u16 0, .int .u32 0, .int .u32 0, .slice none 0 0, .slice none 0 0]) ?_ 4 _ rfl; (with_reducible repeat (first | refine blk_drewN ?_ _ | refine blk_drew ?_ | refine blk_alloc ?_ _)); refine blk_put (cs := #[.int .u8 (rd l0 1), .int .u8 (rd l0 8), .int .u8 (rd l0 9), .int .u16 0, .int .u8 0, .int .u16 0, .int .u32 0, .int .u32 0, .slice none 0 0, .slice none 0 0]) ?_ 3 _ rfl; (with_reducible repeat (first | refine blk_drewN ?_ _ | refine blk_drew ?_ | refine blk_alloc ?_ _)); refine blk_put (cs := #[.int .u8 (rd l0 1), .int .u8 (rd l0 8), .int .u8 0, .int .u16 0, .int .u8 0, .int .u16 0, .int .u32 0, .int .u32 0, .slice none 0 0, .slice none 0 0]) ?_ 2 _ rfl; (with_reducible repeat (first | refine blk_drewN ?_ _ | refine blk_drew ?_ | refine blk_alloc ?_ _)); refine blk_put (cs := #[.int .u8 (rd l0 1), .int .u8 0, .int .u8 0, .int .u16 0, .int .u8 0, .int .u16 0, .int .u32 0, .int .u32 0, .slice none 0 0, .slice none 0 0]) ?_ 1 _ rfl; (with_reducible repeat (first | refine blk_drewN ?_ _ | refine blk_drew ?_ | refine blk_alloc ?_ _)); refine blk_put (cs := #[.int .u8 0, .int .u8 0, .int .u8 0, .int .u16 0, .int .u8 0, .int .u16 0, .int .u32 0, .int .u32 0, .slice none 0 0, .slice none 0 0]) ?_ 0 _ rfl; (with_reducible repeat (first | refine blk_drewN ?_ _ | refine blk_drew ?_ | refine blk_alloc ?_ _)); exact BK119.out) Try.underlying30 rfl (by kernel_rfl)) rfl ?_
            exact ⟨_, _, by first | rfl | (simp [errW_none, errW_some] <;> rfl) | (simp only [← hji14]; first | rfl | (simp [errW_none, errW_some] <;> rfl)) | (simp [*, errW_none, errW_some] <;> rfl), by (with_reducible repeat (first | apply Kd.R_alloc | apply Kd.R_drewN | apply Kd.R_drew)); exact Kd.R_mono (Kd.R_far (p := ⟨gb119, 9, none⟩) (Kd.R_far (p := ⟨gb119, 8, none⟩) (Kd.R_far (p := ⟨gb119, 7, none⟩) (Kd.R_far (p := ⟨gb119, 6, none⟩) (Kd.R_far (p := ⟨gb119, 5, none⟩) (Kd.R_far (p := ⟨gb119, 4, none⟩) (Kd.R_far (p := ⟨gb119, 3, none⟩) (Kd.R_far (p := ⟨gb119, 2, none⟩) (Kd.R_far (p := ⟨gb119, 1, none⟩) (Kd.R_far (p := ⟨gb119, 0, none⟩) (Kd.R_types HO136.out BK119.out (by decide)) (fun _ hk => hk.2) (.int .u8 (rd l0 1))) (fun _ hk => hk.2) (.int .u8 (rd l0 8))) (fun _ hk => hk.2) (.int .u8 (rd l0 9))) (fun _ hk => hk.2) (.int .u16 t128)) (fun _ hk => hk.2) (.int .u8 ((t126 / 8192) % 256))) (fun _ hk => hk.2) (.int .u16 (Go.bits .and .u16 t126 8191))) (fun _ hk => hk.2) (.int .u32 t131)) (fun _ hk => hk.2) (.int .u32 t132)) (fun _ hk => hk.2) (.slice Ao42 t134.length co42)) (fun _ hk => hk.2) (.slice Ao41 t138.length co41)) (fun _ hk => hk.1.2), by (with_reducible repeat (first | apply Kd.R_alloc | apply Kd.R_drewN | apply Kd.R_drew)); exact Kd.R_mono (Kd.R_far (p := ⟨gb119, 9, none⟩) (Kd.R_far (p := ⟨gb119, 8, none⟩) (Kd.R_far (p := ⟨gb119, 7, none⟩) (Kd.R_far (p := ⟨gb119, 6, none⟩) (Kd.R_far (p := ⟨gb119, 5, none⟩) (Kd.R_far (p := ⟨gb119, 4, none⟩) (Kd.R_far (p := ⟨gb119, 3, none⟩) (Kd.R_far (p := ⟨gb119, 2, none⟩) (Kd.R_far (p := ⟨gb119, 1, none⟩) (Kd.R_far (p := ⟨gb119, 0, none⟩) (Kd.R_types HO140.out BK119.out (by decide)) (fun _ hk => hk.2) (.int .u8 (rd l0 1))) (fun _ hk => hk.2) (.int .u8 (rd l0 8))) (fun _ hk => hk.2) (.int .u8 (rd l0 9))) (fun _ hk => hk.2) (.int .u16 t128)) (fun _ hk => hk.2) (.int .u8 ((t126 / 8192) % 256))) (fun _ hk => hk.2) (.int .u16 (Go.bits .and .u16 t126 8191))) (fun _ hk => hk.2) (.int .u32 t131)) (fun _ hk => hk.2) (.int .u32 t132)) (fun _ hk => hk.2) (.slice Ao42 t134.length co42)) (fun _ hk => hk.2) (.slice Ao41 t138.length co41)) (fun _ hk => hk.1.2), by repeat (first | (with_reducible first | exact HB.out | apply below_alloc | apply pw_below_drewN | apply below_drew1 | refine below_set ?_ GE119.out) | exact HB.out)⟩
           ·rw [if_neg c32] at H
            exact absurd H (by simp)
          ·rw [if_neg c31] at H
           exact absurd H (by simp)
         ·rw [if_neg c27] at H
          exact absurd H (by simp)
        ·rw [if_neg c24] at H
         exact absurd H (by simp)
       ·rw [if_neg c23] at H
        exact absurd H (by simp)
      ·rw [if_neg c21] at H
       exact absurd H (by simp)
     ·rw [if_neg c16] at H
      exact absurd H (by simp)
    ·rw [if_neg c15] at H
     exact absurd H (by simp)
 ·rw [if_neg c3] at H
  exact absurd H (by simp)

end Go.Proofs.Ytmlmiiejifhfeaa.PA
