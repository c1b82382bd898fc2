-- written by a patched print
import Derived.Test.YtmlmiiejifhfeaaPAx0
import Derived.Test.YtmlmiiejifhfeaaPAx5
import Derived.Test.YtmlmiiejifhfeaaPAx7
import Derived.Test.YtmlmiiejifhfeaaPAx8
import Derived.Test.YtmlmiiejifhfeaaPAx14
import Derived.Test.YtmlmiiejifhfeaaPAx17
namespace Go.Proofs.Ytmlmiiejifhfeaa.PA
open Go.RowKit Go.Proofs.YtmlmiiejifhfeaaW.PrintWords Go.Proofs.YtmlmiiejifhfeaaW.PrintLast Go.Proofs.YtmlmiiejifhfeaaW.PrintMore
attribute [local go_sem] max2_int min2_int max_two min_two max_three min_three max_four min_four   -- for this text's walks alone
set_option linter.unusedVariables false
set_option linter.unusedSimpArgs false

/-! ### lychlaw3_IpBack: function 4 -/
mutual
def lychlaw3_IpBack.j0 : Nat → List Int → Bool → Int → Int → Int → Int → Int → Int → Int → Int → List Int → List Int → Option (Bool)
 | 0, _, _, _, _, _, _, _, _, _, _, _, _ => none
 | k + 1, x1, x27, x397000, x397001, x397002, x397003, x397004, x397005, x397006, x397007, x397008, x397009 => if x27 = true then (some true) else ((ip_Bytes.f k x397000 x397001 x397002 x397003 x397004 x397005 x397006 x397007 x397008 x397009).bind fun bt398 => ((lychref1_IpBytes.f k x397000 x397001 x397002 x397003 x397004 x397005 x397006 x397007 x397008 x397009).bind fun bt402 => (if bt398.2 = bt402.2 then ((lychhelp_Bytes.f bt398.1 bt402.1).bind fun t406 => (lychlaw3_IpBack.j1 k x1 bt398.1 bt402.2 (!t406) x397000 x397001 x397002 x397003 x397004 x397005 x397006 x397007 x397008 x397009)) else (lychlaw3_IpBack.j1 k x1 bt398.1 bt402.2 true x397000 x397001 x397002 x397003 x397004 x397005 x397006 x397007 x397008 x397009))))
def lychlaw3_IpBack.j1 : Nat → List Int → List Int → Int → Bool → Int → Int → Int → Int → Int → Int → Int → Int → List Int → List Int → Option (Bool)
 | 0, _, _, _, _, _, _, _, _, _, _, _, _, _, _ => none
 | k + 1, x1, x5, x8, x46, x397000, x397001, x397002, x397003, x397004, x397005, x397006, x397007, x397008, x397009 => if x46 = true then (none) else (if x8 = 0 then (if x5.length + x1.length < 140737488355328 then ((ip_Parse.f k (x5 ++ x1)).bind fun bt410 => (if bt410.2.2.2.2.2.2.2.2.2.2 = 0 then ((lychhelp_Ip.f bt410.1 bt410.2.1 bt410.2.2.1 bt410.2.2.2.1 bt410.2.2.2.2.1 bt410.2.2.2.2.2.1 bt410.2.2.2.2.2.2.1 bt410.2.2.2.2.2.2.2.1 bt410.2.2.2.2.2.2.2.2.1 bt410.2.2.2.2.2.2.2.2.2.1 x397000 x397001 x397002 x397003 x397004 x397005 x397006 x397007 x397008 x397009).bind fun t426 => (some t426)) else (none))) else (none)) else (some true))
end
def lychlaw3_IpBack.f (k : Nat) (a0_0 : Int) (a0_1 : Int) (a0_2 : Int) (a0_3 : Int) (a0_4 : Int) (a0_5 : Int) (a0_6 : Int) (a0_7 : Int) (l0_8 : List Int) (l0_9 : List Int) (l1 : List Int) : Option (Bool) := (lychlaw3_known.f k).bind fun t397 => (if t397 = true then (if (l0_9.length : Int) > 3000 then (lychlaw3_IpBack.j0 k l1 true a0_0 a0_1 a0_2 a0_3 a0_4 a0_5 a0_6 a0_7 l0_8 l0_9) else (if (l0_8.length : Int) > 200 then (lychlaw3_IpBack.j0 k l1 true a0_0 a0_1 a0_2 a0_3 a0_4 a0_5 a0_6 a0_7 l0_8 l0_9) else (lychlaw3_IpBack.j0 k l1 (decide ((l1.length : Int) > 100)) a0_0 a0_1 a0_2 a0_3 a0_4 a0_5 a0_6 a0_7 l0_8 l0_9))) else (none))
theorem lychlaw3_IpBack.mono_l : ∀ k, (∀ y0 y1 y2 y3 y4 y5 y6 y7 y8 y9 y10 y11, LeO (lychlaw3_IpBack.j0 k y0 y1 y2 y3 y4 y5 y6 y7 y8 y9 y10 y11) (lychlaw3_IpBack.j0 (k + 1) y0 y1 y2 y3 y4 y5 y6 y7 y8 y9 y10 y11)) ∧ (∀ y0 y1 y2 y3 y4 y5 y6 y7 y8 y9 y10 y11 y12 y13, LeO (lychlaw3_IpBack.j1 k y0 y1 y2 y3 y4 y5 y6 y7 y8 y9 y10 y11 y12 y13) (lychlaw3_IpBack.j1 (k + 1) y0 y1 y2 y3 y4 y5 y6 y7 y8 y9 y10 y11 y12 y13))
 | 0 => ⟨fun _ _ _ _ _ _ _ _ _ _ _ _ r h => by simp [lychlaw3_IpBack.j0] at h, fun _ _ _ _ _ _ _ _ _ _ _ _ _ _ r h => by simp [lychlaw3_IpBack.j1] at h⟩
 | k + 1 => by
  obtain ⟨ih0, ih1⟩ := lychlaw3_IpBack.mono_l k
  refine ⟨?_, ?_⟩
  ·intro y0 y1 y2 y3 y4 y5 y6 y7 y8 y9 y10 y11
   unfold lychlaw3_IpBack.j0
   repeat' first
   | (with_reducible exact ih0 _ _ _ _ _ _ _ _ _ _ _ _)
   | (with_reducible exact ih1 _ _ _ _ _ _ _ _ _ _ _ _ _ _)
   | (with_reducible exact ip_Bytes.mono _ _ _ _ _ _ _ _ _ _ _)
   | (with_reducible exact ip_Parse.mono _ _)
   | (with_reducible exact lychlaw3_known.mono _)
   | (with_reducible exact lychref1_IpBytes.mono _ _ _ _ _ _ _ _ _ _ _)
   | (with_reducible exact LeO.refl _)
   | (with_reducible exact LeO.none _)
   | (with_reducible refine LeO.ite ?_ ?_)
   | (with_reducible refine LeO.bind ?_ (fun _ => ?_))
   | exact ih0 _ _ _ _ _ _ _ _ _ _ _ _
   | exact ih1 _ _ _ _ _ _ _ _ _ _ _ _ _ _
   | exact ip_Bytes.mono _ _ _ _ _ _ _ _ _ _ _
   | exact ip_Parse.mono _ _
   | exact lychlaw3_known.mono _
   | exact lychref1_IpBytes.mono _ _ _ _ _ _ _ _ _ _ _
   | exact LeO.none _
   | refine LeO.ite ?_ ?_
   | refine LeO.bind ?_ (fun _ => ?_)
  ·intro y0 y1 y2 y3 y4 y5 y6 y7 y8 y9 y10 y11 y12 y13
   unfold lychlaw3_IpBack.j1
   repeat' first
   | (with_reducible exact ih0 _ _ _ _ _ _ _ _ _ _ _ _)
   | (with_reducible exact ih1 _ _ _ _ _ _ _ _ _ _ _ _ _ _)
   | (with_reducible exact ip_Bytes.mono _ _ _ _ _ _ _ _ _ _ _)
   | (with_reducible exact ip_Parse.mono _ _)
   | (with_reducible exact lychlaw3_known.mono _)
   | (with_reducible exact lychref1_IpBytes.mono _ _ _ _ _ _ _ _ _ _ _)
   | (with_reducible exact LeO.refl _)
   | (with_reducible exact LeO.none _)
   | (with_reducible refine LeO.ite ?_ ?_)
   | (with_reducible refine LeO.bind ?_ (fun _ => ?_))
   | exact ih0 _ _ _ _ _ _ _ _ _ _ _ _
   | exact ih1 _ _ _ _ _ _ _ _ _ _ _ _ _ _
   | exact ip_Bytes.mono _ _ _ _ _ _ _ _ _ _ _
   | exact ip_Parse.mono _ _
   | exact lychlaw3_known.mono _
   | exact lychref1_IpBytes.mono _ _ _ _ _ _ _ _ _ _ _
   | exact LeO.none _
   | refine LeO.ite ?_ ?_
   | refine LeO.bind ?_ (fun _ => ?_)
theorem lychlaw3_IpBack.mono : ∀ a0 a1 a2 a3 a4 a5 a6 a7 a8 a9 a10 k, LeO (lychlaw3_IpBack.f k a0 a1 a2 a3 a4 a5 a6 a7 a8 a9 a10) (lychlaw3_IpBack.f (k + 1) a0 a1 a2 a3 a4 a5 a6 a7 a8 a9 a10) := by
 intro a0 a1 a2 a3 a4 a5 a6 a7 a8 a9 a10 k
 obtain ⟨ih0, ih1⟩ := lychlaw3_IpBack.mono_l k
 unfold lychlaw3_IpBack.f
 repeat' first
   | (with_reducible exact ih0 _ _ _ _ _ _ _ _ _ _ _ _)
   | (with_reducible exact ih1 _ _ _ _ _ _ _ _ _ _ _ _ _ _)
   | (with_reducible exact ip_Bytes.mono _ _ _ _ _ _ _ _ _ _ _)
   | (with_reducible exact ip_Parse.mono _ _)
   | (with_reducible exact lychlaw3_known.mono _)
   | (with_reducible exact lychref1_IpBytes.mono _ _ _ _ _ _ _ _ _ _ _)
   | (with_reducible exact LeO.refl _)
   | (with_reducible exact LeO.none _)
   | (with_reducible refine LeO.ite ?_ ?_)
   | (with_reducible refine LeO.bind ?_ (fun _ => ?_))
   | exact ih0 _ _ _ _ _ _ _ _ _ _ _ _
   | exact ih1 _ _ _ _ _ _ _ _ _ _ _ _ _ _
   | exact ip_Bytes.mono _ _ _ _ _ _ _ _ _ _ _
   | exact ip_Parse.mono _ _
   | exact lychlaw3_known.mono _
   | exact lychref1_IpBytes.mono _ _ _ _ _ _ _ _ _ _ _
   | exact LeO.none _
   | refine LeO.ite ?_ ?_
   | refine LeO.bind ?_ (fun _ => ?_)
set_option maxHeartbeats 8000000 in
set_option maxRecDepth 100000 in
theorem lychlaw3_IpBack.calls (k : Nat) (a0_0 : Int) (a0_1 : Int) (a0_2 : Int) (a0_3 : Int) (a0_4 : Int) (a0_5 : Int) (a0_6 : Int) (a0_7 : Int) (A0_8 : Option Addr) (c0_8 : Nat) (l0_8 : List Int) (A0_9 : Option Addr) (c0_9 : Nat) (l0_9 : List Int) (A1 : Option Addr) (c1 : Nat) (l1 : List Int) (r : Bool) (w : World) (hr0_8 : Kd.C (Kd.int .u8) w A0_8 l0_8.length l0_8) (hc0_8 : l0_8.length ≤ c0_8) (hr0_9 : Kd.C (Kd.int .u8) w A0_9 l0_9.length l0_9) (hc0_9 : l0_9.length ≤ c0_9) (hr1 : Kd.C (Kd.int .u8) w A1 l1.length l1) (hc1 : l1.length ≤ c1) (h : lychlaw3_IpBack.f k a0_0 a0_1 a0_2 a0_3 a0_4 a0_5 a0_6 a0_7 l0_8 l0_9 l1 = some r) :
  Calls Try.prog 4 #[.agg #[.int .u8 a0_0, .int .u8 a0_1, .int .u8 a0_2, .int .u16 a0_3, .int .u8 a0_4, .int .u16 a0_5, .int .u32 a0_6, .int .u32 a0_7, .slice A0_8 l0_8.length c0_8, .slice A0_9 l0_9.length c0_9], .slice A1 l1.length c1] w fun e w' => e = .returned (.bool r) ∧ Below w.heap.size w w' := by
 have hu30 := Try.underlying30
 have HR0_8 := Aside0.mk hr0_8
 have HC0_8 := Aside0.mk hc0_8
 clear hr0_8 hc0_8
 have HR0_9 := Aside0.mk hr0_9
 have HC0_9 := Aside0.mk hc0_9
 clear hr0_9 hc0_9
 have HR1 := Aside0.mk hr1
 have HC1 := Aside0.mk hc1
 clear hr1 hc1
 have HB := Aside0.mk (Below.refl w.heap.size w)
 have H : ((lychlaw3_known.f k).bind fun t397 => (if t397 = true then (if (l0_9.length : Int) > 3000 then (lychlaw3_IpBack.j0 k l1 true a0_0 a0_1 a0_2 a0_3 a0_4 a0_5 a0_6 a0_7 l0_8 l0_9) else (if (l0_8.length : Int) > 200 then (lychlaw3_IpBack.j0 k l1 true a0_0 a0_1 a0_2 a0_3 a0_4 a0_5 a0_6 a0_7 l0_8 l0_9) else (lychlaw3_IpBack.j0 k l1 (decide ((l1.length : Int) > 100)) a0_0 a0_1 a0_2 a0_3 a0_4 a0_5 a0_6 a0_7 l0_8 l0_9))) else (none))) = some r := h
 clear h
 replace H := Option.bind_eq_some_iff.mp H
 obtain ⟨t397, A30, H⟩ := H
 replace H : (if t397 = true then (if (l0_9.length : Int) > 3000 then (lychlaw3_IpBack.j0 k l1 true a0_0 a0_1 a0_2 a0_3 a0_4 a0_5 a0_6 a0_7 l0_8 l0_9) else (if (l0_8.length : Int) > 200 then (lychlaw3_IpBack.j0 k l1 true a0_0 a0_1 a0_2 a0_3 a0_4 a0_5 a0_6 a0_7 l0_8 l0_9) else (lychlaw3_IpBack.j0 k l1 (decide ((l1.length : Int) > 100)) a0_0 a0_1 a0_2 a0_3 a0_4 a0_5 a0_6 a0_7 l0_8 l0_9))) else (none)) = some r := H
 have A3 := Aside0.mk A30
 clear A30
 by_cases c4 : t397 = true
 ·subst c4
  have H1 : (if (l0_9.length : Int) > 3000 then (lychlaw3_IpBack.j0 k l1 true a0_0 a0_1 a0_2 a0_3 a0_4 a0_5 a0_6 a0_7 l0_8 l0_9) else (if (l0_8.length : Int) > 200 then (lychlaw3_IpBack.j0 k l1 true a0_0 a0_1 a0_2 a0_3 a0_4 a0_5 a0_6 a0_7 l0_8 l0_9) else (lychlaw3_IpBack.j0 k l1 (decide ((l1.length : Int) > 100)) a0_0 a0_1 a0_2 a0_3 a0_4 a0_5 a0_6 a0_7 l0_8 l0_9))) = some r := by rw [if_pos rfl] at H; exact H
  clear H
  have H := H1
  clear H1
  have HC5 := Aside0.mk H
  clear H
  go_enter Try.func4, Try.ntmps4
  go_upto_region 3 with (first | ((with_reducible refine gate_dst (N := 2) rfl ?_); (try (refine gate_guard (by rfl) ?_; dsimp only)); refine box_event ?hg (N := 2) ?hd (cs := #[.int .u8 a0_0, .int .u8 a0_1, .int .u8 a0_2, .int .u16 a0_3, .int .u8 a0_4, .int .u16 a0_5, .int .u32 a0_6, .int .u32 a0_7, .slice A0_8 l0_8.length c0_8, .slice A0_9 l0_9.length c0_9]) (t := 30) ?hr ?_; (case hd => rfl); (case hg => rfl); (case hr => first | (go_simp; done) | (go_simp; rfl)); intro gb396 hg w6 hbox hb; have n0_ := Aside0.mk (below_step (by repeat (first | (with_reducible first | exact HB.out | apply below_alloc | apply pw_below_drewN | apply below_drew1) | exact HB.out)) hb); have n1_ := Aside0.mk (hbox); have n2_ := Aside0.mk ((by rw [hg]; exact (below_size (by repeat (first | (with_reducible first | exact HB.out | apply below_alloc | apply pw_below_drewN | apply below_drew1) | exact HB.out))) : w.heap.size ≤ gb396)); have n3_ := Aside0.mk ((by rw [hg]; exact (below_size (by repeat (first | (with_reducible first | exact HB.out | apply below_alloc | apply pw_below_drewN | apply below_drew1) | exact HB.out))) : w.heap.size ≤ gb396)); clear HB; have HB := n0_; have BK396 := n1_; have GW396 := n2_; have GE396 := n3_; clear n0_ n1_ n2_ n3_; clear hb hbox hg) | ((with_reducible refine gate_callee (f := 9) rfl ?_); refine goesL_ (some 11) rfl rfl Try.func9 (by kernel_rfl) rfl #[] rfl (by (try simp only [List.map_toArray, List.map_cons, List.map_nil]); first | done | rfl | (simp only [List.length_drop, List.length_take]; rfl) | (go_simp; done) | (simp [Act.eval, IntKind.signed]; done) | (simp [Act.eval, IntKind.signed]; rfl)) ?_; (with_reducible refine (lychlaw3_known.calls k  true _ A3.out).mono ?_); rintro e w7 ⟨rfl, hb⟩; refine ⟨_, rfl, ?_⟩; have n0_ := Aside0.mk (blk_below (g := gb396) (o := .cells #[.int .u8 a0_0, .int .u8 a0_1, .int .u8 a0_2, .int .u16 a0_3, .int .u8 a0_4, .int .u16 a0_5, .int .u32 a0_6, .int .u32 a0_7, .slice A0_8 l0_8.length c0_8, .slice A0_9 l0_9.length c0_9] 30 (0, 0)) (by (with_reducible repeat (first | refine blk_drewN ?_ _ | refine blk_drew ?_ | refine blk_alloc ?_ _)); exact BK396.out) hb); have n1_ := Aside0.mk (below_step (by repeat (first | (with_reducible first | exact HB.out | apply below_alloc | apply pw_below_drewN | apply below_drew1 | refine below_set ?_ GE396.out) | exact HB.out)) hb); clear BK396; clear HB; have BK396 := n0_; have HB := n1_; clear n0_ n1_; (try clear hb); (try clear hb2); (try clear hk); (try clear hi)))
  (try simp only [Act.put, List.setIfInBounds_toArray, List.set_cons_zero, List.set_cons_succ])
  go_cut [27] (fun v27 wc => ∃ (kq : Nat) (x27_4 : Bool), v27 = .bool x27_4 ∧ Aside0 (lychlaw3_IpBack.j0 kq l1 x27_4 a0_0 a0_1 a0_2 a0_3 a0_4 a0_5 a0_6 a0_7 l0_8 l0_9 = some r) ∧ Aside0 (kq ≤ k) ∧ Aside0 (wc.heap[gb396]? = some (.cells #[.int .u8 a0_0, .int .u8 a0_1, .int .u8 a0_2, .int .u16 a0_3, .int .u8 a0_4, .int .u16 a0_5, .int .u32 a0_6, .int .u32 a0_7, (.slice A0_8 l0_8.length c0_8), (.slice A0_9 l0_9.length c0_9)] 30 (0, 0))) ∧ Aside0 (Below w.heap.size w wc))
  case first =>
   have H := HC5.out
   clear HC5
   by_cases c8 : (l0_9.length : Int) > 3000
   ·rw [if_pos c8] at H
    have c8b0 : decide (3000 < (l0_9.length : Int)) = true := decide_eq_true c8
    have c8b1 : decide (3000 < l0_9.length) = true := decide_eq_true (by omega)
    clear c8
    (first | rw [c8b0] | (simp only [i64_w, i32_w]; rw [c8b0]) | skip)
    have H' := Aside0.mk H
    clear H
    have hcz9_0 : w7.cell? ⟨gb396, 0, none⟩ = some (.int .u8 a0_0) := (blk_cell BK396.out 0).trans rfl
    have hcz9_1 : w7.cell? ⟨gb396, 1, none⟩ = some (.int .u8 a0_1) := (blk_cell BK396.out 1).trans rfl
    have hcz9_2 : w7.cell? ⟨gb396, 2, none⟩ = some (.int .u8 a0_2) := (blk_cell BK396.out 2).trans rfl
    have hcz9_3 : w7.cell? ⟨gb396, 3, none⟩ = some (.int .u16 a0_3) := (blk_cell BK396.out 3).trans rfl
    have hcz9_4 : w7.cell? ⟨gb396, 4, none⟩ = some (.int .u8 a0_4) := (blk_cell BK396.out 4).trans rfl
    have hcz9_5 : w7.cell? ⟨gb396, 5, none⟩ = some (.int .u16 a0_5) := (blk_cell BK396.out 5).trans rfl
    have hcz9_6 : w7.cell? ⟨gb396, 6, none⟩ = some (.int .u32 a0_6) := (blk_cell BK396.out 6).trans rfl
    have hcz9_7 : w7.cell? ⟨gb396, 7, none⟩ = some (.int .u32 a0_7) := (blk_cell BK396.out 7).trans rfl
    have hcz9_8 : w7.cell? ⟨gb396, 8, none⟩ = some (.slice A0_8 l0_8.length c0_8) := (blk_cell BK396.out 8).trans rfl
    have hcz9_9 : w7.cell? ⟨gb396, 9, none⟩ = some (.slice A0_9 l0_9.length c0_9) := (blk_cell BK396.out 9).trans rfl
    have hfz9_0 := blk_frozen BK396.out 0
    have hfz9_1 := blk_frozen BK396.out 1
    have hfz9_2 := blk_frozen BK396.out 2
    have hfz9_3 := blk_frozen BK396.out 3
    have hfz9_4 := blk_frozen BK396.out 4
    have hfz9_5 := blk_frozen BK396.out 5
    have hfz9_6 := blk_frozen BK396.out 6
    have hfz9_7 := blk_frozen BK396.out 7
    have hfz9_8 := blk_frozen BK396.out 8
    have hfz9_9 := blk_frozen BK396.out 9
    go_wp2
    go_meet
    case rel => exact ⟨_, (true), (by first | rfl | (simp; done) | (simp [*]; done)), H', ⟨by first | omega | exact Nat.le_refl _⟩, ⟨by (with_reducible repeat (first | refine blk_drewN ?_ _ | refine blk_drew ?_ | refine blk_alloc ?_ _)); exact BK396.out⟩, ⟨by repeat (first | (with_reducible first | exact HB.out | apply below_alloc | apply pw_below_drewN | apply below_drew1 | refine below_set ?_ GE396.out) | exact HB.out)⟩⟩
   ·rw [if_neg c8] at H
    have c8b0 : decide (3000 < (l0_9.length : Int)) = false := decide_eq_false c8
    have c8b1 : decide (3000 < l0_9.length) = false := decide_eq_false (by omega)
    clear c8
    (first | rw [c8b0] | (simp only [i64_w, i32_w]; rw [c8b0]) | skip)
    by_cases c10 : (l0_8.length : Int) > 200
    ·rw [if_pos c10] at H
     have c10b0 : decide (200 < (l0_8.length : Int)) = true := decide_eq_true c10
     have c10b1 : decide (200 < l0_8.length) = true := decide_eq_true (by omega)
     clear c10
     have H' := Aside0.mk H
     clear H
     have hcz11_0 : w7.cell? ⟨gb396, 0, none⟩ = some (.int .u8 a0_0) := (blk_cell BK396.out 0).trans rfl
     have hcz11_1 : w7.cell? ⟨gb396, 1, none⟩ = some (.int .u8 a0_1) := (blk_cell BK396.out 1).trans rfl
     have hcz11_2 : w7.cell? ⟨gb396, 2, none⟩ = some (.int .u8 a0_2) := (blk_cell BK396.out 2).trans rfl
     have hcz11_3 : w7.cell? ⟨gb396, 3, none⟩ = some (.int .u16 a0_3) := (blk_cell BK396.out 3).trans rfl
     have hcz11_4 : w7.cell? ⟨gb396, 4, none⟩ = some (.int .u8 a0_4) := (blk_cell BK396.out 4).trans rfl
     have hcz11_5 : w7.cell? ⟨gb396, 5, none⟩ = some (.int .u16 a0_5) := (blk_cell BK396.out 5).trans rfl
     have hcz11_6 : w7.cell? ⟨gb396, 6, none⟩ = some (.int .u32 a0_6) := (blk_cell BK396.out 6).trans rfl
     have hcz11_7 : w7.cell? ⟨gb396, 7, none⟩ = some (.int .u32 a0_7) := (blk_cell BK396.out 7).trans rfl
     have hcz11_8 : w7.cell? ⟨gb396, 8, none⟩ = some (.slice A0_8 l0_8.length c0_8) := (blk_cell BK396.out 8).trans rfl
     have hcz11_9 : w7.cell? ⟨gb396, 9, none⟩ = some (.slice A0_9 l0_9.length c0_9) := (blk_cell BK396.out 9).trans rfl
     have hfz11_0 := blk_frozen BK396.out 0
     have hfz11_1 := blk_frozen BK396.out 1
     have hfz11_2 := blk_frozen BK396.out 2
     have hfz11_3 := blk_frozen BK396.out 3
     have hfz11_4 := blk_frozen BK396.out 4
     have hfz11_5 := blk_frozen BK396.out 5
     have hfz11_6 := blk_frozen BK396.out 6
     have hfz11_7 := blk_frozen BK396.out 7
     have hfz11_8 := blk_frozen BK396.out 8
     have hfz11_9 := blk_frozen BK396.out 9
     go_wp2
     go_meet
     case rel => exact ⟨_, (true), (by first | rfl | (simp; done) | (simp [*]; done)), H', ⟨by first | omega | exact Nat.le_refl _⟩, ⟨by (with_reducible repeat (first | refine blk_drewN ?_ _ | refine blk_drew ?_ | refine blk_alloc ?_ _)); exact BK396.out⟩, ⟨by repeat (first | (with_reducible first | exact HB.out | apply below_alloc | apply pw_below_drewN | apply below_drew1 | refine below_set ?_ GE396.out) | exact HB.out)⟩⟩
    ·rw [if_neg c10] at H
     have c10b0 : decide (200 < (l0_8.length : Int)) = false := decide_eq_false c10
     have c10b1 : decide (200 < l0_8.length) = false := decide_eq_false (by omega)
     clear c10
     have H' := Aside0.mk H
     clear H
     have hcz12_0 : w7.cell? ⟨gb396, 0, none⟩ = some (.int .u8 a0_0) := (blk_cell BK396.out 0).trans rfl
     have hcz12_1 : w7.cell? ⟨gb396, 1, none⟩ = some (.int .u8 a0_1) := (blk_cell BK396.out 1).trans rfl
     have hcz12_2 : w7.cell? ⟨gb396, 2, none⟩ = some (.int .u8 a0_2) := (blk_cell BK396.out 2).trans rfl
     have hcz12_3 : w7.cell? ⟨gb396, 3, none⟩ = some (.int .u16 a0_3) := (blk_cell BK396.out 3).trans rfl
     have hcz12_4 : w7.cell? ⟨gb396, 4, none⟩ = some (.int .u8 a0_4) := (blk_cell BK396.out 4).trans rfl
     have hcz12_5 : w7.cell? ⟨gb396, 5, none⟩ = some (.int .u16 a0_5) := (blk_cell BK396.out 5).trans rfl
     have hcz12_6 : w7.cell? ⟨gb396, 6, none⟩ = some (.int .u32 a0_6) := (blk_cell BK396.out 6).trans rfl
     have hcz12_7 : w7.cell? ⟨gb396, 7, none⟩ = some (.int .u32 a0_7) := (blk_cell BK396.out 7).trans rfl
     have hcz12_8 : w7.cell? ⟨gb396, 8, none⟩ = some (.slice A0_8 l0_8.length c0_8) := (blk_cell BK396.out 8).trans rfl
     have hcz12_9 : w7.cell? ⟨gb396, 9, none⟩ = some (.slice A0_9 l0_9.length c0_9) := (blk_cell BK396.out 9).trans rfl
     have hfz12_0 := blk_frozen BK396.out 0
     have hfz12_1 := blk_frozen BK396.out 1
     have hfz12_2 := blk_frozen BK396.out 2
     have hfz12_3 := blk_frozen BK396.out 3
     have hfz12_4 := blk_frozen BK396.out 4
     have hfz12_5 := blk_frozen BK396.out 5
     have hfz12_6 := blk_frozen BK396.out 6
     have hfz12_7 := blk_frozen BK396.out 7
     have hfz12_8 := blk_frozen BK396.out 8
     have hfz12_9 := blk_frozen BK396.out 9
     go_wp2
     go_meet
     case rel => exact ⟨_, (decide ((l1.length : Int) > 100)), (by first | rfl | (simp; done) | (simp [*]; done)), H', ⟨by first | omega | exact Nat.le_refl _⟩, ⟨by (with_reducible repeat (first | refine blk_drewN ?_ _ | refine blk_drew ?_ | refine blk_alloc ?_ _)); exact BK396.out⟩, ⟨by repeat (first | (with_reducible first | exact HB.out | apply below_alloc | apply pw_below_drewN | apply below_drew1 | refine below_set ?_ GE396.out) | exact HB.out)⟩⟩
  case rest =>
   clear HC5
   try clear c1
   try clear p2
   try clear c4
   try clear c8
   try clear c8b0
   try clear c8b1
   try clear c9
   try clear c10
   try clear c10b0
   try clear c10b1
   try clear hcz11_0
   try clear hcz11_1
   try clear hcz11_2
   try clear hcz11_3
   try clear hcz11_4
   try clear hcz11_5
   try clear hcz11_6
   try clear hcz11_7
   try clear hcz11_8
   try clear hcz11_9
   try clear hcz12_0
   try clear hcz12_1
   try clear hcz12_2
   try clear hcz12_3
   try clear hcz12_4
   try clear hcz12_5
   try clear hcz12_6
   try clear hcz12_7
   try clear hcz12_8
   try clear hcz12_9
   try clear hcz9_0
   try clear hcz9_1
   try clear hcz9_2
   try clear hcz9_3
   try clear hcz9_4
   try clear hcz9_5
   try clear hcz9_6
   try clear hcz9_7
   try clear hcz9_8
   try clear hcz9_9
   try clear hfz11_0
   try clear hfz11_1
   try clear hfz11_2
   try clear hfz11_3
   try clear hfz11_4
   try clear hfz11_5
   try clear hfz11_6
   try clear hfz11_7
   try clear hfz11_8
   try clear hfz11_9
   try clear hfz12_0
   try clear hfz12_1
   try clear hfz12_2
   try clear hfz12_3
   try clear hfz12_4
   try clear hfz12_5
   try clear hfz12_6
   try clear hfz12_7
   try clear hfz12_8
   try clear hfz12_9
   try clear hfz9_0
   try clear hfz9_1
   try clear hfz9_2
   try clear hfz9_3
   try clear hfz9_4
   try clear hfz9_5
   try clear hfz9_6
   try clear hfz9_7
   try clear hfz9_8
   try clear hfz9_9
   obtain ⟨kq, x27_4, rfl, HA, HJ4, BK396, HB⟩ := hcut
   cases kq with
   | zero => exact absurd HA.out (by simp [lychlaw3_IpBack.j0])
   | succ kj4 =>
    have H := HA.out
    clear HA
    simp only [lychlaw3_IpBack.j0] at H
    by_cases c13 : x27_4 = true
    ·subst c13
     have H1 : (some true) = some r := by rw [if_pos rfl] at H; exact H
     clear H
     have H := H1
     clear H1
     obtain rfl := Option.some.inj H
     go_wp2
     go_ret
     exact ⟨by first | rfl | (simp [errW_none, errW_some] <;> rfl) | (simp [*, errW_none, errW_some] <;> rfl), by repeat (first | (with_reducible first | exact HB.out | apply below_alloc | apply pw_below_drewN | apply below_drew1 | refine below_set ?_ GE396.out) | exact HB.out)⟩
    ·replace c13 := Bool.eq_false_iff.mpr c13
     subst c13
     have H1 : ((ip_Bytes.f kj4 a0_0 a0_1 a0_2 a0_3 a0_4 a0_5 a0_6 a0_7 l0_8 l0_9).bind fun bt398 => ((lychref1_IpBytes.f kj4 a0_0 a0_1 a0_2 a0_3 a0_4 a0_5 a0_6 a0_7 l0_8 l0_9).bind fun bt402 => (if bt398.2 = bt402.2 then ((lychhelp_Bytes.f bt398.1 bt402.1).bind fun t406 => (lychlaw3_IpBack.j1 kj4 l1 bt398.1 bt402.2 (!t406) a0_0 a0_1 a0_2 a0_3 a0_4 a0_5 a0_6 a0_7 l0_8 l0_9)) else (lychlaw3_IpBack.j1 kj4 l1 bt398.1 bt402.2 true a0_0 a0_1 a0_2 a0_3 a0_4 a0_5 a0_6 a0_7 l0_8 l0_9)))) = some r := by rw [if_neg (show ¬ (false = true) by decide)] at H; exact H
     clear H
     have H := H1
     clear H1
     replace H := Option.bind_eq_some_iff.mp H
     obtain ⟨⟨t398, t401⟩, A140, H⟩ := H
     replace H : ((lychref1_IpBytes.f kj4 a0_0 a0_1 a0_2 a0_3 a0_4 a0_5 a0_6 a0_7 l0_8 l0_9).bind fun bt402 => (if t401 = bt402.2 then ((lychhelp_Bytes.f t398 bt402.1).bind fun t406 => (lychlaw3_IpBack.j1 kj4 l1 t398 bt402.2 (!t406) a0_0 a0_1 a0_2 a0_3 a0_4 a0_5 a0_6 a0_7 l0_8 l0_9)) else (lychlaw3_IpBack.j1 kj4 l1 t398 bt402.2 true a0_0 a0_1 a0_2 a0_3 a0_4 a0_5 a0_6 a0_7 l0_8 l0_9))) = some r := H
     have A14 := Aside0.mk A140
     clear A140
     replace H := Option.bind_eq_some_iff.mp H
     obtain ⟨⟨t402, t405⟩, A150, H⟩ := H
     replace H : (if t401 = t405 then ((lychhelp_Bytes.f t398 t402).bind fun t406 => (lychlaw3_IpBack.j1 kj4 l1 t398 t405 (!t406) a0_0 a0_1 a0_2 a0_3 a0_4 a0_5 a0_6 a0_7 l0_8 l0_9)) else (lychlaw3_IpBack.j1 kj4 l1 t398 t405 true a0_0 a0_1 a0_2 a0_3 a0_4 a0_5 a0_6 a0_7 l0_8 l0_9)) = some r := H
     have A15 := Aside0.mk A150
     clear A150
     have HC16 := Aside0.mk H
     clear H
     have hcz17_0 : wc.cell? ⟨gb396, 0, none⟩ = some (.int .u8 a0_0) := (blk_cell BK396.out 0).trans rfl
     have hcz17_1 : wc.cell? ⟨gb396, 1, none⟩ = some (.int .u8 a0_1) := (blk_cell BK396.out 1).trans rfl
     have hcz17_2 : wc.cell? ⟨gb396, 2, none⟩ = some (.int .u8 a0_2) := (blk_cell BK396.out 2).trans rfl
     have hcz17_3 : wc.cell? ⟨gb396, 3, none⟩ = some (.int .u16 a0_3) := (blk_cell BK396.out 3).trans rfl
     have hcz17_4 : wc.cell? ⟨gb396, 4, none⟩ = some (.int .u8 a0_4) := (blk_cell BK396.out 4).trans rfl
     have hcz17_5 : wc.cell? ⟨gb396, 5, none⟩ = some (.int .u16 a0_5) := (blk_cell BK396.out 5).trans rfl
     have hcz17_6 : wc.cell? ⟨gb396, 6, none⟩ = some (.int .u32 a0_6) := (blk_cell BK396.out 6).trans rfl
     have hcz17_7 : wc.cell? ⟨gb396, 7, none⟩ = some (.int .u32 a0_7) := (blk_cell BK396.out 7).trans rfl
     have hcz17_8 : wc.cell? ⟨gb396, 8, none⟩ = some (.slice A0_8 l0_8.length c0_8) := (blk_cell BK396.out 8).trans rfl
     have hcz17_9 : wc.cell? ⟨gb396, 9, none⟩ = some (.slice A0_9 l0_9.length c0_9) := (blk_cell BK396.out 9).trans rfl
     have hfz17_0 := blk_frozen BK396.out 0
     have hfz17_1 := blk_frozen BK396.out 1
     have hfz17_2 := blk_frozen BK396.out 2
     have hfz17_3 := blk_frozen BK396.out 3
     have hfz17_4 := blk_frozen BK396.out 4
     have hfz17_5 := blk_frozen BK396.out 5
     have hfz17_6 := blk_frozen BK396.out 6
     have hfz17_7 := blk_frozen BK396.out 7
     have hfz17_8 := blk_frozen BK396.out 8
     have hfz17_9 := blk_frozen BK396.out 9
     go_upto_region 7 with (first | ((with_reducible refine gate_callee (f := 15) rfl ?_); refine goesL_ (some 30) rfl rfl Try.func15 (by kernel_rfl) rfl #[.agg #[.int .u8 a0_0, .int .u8 a0_1, .int .u8 a0_2, .int .u16 a0_3, .int .u8 a0_4, .int .u16 a0_5, .int .u32 a0_6, .int .u32 a0_7, .slice A0_8 l0_8.length c0_8, .slice A0_9 l0_9.length c0_9]] rfl (by (try simp only [List.map_toArray, List.map_cons, List.map_nil]); first | done | rfl | (simp only [List.length_drop, List.length_take]; rfl) | (go_simp; done) | (simp [Act.eval, IntKind.signed]; done) | (simp [Act.eval, IntKind.signed]; rfl)) ?_; (with_reducible refine (ip_Bytes.calls kj4 a0_0 a0_1 a0_2 a0_3 a0_4 a0_5 a0_6 a0_7 _ _ l0_8 _ _ l0_9 t398 t401 _ ?side1 ?side2 ?side3 ?side4 A14.out).mono ?_); (case side1 => repeat (first | exact (Kd.C_below HR0_8.out HB.out) | (with_reducible refine Kd.C_alloc ?_ _) | (with_reducible refine Kd.C_drewN ?_ _) | (with_reducible refine Kd.C_drew ?_))); (case side2 => exact HC0_8.out); (case side3 => repeat (first | exact (Kd.C_below HR0_9.out HB.out) | (with_reducible refine Kd.C_alloc ?_ _) | (with_reducible refine Kd.C_drewN ?_ _) | (with_reducible refine Kd.C_drew ?_))); (case side4 => exact HC0_9.out); rintro e w18 ⟨v399, rfl, ho0, hb⟩; refine ⟨_, rfl, ?_⟩; have n0_ := Aside0.mk (Kd.R_lower ho0 (below_size (by repeat (first | (with_reducible first | exact HB.out | apply below_alloc | apply pw_below_drewN | apply below_drew1 | refine below_set ?_ GE396.out) | exact HB.out)))); have n1_ := Aside0.mk (blk_below (g := gb396) (o := .cells #[.int .u8 a0_0, .int .u8 a0_1, .int .u8 a0_2, .int .u16 a0_3, .int .u8 a0_4, .int .u16 a0_5, .int .u32 a0_6, .int .u32 a0_7, .slice A0_8 l0_8.length c0_8, .slice A0_9 l0_9.length c0_9] 30 (0, 0)) (by (with_reducible repeat (first | refine blk_drewN ?_ _ | refine blk_drew ?_ | refine blk_alloc ?_ _)); exact BK396.out) hb); have n2_ := Aside0.mk (below_step (by repeat (first | (with_reducible first | exact HB.out | apply below_alloc | apply pw_below_drewN | apply below_drew1 | refine below_set ?_ GE396.out) | exact HB.out)) hb); clear BK396; clear HB; have HO400 := n0_; have BK396 := n1_; have HB := n2_; clear n0_ n1_ n2_; (try clear hb); (try clear hb2); (try clear hk); (try clear hi); (try clear ho0); have hcz19_0 : w18.cell? ⟨gb396, 0, none⟩ = some (.int .u8 a0_0) := (blk_cell BK396.out 0).trans rfl; have hcz19_1 : w18.cell? ⟨gb396, 1, none⟩ = some (.int .u8 a0_1) := (blk_cell BK396.out 1).trans rfl; have hcz19_2 : w18.cell? ⟨gb396, 2, none⟩ = some (.int .u8 a0_2) := (blk_cell BK396.out 2).trans rfl; have hcz19_3 : w18.cell? ⟨gb396, 3, none⟩ = some (.int .u16 a0_3) := (blk_cell BK396.out 3).trans rfl; have hcz19_4 : w18.cell? ⟨gb396, 4, none⟩ = some (.int .u8 a0_4) := (blk_cell BK396.out 4).trans rfl; have hcz19_5 : w18.cell? ⟨gb396, 5, none⟩ = some (.int .u16 a0_5) := (blk_cell BK396.out 5).trans rfl; have hcz19_6 : w18.cell? ⟨gb396, 6, none⟩ = some (.int .u32 a0_6) := (blk_cell BK396.out 6).trans rfl; have hcz19_7 : w18.cell? ⟨gb396, 7, none⟩ = some (.int .u32 a0_7) := (blk_cell BK396.out 7).trans rfl; have hcz19_8 : w18.cell? ⟨gb396, 8, none⟩ = some (.slice A0_8 l0_8.length c0_8) := (blk_cell BK396.out 8).trans rfl; have hcz19_9 : w18.cell? ⟨gb396, 9, none⟩ = some (.slice A0_9 l0_9.length c0_9) := (blk_cell BK396.out 9).trans rfl; have hfz19_0 := blk_frozen BK396.out 0; have hfz19_1 := blk_frozen BK396.out 1; have hfz19_2 := blk_frozen BK396.out 2; have hfz19_3 := blk_frozen BK396.out 3; have hfz19_4 := blk_frozen BK396.out 4; have hfz19_5 := blk_frozen BK396.out 5; have hfz19_6 := blk_frozen BK396.out 6; have hfz19_7 := blk_frozen BK396.out 7; have hfz19_8 := blk_frozen BK396.out 8; have hfz19_9 := blk_frozen BK396.out 9) | ((with_reducible refine gate_callee (f := 16) rfl ?_); refine goesL_ (some 35) rfl rfl Try.func16 (by kernel_rfl) rfl #[.agg #[.int .u8 a0_0, .int .u8 a0_1, .int .u8 a0_2, .int .u16 a0_3, .int .u8 a0_4, .int .u16 a0_5, .int .u32 a0_6, .int .u32 a0_7, .slice A0_8 l0_8.length c0_8, .slice A0_9 l0_9.length c0_9]] rfl (by (try simp only [List.map_toArray, List.map_cons, List.map_nil]); first | done | rfl | (simp only [List.length_drop, List.length_take]; rfl) | (go_simp; done) | (simp [Act.eval, IntKind.signed]; done) | (simp [Act.eval, IntKind.signed]; rfl)) ?_; (with_reducible refine (lychref1_IpBytes.calls kj4 a0_0 a0_1 a0_2 a0_3 a0_4 a0_5 a0_6 a0_7 _ _ l0_8 _ _ l0_9 t402 t405 _ ?side1 ?side2 ?side3 ?side4 A15.out).mono ?_); (case side1 => repeat (first | exact (Kd.C_below HR0_8.out HB.out) | (with_reducible refine Kd.C_alloc ?_ _) | (with_reducible refine Kd.C_drewN ?_ _) | (with_reducible refine Kd.C_drew ?_))); (case side2 => exact HC0_8.out); (case side3 => repeat (first | exact (Kd.C_below HR0_9.out HB.out) | (with_reducible refine Kd.C_alloc ?_ _) | (with_reducible refine Kd.C_drewN ?_ _) | (with_reducible refine Kd.C_drew ?_))); (case side4 => exact HC0_9.out); rintro e w20 ⟨v403, rfl, ho0, hb⟩; refine ⟨_, rfl, ?_⟩; have n0_ := Aside0.mk (Kd.R_elder' (by (with_reducible repeat (first | apply Kd.R_alloc | apply Kd.R_drewN | apply Kd.R_drew)); exact HO400.out) (Kd.R_base ho0) hb); have n1_ := Aside0.mk (Kd.R_lower (Kd.R_new' ho0 (Kd.R_lt (by (with_reducible repeat (first | apply Kd.R_alloc | apply Kd.R_drewN | apply Kd.R_drew)); exact HO400.out))) (below_size (by repeat (first | (with_reducible first | exact HB.out | apply below_alloc | apply pw_below_drewN | apply below_drew1 | refine below_set ?_ GE396.out) | exact HB.out)))); have n2_ := Aside0.mk (blk_below (g := gb396) (o := .cells #[.int .u8 a0_0, .int .u8 a0_1, .int .u8 a0_2, .int .u16 a0_3, .int .u8 a0_4, .int .u16 a0_5, .int .u32 a0_6, .int .u32 a0_7, .slice A0_8 l0_8.length c0_8, .slice A0_9 l0_9.length c0_9] 30 (0, 0)) (by (with_reducible repeat (first | refine blk_drewN ?_ _ | refine blk_drew ?_ | refine blk_alloc ?_ _)); exact BK396.out) hb); have n3_ := Aside0.mk (below_step (by repeat (first | (with_reducible first | exact HB.out | apply below_alloc | apply pw_below_drewN | apply below_drew1 | refine below_set ?_ GE396.out) | exact HB.out)) hb); clear HO400; clear BK396; clear HB; have HO400 := n0_; have HO404 := n1_; have BK396 := n2_; have HB := n3_; clear n0_ n1_ n2_ n3_; (try clear hb); (try clear hb2); (try clear hk); (try clear hi); (try clear ho0)))
     (try simp only [Act.put, List.setIfInBounds_toArray, List.set_cons_zero, List.set_cons_succ])
     go_cut [46] (fun v46 wc => ∃ (kq : Nat) (x46_15 : Bool), v46 = .bool x46_15 ∧ Aside0 (lychlaw3_IpBack.j1 kq l1 t398 t405 x46_15 a0_0 a0_1 a0_2 a0_3 a0_4 a0_5 a0_6 a0_7 l0_8 l0_9 = some r) ∧ Aside0 (kq ≤ kj4) ∧ Aside0 (Kd.R (Kd.int .u8) 5 wc w.heap.size (fun _ => True) v399 t398) ∧ Aside0 (wc.heap[gb396]? = some (.cells #[.int .u8 a0_0, .int .u8 a0_1, .int .u8 a0_2, .int .u16 a0_3, .int .u8 a0_4, .int .u16 a0_5, .int .u32 a0_6, .int .u32 a0_7, (.slice A0_8 l0_8.length c0_8), (.slice A0_9 l0_9.length c0_9)] 30 (0, 0))) ∧ Aside0 (Below w.heap.size w wc))
     case first =>
      have H := HC16.out
      clear HC16
      by_cases c21 : t401 = t405
      ·rw [if_pos c21] at H
       have c21b0 : (t401 == t405) = true := beq_iff_eq.mpr c21
       have c21b1 : (t401 != t405) = false := bne_eq_false_iff_eq.mpr c21
       clear c21
       (first | rw [c21b0] | (simp only [i64_w, i32_w]; rw [c21b0]) | skip)
       replace H := Option.bind_eq_some_iff.mp H
       obtain ⟨t406, A220, H⟩ := H
       replace H : (lychlaw3_IpBack.j1 kj4 l1 t398 t405 (!t406) a0_0 a0_1 a0_2 a0_3 a0_4 a0_5 a0_6 a0_7 l0_8 l0_9) = some r := H
       have A22 := Aside0.mk A220
       clear A220
       have H' := Aside0.mk H
       clear H
       obtain ⟨Ao23, co23, eo23⟩ := Kd.R_slice HO400.out
       subst eo23
       obtain ⟨Ao24, co24, eo24⟩ := Kd.R_slice HO404.out
       subst eo24
       go_wp2_with (first | (go_at_call 17; (with_reducible refine (lychhelp_Bytes.calls _ _ t398 _ _ t402 t406 _ ?side1 ?side2 ?side3 ?side4 A22.out).mono ?_); (case side1 => repeat (first | exact (Kd.R_reads' HO400.out).2.2 | (with_reducible refine Kd.C_alloc ?_ _) | (with_reducible refine Kd.C_drewN ?_ _) | (with_reducible refine Kd.C_drew ?_))); (case side2 => exact (Kd.R_reads' HO400.out).2.1); (case side3 => repeat (first | exact (Kd.R_reads' HO404.out).2.2 | (with_reducible refine Kd.C_alloc ?_ _) | (with_reducible refine Kd.C_drewN ?_ _) | (with_reducible refine Kd.C_drew ?_))); (case side4 => exact (Kd.R_reads' HO404.out).2.1); rintro e w' ⟨rfl, ⟨nd, rfl⟩⟩))
       go_meet
       case rel => exact ⟨_, (!t406), (by first | rfl | (simp; done) | (simp [*]; done)), H', ⟨by have := HJ4.out; first | omega | exact Nat.le_refl _⟩, ⟨by (with_reducible repeat (first | apply Kd.R_alloc | apply Kd.R_drewN | apply Kd.R_drew)); exact Kd.R_mono HO400.out (fun _ hk => trivial)⟩, ⟨by (with_reducible repeat (first | refine blk_drewN ?_ _ | refine blk_drew ?_ | refine blk_alloc ?_ _)); exact BK396.out⟩, ⟨by repeat (first | (with_reducible first | exact HB.out | apply below_alloc | apply pw_below_drewN | apply below_drew1 | refine below_set ?_ GE396.out) | exact HB.out)⟩⟩
      ·rw [if_neg c21] at H
       have c21b0 : (t401 == t405) = false := beq_eq_false_iff_ne.mpr c21
       have c21b1 : (t401 != t405) = true := bne_iff_ne.mpr c21
       (first | rw [c21b0] | (simp only [i64_w, i32_w]; rw [c21b0]) | skip)
       have H' := Aside0.mk H
       clear H
       go_wp2
       go_meet
       case rel => exact ⟨_, (true), (by first | rfl | (simp; done) | (simp [*]; done)), H', ⟨by have := HJ4.out; first | omega | exact Nat.le_refl _⟩, ⟨by (with_reducible repeat (first | apply Kd.R_alloc | apply Kd.R_drewN | apply Kd.R_drew)); exact Kd.R_mono HO400.out (fun _ hk => trivial)⟩, ⟨by (with_reducible repeat (first | refine blk_drewN ?_ _ | refine blk_drew ?_ | refine blk_alloc ?_ _)); exact BK396.out⟩, ⟨by repeat (first | (with_reducible first | exact HB.out | apply below_alloc | apply pw_below_drewN | apply below_drew1 | refine below_set ?_ GE396.out) | exact HB.out)⟩⟩
     case rest =>
      clear HC16
      try clear c1
      try clear c2
      try clear p2
      try clear c4
      try clear c8
      try clear c8b0
      try clear c8b1
      try clear c9
      try clear c10
      try clear c10b0
      try clear c10b1
      try clear c13
      try clear c15
      try clear c16
      try clear c21
      try clear c21b0
      try clear c21b1
      try clear hcz11_0
      try clear hcz11_1
      try clear hcz11_2
      try clear hcz11_3
      try clear hcz11_4
      try clear hcz11_5
      try clear hcz11_6
      try clear hcz11_7
      try clear hcz11_8
      try clear hcz11_9
      try clear hcz12_0
      try clear hcz12_1
      try clear hcz12_2
      try clear hcz12_3
      try clear hcz12_4
      try clear hcz12_5
      try clear hcz12_6
      try clear hcz12_7
      try clear hcz12_8
      try clear hcz12_9
      try clear hcz17_0
      try clear hcz17_1
      try clear hcz17_2
      try clear hcz17_3
      try clear hcz17_4
      try clear hcz17_5
      try clear hcz17_6
      try clear hcz17_7
      try clear hcz17_8
      try clear hcz17_9
      try clear hcz19_0
      try clear hcz19_1
      try clear hcz19_2
      try clear hcz19_3
      try clear hcz19_4
      try clear hcz19_5
      try clear hcz19_6
      try clear hcz19_7
      try clear hcz19_8
      try clear hcz19_9
      try clear hcz9_0
      try clear hcz9_1
      try clear hcz9_2
      try clear hcz9_3
      try clear hcz9_4
      try clear hcz9_5
      try clear hcz9_6
      try clear hcz9_7
      try clear hcz9_8
      try clear hcz9_9
      try clear hfz11_0
      try clear hfz11_1
      try clear hfz11_2
      try clear hfz11_3
      try clear hfz11_4
      try clear hfz11_5
      try clear hfz11_6
      try clear hfz11_7
      try clear hfz11_8
      try clear hfz11_9
      try clear hfz12_0
      try clear hfz12_1
      try clear hfz12_2
      try clear hfz12_3
      try clear hfz12_4
      try clear hfz12_5
      try clear hfz12_6
      try clear hfz12_7
      try clear hfz12_8
      try clear hfz12_9
      try clear hfz17_0
      try clear hfz17_1
      try clear hfz17_2
      try clear hfz17_3
      try clear hfz17_4
      try clear hfz17_5
      try clear hfz17_6
      try clear hfz17_7
      try clear hfz17_8
      try clear hfz17_9
      try clear hfz19_0
      try clear hfz19_1
      try clear hfz19_2
      try clear hfz19_3
      try clear hfz19_4
      try clear hfz19_5
      try clear hfz19_6
      try clear hfz19_7
      try clear hfz19_8
      try clear hfz19_9
      try clear hfz9_0
      try clear hfz9_1
      try clear hfz9_2
      try clear hfz9_3
      try clear hfz9_4
      try clear hfz9_5
      try clear hfz9_6
      try clear hfz9_7
      try clear hfz9_8
      try clear hfz9_9
      try clear p2
      obtain ⟨kq, x46_15, rfl, HA, HJ15, HO_5, BK396, HB⟩ := hcut
      cases kq with
      | zero => exact absurd HA.out (by simp [lychlaw3_IpBack.j1])
      | succ kj15 =>
       have H := HA.out
       clear HA
       simp only [lychlaw3_IpBack.j1] at H
       by_cases c25 : x46_15 = true
       ·subst c25
        have H1 : (none) = some r := by rw [if_pos rfl] at H; exact H
        clear H
        have H := H1
        clear H1
        exact absurd H (by simp)
       ·replace c25 := Bool.eq_false_iff.mpr c25
        subst c25
        have H1 : (if t405 = 0 then (if t398.length + l1.length < 140737488355328 then ((ip_Parse.f kj15 (t398 ++ l1)).bind fun bt410 => (if bt410.2.2.2.2.2.2.2.2.2.2 = 0 then ((lychhelp_Ip.f bt410.1 bt410.2.1 bt410.2.2.1 bt410.2.2.2.1 bt410.2.2.2.2.1 bt410.2.2.2.2.2.1 bt410.2.2.2.2.2.2.1 bt410.2.2.2.2.2.2.2.1 bt410.2.2.2.2.2.2.2.2.1 bt410.2.2.2.2.2.2.2.2.2.1 a0_0 a0_1 a0_2 a0_3 a0_4 a0_5 a0_6 a0_7 l0_8 l0_9).bind fun t426 => (some t426)) else (none))) else (none)) else (some true)) = some r := by rw [if_neg (show ¬ (false = true) by decide)] at H; exact H
        clear H
        have H := H1
        clear H1
        by_cases c26 : t405 = 0
        ·rw [if_pos c26] at H
         have c26b0 : (t405 == 0) = true := beq_iff_eq.mpr c26
         have c26b1 : (t405 != 0) = false := bne_eq_false_iff_eq.mpr c26
         clear c26
         by_cases c27 : t398.length + l1.length < 140737488355328
         ·rw [if_pos c27] at H
          have LMc27 := Aside0.mk c27
          clear c27
          obtain ⟨y407, hy407⟩ : ∃ y_ : List Int, y_ = (t398 ++ l1) := ⟨_, rfl⟩
          replace H : ((ip_Parse.f kj15 y407).bind fun bt410 => (if bt410.2.2.2.2.2.2.2.2.2.2 = 0 then ((lychhelp_Ip.f bt410.1 bt410.2.1 bt410.2.2.1 bt410.2.2.2.1 bt410.2.2.2.2.1 bt410.2.2.2.2.2.1 bt410.2.2.2.2.2.2.1 bt410.2.2.2.2.2.2.2.1 bt410.2.2.2.2.2.2.2.2.1 bt410.2.2.2.2.2.2.2.2.2.1 a0_0 a0_1 a0_2 a0_3 a0_4 a0_5 a0_6 a0_7 l0_8 l0_9).bind fun t426 => (some t426)) else (none))) = some r := by first | (rw [hy407]; with_reducible exact H) | (have H2_ := (Option.bind_some _ _).symm.trans H; rw [hy407]; with_reducible exact H2_) | (have H2_ := (Option.bind_some _ _).symm.trans H; with_reducible exact H2_) | with_reducible exact H | (rw [hy407]; exact H) | exact H
          have Ny407 := Aside0.mk hy407
          clear hy407
          replace H := Option.bind_eq_some_iff.mp H
          obtain ⟨⟨t410, t411, t412, t413, t414, t415, t416, t417, t418, t421, t424⟩, A280, H⟩ := H
          replace H : (if t424 = 0 then ((lychhelp_Ip.f t410 t411 t412 t413 t414 t415 t416 t417 t418 t421 a0_0 a0_1 a0_2 a0_3 a0_4 a0_5 a0_6 a0_7 l0_8 l0_9).bind fun t426 => (some t426)) else (none)) = some r := H
          have A28 := Aside0.mk A280
          clear A280
          by_cases c29 : t424 = 0
          ·rw [if_pos c29] at H
           have c29b0 : (t424 == 0) = true := beq_iff_eq.mpr c29
           have c29b1 : (t424 != 0) = false := bne_eq_false_iff_eq.mpr c29
           clear c29
           replace H := Option.bind_eq_some_iff.mp H
           obtain ⟨t426, A300, H⟩ := H
           replace H : (some t426) = some r := H
           have A30 := Aside0.mk A300
           clear A300
           obtain rfl := Option.some.inj H
           go_wp2_with (first | ((with_reducible refine gate_builtin (b := .append) (xs := #[.tmp 50, .tmp 51]) rfl ?_); (try (refine gate_guard (by rfl) ?_; dsimp only)); at_builtin; refine Kd.R_append_rows (Kd.int .u8) (w0 := w) w.heap.size rfl (.tmp 50) (.tmp 51) 22 5 (.int .u8 0) 1 rfl Try.underlying22 info5 rfl (by decide) (by omega) v399 t398 l1 _ _ _ (fun _ => True) (fun _ => False) rfl rfl ?aO ?aR (fun _ _ h => h) (fun _ h => h.elim) ?aF ?aB ?aS ?aL ?_; (case aR => repeat (first | exact (Kd.C_below HR1.out HB.out) | (with_reducible refine Kd.C_alloc ?_ _) | (with_reducible refine Kd.C_drewN ?_ _) | (with_reducible refine Kd.C_drew ?_))); (case aB => exact (by repeat (first | (with_reducible first | exact HB.out | apply below_alloc | apply pw_below_drewN | apply below_drew1 | refine below_set ?_ GE396.out) | exact HB.out))); (case aF => exact (fun _ _ => trivial)); (case aO => exact (by (with_reducible repeat (first | apply Kd.R_alloc | apply Kd.R_drewN | apply Kd.R_drew)); exact HO_5.out)); (case aS => exact (below_size (by repeat (first | (with_reducible first | exact HB.out | apply below_alloc | apply pw_below_drewN | apply below_drew1 | refine below_set ?_ GE396.out) | exact HB.out)))); (case aL => have := LMc27.out; omega); intro v408 w31 ho hb hg hat; rw [← Ny407.out] at ho; have n0_ := Aside0.mk (blk_grown (g := gb396) (o := .cells #[.int .u8 a0_0, .int .u8 a0_1, .int .u8 a0_2, .int .u16 a0_3, .int .u8 a0_4, .int .u16 a0_5, .int .u32 a0_6, .int .u32 a0_7, .slice A0_8 l0_8.length c0_8, .slice A0_9 l0_9.length c0_9] 30 (0, 0)) (by (with_reducible repeat (first | refine blk_drewN ?_ _ | refine blk_drew ?_ | refine blk_alloc ?_ _)); exact BK396.out) hg (Kd.R_ne HO_5.out BK396.out (by decide))); have n1_ := Aside0.mk (hb); have n2_ := Aside0.mk (ho); clear BK396; clear HB; clear HO_5; have BK396 := n0_; have HB := n1_; have HO409 := n2_; clear n0_ n1_ n2_; clear ho hb hg hat; obtain ⟨Ao32, co32, eo32⟩ := Kd.R_slice HO409.out; subst eo32) | ((with_reducible refine gate_callee (f := 12) rfl ?_); refine goesL_ (some 53) rfl rfl Try.func12 (by kernel_rfl) rfl #[.slice Ao32 y407.length co32] rfl (by (try simp only [List.map_toArray, List.map_cons, List.map_nil]); first | done | rfl | (simp only [List.length_drop, List.length_take]; rfl) | (go_simp; done) | (simp [Act.eval, IntKind.signed]; done) | (simp [Act.eval, IntKind.signed]; rfl)) ?_; (with_reducible refine (ip_Parse.calls kj15 _ _ y407 t410 t411 t412 t413 t414 t415 t416 t417 t418 t421 t424 _ ?side1 ?side2 A28.out).mono ?_); (case side1 => repeat (first | exact (Kd.R_reads' HO409.out).2.2 | (with_reducible refine Kd.C_alloc ?_ _) | (with_reducible refine Kd.C_drewN ?_ _) | (with_reducible refine Kd.C_drew ?_))); (case side2 => exact (Kd.R_reads' HO409.out).2.1); rintro e w33 ⟨v419, v422, rfl, ho0, ho1, hb⟩; refine ⟨_, rfl, ?_⟩; have n0_ := Aside0.mk (Kd.R_mono (Kd.R_told (Kd.R_told (Kd.R_old (by (with_reducible repeat (first | apply Kd.R_alloc | apply Kd.R_drewN | apply Kd.R_drew)); exact HO409.out) hb) (Kd.R_base ho0)) (Kd.R_base ho1)) (fun _ h_ => h_.1)); have n1_ := Aside0.mk (Kd.R_lower (Kd.R_new' ho0 (Kd.R_lt (by (with_reducible repeat (first | apply Kd.R_alloc | apply Kd.R_drewN | apply Kd.R_drew)); exact HO409.out))) (below_size (by repeat (first | (with_reducible first | exact HB.out | apply below_alloc | apply pw_below_drewN | apply below_drew1 | refine below_set ?_ GE396.out) | exact HB.out)))); have n2_ := Aside0.mk (Kd.R_lower (Kd.R_new' ho1 (Kd.R_lt (by (with_reducible repeat (first | apply Kd.R_alloc | apply Kd.R_drewN | apply Kd.R_drew)); exact HO409.out))) (below_size (by repeat (first | (with_reducible first | exact HB.out | apply below_alloc | apply pw_below_drewN | apply below_drew1 | refine below_set ?_ GE396.out) | exact HB.out)))); have n3_ := Aside0.mk (blk_below (g := gb396) (o := .cells #[.int .u8 a0_0, .int .u8 a0_1, .int .u8 a0_2, .int .u16 a0_3, .int .u8 a0_4, .int .u16 a0_5, .int .u32 a0_6, .int .u32 a0_7, .slice A0_8 l0_8.length c0_8, .slice A0_9 l0_9.length c0_9] 30 (0, 0)) (by (with_reducible repeat (first | refine blk_drewN ?_ _ | refine blk_drew ?_ | refine blk_alloc ?_ _)); exact BK396.out) hb); have n4_ := Aside0.mk (below_step (by repeat (first | (with_reducible first | exact HB.out | apply below_alloc | apply pw_below_drewN | apply below_drew1 | refine below_set ?_ GE396.out) | exact HB.out)) hb); clear HO409; clear BK396; clear HB; have HO409 := n0_; have HO420 := n1_; have HO423 := n2_; have BK396 := n3_; have HB := n4_; clear n0_ n1_ n2_ n3_ n4_; (try clear hb); (try clear hb2); (try clear hk); (try clear hi); (try clear ho0); (try clear ho1)) | ((with_reducible refine gate_dst (N := 9) rfl ?_); (try (refine gate_guard (by rfl) ?_; dsimp only)); refine box_event ?hg (N := 9) ?hd (cs := #[.int .u8 0, .int .u8 0, .int .u8 0, .int .u16 0, .int .u8 0, .int .u16 0, .int .u32 0, .int .u32 0, .slice none 0 0, .slice none 0 0]) (t := 30) ?hr ?_; (case hd => rfl); (case hg => rfl); (case hr => first | (go_simp; done) | (go_simp; rfl)); intro gb425 hg w34 hbox hb; have n0_ := Aside0.mk (Kd.R_below (by (with_reducible repeat (first | apply Kd.R_alloc | apply Kd.R_drewN | apply Kd.R_drew)); exact HO409.out) hb); have n1_ := Aside0.mk (Kd.R_below (by (with_reducible repeat (first | apply Kd.R_alloc | apply Kd.R_drewN | apply Kd.R_drew)); exact HO420.out) hb); have n2_ := Aside0.mk (Kd.R_below (by (with_reducible repeat (first | apply Kd.R_alloc | apply Kd.R_drewN | apply Kd.R_drew)); exact HO423.out) hb); have n3_ := Aside0.mk (blk_below (g := gb396) (o := .cells #[.int .u8 a0_0, .int .u8 a0_1, .int .u8 a0_2, .int .u16 a0_3, .int .u8 a0_4, .int .u16 a0_5, .int .u32 a0_6, .int .u32 a0_7, .slice A0_8 l0_8.length c0_8, .slice A0_9 l0_9.length c0_9] 30 (0, 0)) (by (with_reducible repeat (first | refine blk_drewN ?_ _ | refine blk_drew ?_ | refine blk_alloc ?_ _)); exact BK396.out) hb); have n4_ := Aside0.mk (below_step (by repeat (first | (with_reducible first | exact HB.out | apply below_alloc | apply pw_below_drewN | apply below_drew1 | refine below_set ?_ GE396.out) | exact HB.out)) hb); have n5_ := Aside0.mk (hbox); have n6_ := Aside0.mk ((by rw [hg]; exact (below_size (by repeat (first | (with_reducible first | exact HB.out | apply below_alloc | apply pw_below_drewN | apply below_drew1 | refine below_set ?_ GE396.out) | exact HB.out))) : w.heap.size ≤ gb425)); have n7_ := Aside0.mk ((by rw [hg]; exact (below_size (by repeat (first | (with_reducible first | exact HB.out | apply below_alloc | apply pw_below_drewN | apply below_drew1 | refine below_set ?_ GE396.out) | exact HB.out))) : w.heap.size ≤ gb425)); have n8_ := Aside0.mk ((by rw [hg]; exact Nat.ne_of_lt (blk_lt (g := gb396) (o := .cells #[.int .u8 a0_0, .int .u8 a0_1, .int .u8 a0_2, .int .u16 a0_3, .int .u8 a0_4, .int .u16 a0_5, .int .u32 a0_6, .int .u32 a0_7, .slice A0_8 l0_8.length c0_8, .slice A0_9 l0_9.length c0_9] 30 (0, 0)) (by (with_reducible repeat (first | refine blk_drewN ?_ _ | refine blk_drew ?_ | refine blk_alloc ?_ _)); exact BK396.out)) : gb396 ≠ gb425)); have n9_ := Aside0.mk ((by rw [hg]; exact Nat.ne_of_gt (blk_lt (g := gb396) (o := .cells #[.int .u8 a0_0, .int .u8 a0_1, .int .u8 a0_2, .int .u16 a0_3, .int .u8 a0_4, .int .u16 a0_5, .int .u32 a0_6, .int .u32 a0_7, .slice A0_8 l0_8.length c0_8, .slice A0_9 l0_9.length c0_9] 30 (0, 0)) (by (with_reducible repeat (first | refine blk_drewN ?_ _ | refine blk_drew ?_ | refine blk_alloc ?_ _)); exact BK396.out)) : gb425 ≠ gb396)); clear HO409; clear HO420; clear HO423; clear BK396; clear HB; have HO409 := n0_; have HO420 := n1_; have HO423 := n2_; have BK396 := n3_; have HB := n4_; have BK425 := n5_; have GW425 := n6_; have GE425 := n7_; have NB396_425 := n8_; have NB425_396 := n9_; clear n0_ n1_ n2_ n3_ n4_ n5_ n6_ n7_ n8_ n9_; clear hb hbox hg; have hnb35 := NB425_396.out; have hnc35 := NB396_425.out; have hcz36_0 : w34.cell? ⟨gb425, 0, none⟩ = some (.int .u8 0) := (blk_cell BK425.out 0).trans rfl; have hcz36_1 : w34.cell? ⟨gb425, 1, none⟩ = some (.int .u8 0) := (blk_cell BK425.out 1).trans rfl; have hcz36_2 : w34.cell? ⟨gb425, 2, none⟩ = some (.int .u8 0) := (blk_cell BK425.out 2).trans rfl; have hcz36_3 : w34.cell? ⟨gb425, 3, none⟩ = some (.int .u16 0) := (blk_cell BK425.out 3).trans rfl; have hcz36_4 : w34.cell? ⟨gb425, 4, none⟩ = some (.int .u8 0) := (blk_cell BK425.out 4).trans rfl; have hcz36_5 : w34.cell? ⟨gb425, 5, none⟩ = some (.int .u16 0) := (blk_cell BK425.out 5).trans rfl; have hcz36_6 : w34.cell? ⟨gb425, 6, none⟩ = some (.int .u32 0) := (blk_cell BK425.out 6).trans rfl; have hcz36_7 : w34.cell? ⟨gb425, 7, none⟩ = some (.int .u32 0) := (blk_cell BK425.out 7).trans rfl; have hcz36_8 : w34.cell? ⟨gb425, 8, none⟩ = some (.slice none 0 0) := (blk_cell BK425.out 8).trans rfl; have hcz36_9 : w34.cell? ⟨gb425, 9, none⟩ = some (.slice none 0 0) := (blk_cell BK425.out 9).trans rfl; have hfz36_0 := blk_frozen BK425.out 0; have hfz36_1 := blk_frozen BK425.out 1; have hfz36_2 := blk_frozen BK425.out 2; have hfz36_3 := blk_frozen BK425.out 3; have hfz36_4 := blk_frozen BK425.out 4; have hfz36_5 := blk_frozen BK425.out 5; have hfz36_6 := blk_frozen BK425.out 6; have hfz36_7 := blk_frozen BK425.out 7; have hfz36_8 := blk_frozen BK425.out 8; have hfz36_9 := blk_frozen BK425.out 9; obtain ⟨Ao37, co37, eo37⟩ := Kd.R_slice HO420.out; subst eo37; obtain ⟨Ao38, co38, eo38⟩ := Kd.R_slice HO423.out; subst eo38; have hcz39_0 : w34.cell? ⟨gb396, 0, none⟩ = some (.int .u8 a0_0) := (blk_cell BK396.out 0).trans rfl; have hcz39_1 : w34.cell? ⟨gb396, 1, none⟩ = some (.int .u8 a0_1) := (blk_cell BK396.out 1).trans rfl; have hcz39_2 : w34.cell? ⟨gb396, 2, none⟩ = some (.int .u8 a0_2) := (blk_cell BK396.out 2).trans rfl; have hcz39_3 : w34.cell? ⟨gb396, 3, none⟩ = some (.int .u16 a0_3) := (blk_cell BK396.out 3).trans rfl; have hcz39_4 : w34.cell? ⟨gb396, 4, none⟩ = some (.int .u8 a0_4) := (blk_cell BK396.out 4).trans rfl; have hcz39_5 : w34.cell? ⟨gb396, 5, none⟩ = some (.int .u16 a0_5) := (blk_cell BK396.out 5).trans rfl; have hcz39_6 : w34.cell? ⟨gb396, 6, none⟩ = some (.int .u32 a0_6) := (blk_cell BK396.out 6).trans rfl; have hcz39_7 : w34.cell? ⟨gb396, 7, none⟩ = some (.int .u32 a0_7) := (blk_cell BK396.out 7).trans rfl; have hcz39_8 : w34.cell? ⟨gb396, 8, none⟩ = some (.slice A0_8 l0_8.length c0_8) := (blk_cell BK396.out 8).trans rfl; have hcz39_9 : w34.cell? ⟨gb396, 9, none⟩ = some (.slice A0_9 l0_9.length c0_9) := (blk_cell BK396.out 9).trans rfl; have hfz39_0 := blk_frozen BK396.out 0; have hfz39_1 := blk_frozen BK396.out 1; have hfz39_2 := blk_frozen BK396.out 2; have hfz39_3 := blk_frozen BK396.out 3; have hfz39_4 := blk_frozen BK396.out 4; have hfz39_5 := blk_frozen BK396.out 5; have hfz39_6 := blk_frozen BK396.out 6; have hfz39_7 := blk_frozen BK396.out 7; have hfz39_8 := blk_frozen BK396.out 8; have hfz39_9 := blk_frozen BK396.out 9) | (go_at_call 14; (with_reducible refine (lychhelp_Ip.calls t410 t411 t412 t413 t414 t415 t416 t417 _ _ t418 _ _ t421 a0_0 a0_1 a0_2 a0_3 a0_4 a0_5 a0_6 a0_7 _ _ l0_8 _ _ l0_9 t426 _ ?side1 ?side2 ?side3 ?side4 ?side5 ?side6 ?side7 ?side8 A30.out).mono ?_); (case side1 => refine (Kd.R_reads' (e := 5) (base := w.heap.size) (ok := fun k_ => (some k_ ≠ (.slice Ao38 t421.length co38 : Value).ownBlock ∧ some k_ ≠ (.slice Ao32 y407.length co32 : Value).ownBlock)) (n := t418.length) (c := co37) ?_).2.2; exact (by (with_reducible repeat (first | apply Kd.R_alloc | apply Kd.R_drewN | apply Kd.R_drew)); exact (Kd.R_mono (Kd.R_far (p := ⟨gb425, 9, none⟩) (Kd.R_far (p := ⟨gb425, 8, none⟩) (Kd.R_far (p := ⟨gb425, 7, none⟩) (Kd.R_far (p := ⟨gb425, 6, none⟩) (Kd.R_far (p := ⟨gb425, 5, none⟩) (Kd.R_far (p := ⟨gb425, 4, none⟩) (Kd.R_far (p := ⟨gb425, 3, none⟩) (Kd.R_far (p := ⟨gb425, 2, none⟩) (Kd.R_far (p := ⟨gb425, 1, none⟩) (Kd.R_far (p := ⟨gb425, 0, none⟩) (Kd.R_types HO420.out BK425.out (by decide)) (fun _ hk => hk.2) (.int .u8 t410)) (fun _ hk => hk.2) (.int .u8 t411)) (fun _ hk => hk.2) (.int .u8 t412)) (fun _ hk => hk.2) (.int .u16 t413)) (fun _ hk => hk.2) (.int .u8 t414)) (fun _ hk => hk.2) (.int .u16 t415)) (fun _ hk => hk.2) (.int .u32 t416)) (fun _ hk => hk.2) (.int .u32 t417)) (fun _ hk => hk.2) (.slice Ao37 t418.length co37)) (fun _ hk => hk.2) (.slice Ao38 t421.length co38)) (fun _ h_ => h_.1)))); (case side2 => exact (Kd.R_reads' HO420.out).2.1); (case side3 => refine (Kd.R_reads' (e := 5) (base := w.heap.size) (ok := fun k_ => (some k_ ≠ (.slice Ao37 t418.length co37 : Value).ownBlock ∧ some k_ ≠ (.slice Ao32 y407.length co32 : Value).ownBlock)) (n := t421.length) (c := co38) ?_).2.2; exact (by (with_reducible repeat (first | apply Kd.R_alloc | apply Kd.R_drewN | apply Kd.R_drew)); exact (Kd.R_mono (Kd.R_far (p := ⟨gb425, 9, none⟩) (Kd.R_far (p := ⟨gb425, 8, none⟩) (Kd.R_far (p := ⟨gb425, 7, none⟩) (Kd.R_far (p := ⟨gb425, 6, none⟩) (Kd.R_far (p := ⟨gb425, 5, none⟩) (Kd.R_far (p := ⟨gb425, 4, none⟩) (Kd.R_far (p := ⟨gb425, 3, none⟩) (Kd.R_far (p := ⟨gb425, 2, none⟩) (Kd.R_far (p := ⟨gb425, 1, none⟩) (Kd.R_far (p := ⟨gb425, 0, none⟩) (Kd.R_types HO423.out BK425.out (by decide)) (fun _ hk => hk.2) (.int .u8 t410)) (fun _ hk => hk.2) (.int .u8 t411)) (fun _ hk => hk.2) (.int .u8 t412)) (fun _ hk => hk.2) (.int .u16 t413)) (fun _ hk => hk.2) (.int .u8 t414)) (fun _ hk => hk.2) (.int .u16 t415)) (fun _ hk => hk.2) (.int .u32 t416)) (fun _ hk => hk.2) (.int .u32 t417)) (fun _ hk => hk.2) (.slice Ao37 t418.length co37)) (fun _ hk => hk.2) (.slice Ao38 t421.length co38)) (fun _ h_ => h_.1)))); (case side4 => exact (Kd.R_reads' HO423.out).2.1); (case side5 => exact Kd.C_below HR0_8.out (by repeat (first | (with_reducible first | exact HB.out | apply below_alloc | apply pw_below_drewN | apply below_drew1 | refine below_set ?_ GE396.out | refine below_set ?_ GE425.out) | exact HB.out))); (case side6 => exact HC0_8.out); (case side7 => exact Kd.C_below HR0_9.out (by repeat (first | (with_reducible first | exact HB.out | apply below_alloc | apply pw_below_drewN | apply below_drew1 | refine below_set ?_ GE396.out | refine below_set ?_ GE425.out) | exact HB.out))); (case side8 => exact HC0_9.out); rintro e w40 ⟨rfl, hb⟩; have n0_ := Aside0.mk (Kd.R_below (by (with_reducible repeat (first | apply Kd.R_alloc | apply Kd.R_drewN | apply Kd.R_drew)); exact (Kd.R_mono (Kd.R_far (p := ⟨gb425, 9, none⟩) (Kd.R_far (p := ⟨gb425, 8, none⟩) (Kd.R_far (p := ⟨gb425, 7, none⟩) (Kd.R_far (p := ⟨gb425, 6, none⟩) (Kd.R_far (p := ⟨gb425, 5, none⟩) (Kd.R_far (p := ⟨gb425, 4, none⟩) (Kd.R_far (p := ⟨gb425, 3, none⟩) (Kd.R_far (p := ⟨gb425, 2, none⟩) (Kd.R_far (p := ⟨gb425, 1, none⟩) (Kd.R_far (p := ⟨gb425, 0, none⟩) (Kd.R_types HO409.out BK425.out (by decide)) (fun _ hk => hk.2) (.int .u8 t410)) (fun _ hk => hk.2) (.int .u8 t411)) (fun _ hk => hk.2) (.int .u8 t412)) (fun _ hk => hk.2) (.int .u16 t413)) (fun _ hk => hk.2) (.int .u8 t414)) (fun _ hk => hk.2) (.int .u16 t415)) (fun _ hk => hk.2) (.int .u32 t416)) (fun _ hk => hk.2) (.int .u32 t417)) (fun _ hk => hk.2) (.slice Ao37 t418.length co37)) (fun _ hk => hk.2) (.slice Ao38 t421.length co38)) (fun _ h_ => h_.1))) hb); have n1_ := Aside0.mk (Kd.R_below (by (with_reducible repeat (first | apply Kd.R_alloc | apply Kd.R_drewN | apply Kd.R_drew)); exact (Kd.R_mono (Kd.R_far (p := ⟨gb425, 9, none⟩) (Kd.R_far (p := ⟨gb425, 8, none⟩) (Kd.R_far (p := ⟨gb425, 7, none⟩) (Kd.R_far (p := ⟨gb425, 6, none⟩) (Kd.R_far (p := ⟨gb425, 5, none⟩) (Kd.R_far (p := ⟨gb425, 4, none⟩) (Kd.R_far (p := ⟨gb425, 3, none⟩) (Kd.R_far (p := ⟨gb425, 2, none⟩) (Kd.R_far (p := ⟨gb425, 1, none⟩) (Kd.R_far (p := ⟨gb425, 0, none⟩) (Kd.R_types HO420.out BK425.out (by decide)) (fun _ hk => hk.2) (.int .u8 t410)) (fun _ hk => hk.2) (.int .u8 t411)) (fun _ hk => hk.2) (.int .u8 t412)) (fun _ hk => hk.2) (.int .u16 t413)) (fun _ hk => hk.2) (.int .u8 t414)) (fun _ hk => hk.2) (.int .u16 t415)) (fun _ hk => hk.2) (.int .u32 t416)) (fun _ hk => hk.2) (.int .u32 t417)) (fun _ hk => hk.2) (.slice Ao37 t418.length co37)) (fun _ hk => hk.2) (.slice Ao38 t421.length co38)) (fun _ h_ => h_.1))) hb); have n2_ := Aside0.mk (Kd.R_below (by (with_reducible repeat (first | apply Kd.R_alloc | apply Kd.R_drewN | apply Kd.R_drew)); exact (Kd.R_mono (Kd.R_far (p := ⟨gb425, 9, none⟩) (Kd.R_far (p := ⟨gb425, 8, none⟩) (Kd.R_far (p := ⟨gb425, 7, none⟩) (Kd.R_far (p := ⟨gb425, 6, none⟩) (Kd.R_far (p := ⟨gb425, 5, none⟩) (Kd.R_far (p := ⟨gb425, 4, none⟩) (Kd.R_far (p := ⟨gb425, 3, none⟩) (Kd.R_far (p := ⟨gb425, 2, none⟩) (Kd.R_far (p := ⟨gb425, 1, none⟩) (Kd.R_far (p := ⟨gb425, 0, none⟩) (Kd.R_types HO423.out BK425.out (by decide)) (fun _ hk => hk.2) (.int .u8 t410)) (fun _ hk => hk.2) (.int .u8 t411)) (fun _ hk => hk.2) (.int .u8 t412)) (fun _ hk => hk.2) (.int .u16 t413)) (fun _ hk => hk.2) (.int .u8 t414)) (fun _ hk => hk.2) (.int .u16 t415)) (fun _ hk => hk.2) (.int .u32 t416)) (fun _ hk => hk.2) (.int .u32 t417)) (fun _ hk => hk.2) (.slice Ao37 t418.length co37)) (fun _ hk => hk.2) (.slice Ao38 t421.length co38)) (fun _ h_ => h_.1))) hb); have n3_ := Aside0.mk (blk_below (g := gb396) (o := .cells #[.int .u8 a0_0, .int .u8 a0_1, .int .u8 a0_2, .int .u16 a0_3, .int .u8 a0_4, .int .u16 a0_5, .int .u32 a0_6, .int .u32 a0_7, .slice A0_8 l0_8.length c0_8, .slice A0_9 l0_9.length c0_9] 30 (0, 0)) (by (with_reducible repeat (first | refine blk_drewN ?_ _ | refine blk_drew ?_ | refine blk_alloc ?_ _)); refine blk_far ?_ NB396_425.out _; (with_reducible repeat (first | refine blk_drewN ?_ _ | refine blk_drew ?_ | refine blk_alloc ?_ _)); refine blk_far ?_ NB396_425.out _; (with_reducible repeat (first | refine blk_drewN ?_ _ | refine blk_drew ?_ | refine blk_alloc ?_ _)); refine blk_far ?_ NB396_425.out _; (with_reducible repeat (first | refine blk_drewN ?_ _ | refine blk_drew ?_ | refine blk_alloc ?_ _)); refine blk_far ?_ NB396_425.out _; (with_reducible repeat (first | refine blk_drewN ?_ _ | refine blk_drew ?_ | refine blk_alloc ?_ _)); refine blk_far ?_ NB396_425.out _; (with_reducible repeat (first | refine blk_drewN ?_ _ | refine blk_drew ?_ | refine blk_alloc ?_ _)); refine blk_far ?_ NB396_425.out _; (with_reducible repeat (first | refine blk_drewN ?_ _ | refine blk_drew ?_ | refine blk_alloc ?_ _)); refine blk_far ?_ NB396_425.out _; (with_reducible repeat (first | refine blk_drewN ?_ _ | refine blk_drew ?_ | refine blk_alloc ?_ _)); refine blk_far ?_ NB396_425.out _; (with_reducible repeat (first | refine blk_drewN ?_ _ | refine blk_drew ?_ | refine blk_alloc ?_ _)); refine blk_far ?_ NB396_425.out _; (with_reducible repeat (first | refine blk_drewN ?_ _ | refine blk_drew ?_ | refine blk_alloc ?_ _)); refine blk_far ?_ NB396_425.out _; (with_reducible repeat (first | refine blk_drewN ?_ _ | refine blk_drew ?_ | refine blk_alloc ?_ _)); exact BK396.out) hb); have n4_ := Aside0.mk (blk_below (g := gb425) (o := .cells #[.int .u8 t410, .int .u8 t411, .int .u8 t412, .int .u16 t413, .int .u8 t414, .int .u16 t415, .int .u32 t416, .int .u32 t417, .slice Ao37 t418.length co37, .slice Ao38 t421.length co38] 30 (0, 0)) (by (with_reducible repeat (first | refine blk_drewN ?_ _ | refine blk_drew ?_ | refine blk_alloc ?_ _)); refine blk_put (cs := #[.int .u8 t410, .int .u8 t411, .int .u8 t412, .int .u16 t413, .int .u8 t414, .int .u16 t415, .int .u32 t416, .int .u32 t417, .slice Ao37 t418.length co37, .slice none 0 0]) ?_ 9 _ rfl; (with_reducible repeat (first | refine blk_drewN ?_ _ | refine blk_drew ?_ | refine blk_alloc ?_ _)); refine blk_put (cs := #[.int .u8 t410, .int .u8 t411, .int .u8 t412, .int .u16 t413, .int .u8 t414, .int .u16 t415, .int .u32 t416, .int .u32 t417, .slice none 0 0, .slice none 0 0]) ?_ 8 _ rfl; (with_reducible repeat (first | refine blk_drewN ?_ _ | refine blk_drew ?_ | refine blk_alloc ?_ _)); refine blk_put (cs := #[.int .u8 t410, .int .u8 t411, .int .u8 t412, .int .u16 t413, .int .u8 t414, .int .u16 t415, .int .u32 t416, .int .u32 0, .slice none 0 0, .slice none 0 0]) ?_ 7 _ rfl; (with_reducible repeat (first | refine blk_drewN ?_ _ | refine blk_drew ?_ | refine blk_alloc ?_ _)); refine blk_put (cs := #[.int .u8 t410, .int .u8 t411, .int .u8 t412, .int .u16 t413, .int .u8 t414, .int .u16 t415, .int .u32 0, .int .u32 0, .slice none 0 0, .slice none 0 0]) ?_ 6 _ rfl; (with_reducible repeat (first | refine blk_drewN ?_ _ | refine blk_drew ?_ | refine blk_alloc ?_ _)); refine blk_put (cs := #[.int .u8 t410, .int .u8 t411, .int .u8 t412, .int .u16 t413, .int .u8 t414, .int .u16 0, .int .u32 0, .int .u32 0, .slice none 0 0, .slice none 0 0]) ?_ 5 _ rfl; (with_reducible repeat (first | refine blk_drewN ?_ _ | refine blk_drew ?_ | refine blk_alloc ?_ _)); refine blk_put (cs := #[.int .u8 t410, .int .u8 t411, .int .u8 t412, .int .u16 t413, .int .u8 0, .int .u16 0, .int .u32 0, .int .u32 0, .slice none 0 0, .slice none 0 0]) ?_ 4 _ rfl; (with_reducible repeat (first | refine blk_drewN ?_ _ | refine blk_drew ?_ | refine blk_alloc ?_ _)); refine blk_put (cs := #[.int .u8 t410, .int .u8 t411, .int .u8 t412, .int .u16 0, .int .u8 0, .int .u16 0, .int .u32 0, .int .u32 0, .slice none 0 0, .slice none 0 0]) ?_ 3 _ rfl; (with_reducible repeat (first | refine blk_drewN ?_ _ | refine blk_drew ?_ | refine blk_alloc ?_ _)); refine blk_put (cs := #[.int .u8 t410, .int .u8 t411, .int .u8 0, .int .u16 0, .int .u8 0, .int .u16 0, .int .u32 0, .int .u32 0, .slice none 0 0, .slice none 0 0]) ?_ 2 _ rfl; (with_reducible repeat (first | refine blk_drewN ?_ _ | refine blk_drew ?_ | refine blk_alloc ?_ _)); refine blk_put (cs := #[.int .u8 t410, .int .u8 0, .int .u8 0, .int .u16 0, .int .u8 0, .int .u16 0, .int .u32 0, .int .u32 0, .slice none 0 0, .slice none 0 0]) ?_ 1 _ rfl; (with_reducible repeat (first | refine blk_drewN ?_ _ | refine blk_drew ?_ | refine blk_alloc ?_ _)); refine blk_put (cs := #[.int .u8 0, .int .u8 0, .int .u8 0, .int .u16 0, .int .u8 0, .int .u16 0, .int .u32 0, .int .u32 0, .slice none 0 0, .slice none 0 0]) ?_ 0 _ rfl; (with_reducible repeat (first | refine blk_drewN ?_ _ | refine blk_drew ?_ | refine blk_alloc ?_ _)); exact BK425.out) hb); have n5_ := Aside0.mk (below_step (by repeat (first | (with_reducible first | exact HB.out | apply below_alloc | apply pw_below_drewN | apply below_drew1 | refine below_set ?_ GE396.out | refine below_set ?_ GE425.out) | exact HB.out)) hb); clear HO409; clear HO420; clear HO423; clear BK396; clear BK425; clear HB; have HO409 := n0_; have HO420 := n1_; have HO423 := n2_; have BK396 := n3_; have BK425 := n4_; have HB := n5_; clear n0_ n1_ n2_ n3_ n4_ n5_; (try clear hb); (try clear hb2); (try clear hk); (try clear hi)))
           go_ret
           exact ⟨by first | rfl | (simp [errW_none, errW_some] <;> rfl) | (simp [*, errW_none, errW_some] <;> rfl), by repeat (first | (with_reducible first | exact HB.out | apply below_alloc | apply pw_below_drewN | apply below_drew1 | refine below_set ?_ GE396.out | refine below_set ?_ GE425.out) | exact HB.out)⟩
          ·rw [if_neg c29] at H
           exact absurd H (by simp)
         ·rw [if_neg c27] at H
          exact absurd H (by simp)
        ·rw [if_neg c26] at H
         have c26b0 : (t405 == 0) = false := beq_eq_false_iff_ne.mpr c26
         have c26b1 : (t405 != 0) = true := bne_iff_ne.mpr c26
         obtain rfl := Option.some.inj H
         go_wp2
         go_ret
         exact ⟨by first | rfl | (simp [errW_none, errW_some] <;> rfl) | (simp [*, errW_none, errW_some] <;> rfl), by repeat (first | (with_reducible first | exact HB.out | apply below_alloc | apply pw_below_drewN | apply below_drew1 | refine below_set ?_ GE396.out) | exact HB.out)⟩
 ·replace c4 := Bool.eq_false_iff.mpr c4
  subst c4
  have H1 : (none) = some r := by rw [if_neg (show ¬ (false = true) by decide)] at H; exact H
  clear H
  have H := H1
  clear H1
  exact absurd H (by simp)

end Go.Proofs.Ytmlmiiejifhfeaa.PA
