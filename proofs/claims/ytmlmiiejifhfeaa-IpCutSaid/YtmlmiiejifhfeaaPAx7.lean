-- written by a patched print
import Derived.Test.YtmlmiiejifhfeaaPAx0
import Derived.Test.YtmlmiiejifhfeaaPAx6
namespace Go.Proofs.Ytmlmiiejifhfeaa.PA
open Go.RowKit Go.Proofs.YtmlmiiejifhfeaaW.PrintWords Go.Proofs.YtmlmiiejifhfeaaW.PrintLast Go.Proofs.YtmlmiiejifhfeaaW.PrintMore
attribute [local go_sem] max2_int min2_int max_two min_two max_three min_three max_four min_four   -- for this text's walks alone
set_option linter.unusedVariables false
set_option linter.unusedSimpArgs false

/-! ### ip_Bytes: function 15 -/
mutual
def ip_Bytes.j0 : Nat → Int → Bool → Int → Int → Int → Int → Int → Int → Int → Int → List Int → List Int → Option (List Int × Int)
 | 0, _, _, _, _, _, _, _, _, _, _, _, _ => none
 | k + 1, x4, x15, x144000, x144001, x144002, x144003, x144004, x144005, x144006, x144007, x144008, x144009 => if x15 = true then (some (([] : List Int), 21)) else (if (x144009.length : Int) > (wrap64 (65535 - x4)) then (some (([] : List Int), 23)) else ((some (([x144006, x144007] : List Int) : List Int)).bind fun y147 => (ip_Bytes.l0 k (([Go.bits .or .u8 64 ((wrap64 (Int.tdiv x4 4)) % 256), x144000, ((wrap64 (x4 + (x144009.length : Int))) / 256) % 256, (wrap64 (x4 + (x144009.length : Int))) % 256, (x144003 / 256) % 256, (x144003) % 256, ((Go.bits .or .u16 (IntKind.u16.wrap ((IntKind.u16.wrap (x144004)) * 8192)) x144005) / 256) % 256, (Go.bits .or .u16 (IntKind.u16.wrap ((IntKind.u16.wrap (x144004)) * 8192)) x144005) % 256, x144001, x144002, 0, 0] : List Int)) y147 (y147.length : Int) 0 x144000 x144001 x144002 x144003 x144004 x144005 x144006 x144007 x144008 x144009)))
def ip_Bytes.l0 : Nat → List Int → List Int → Int → Int → Int → Int → Int → Int → Int → Int → Int → Int → List Int → List Int → Option (List Int × Int)
 | 0, _, _, _, _, _, _, _, _, _, _, _, _, _, _ => none
 | k + 1, x7, x88, x89, x90, x144000, x144001, x144002, x144003, x144004, x144005, x144006, x144007, x144008, x144009 => if x90 < x89 then (if 0 ≤ x90 then (if x90 < (x88.length : Int) then ((some (([((rd x88 x90) / 16777216) % 256, ((rd x88 x90) / 65536) % 256, ((rd x88 x90) / 256) % 256, (rd x88 x90) % 256] : List Int) : List Int)).bind fun y151 => (if x7.length + y151.length < 140737488355328 then (ip_Bytes.l0 k (x7 ++ y151) x88 x89 (wrap64 (x90 + 1)) x144000 x144001 x144002 x144003 x144004 x144005 x144006 x144007 x144008 x144009) else (none))) else (none)) else (none)) else (if x7.length + x144008.length < 140737488355328 then ((some (x7 ++ x144008 : List Int)).bind fun y157 => ((sum_Of.f k y157).bind fun t160 => (if 10 < (y157.length : Int) then (if 11 < (y157.length : Int) then ((some ((y157.set (10 : Int).toNat ((t160 / 256) % 256)).set (11 : Int).toNat ((t160) % 256) : List Int)).bind fun y162 => (if y162.length + x144009.length < 140737488355328 then (some ((y162 ++ x144009), 0)) else (none))) else (none)) else (none)))) else (none))
end
def ip_Bytes.f (k : Nat) (a0_0 : Int) (a0_1 : Int) (a0_2 : Int) (a0_3 : Int) (a0_4 : Int) (a0_5 : Int) (a0_6 : Int) (a0_7 : Int) (l0_8 : List Int) (l0_9 : List Int) : Option (List Int × Int) := if ((l0_8.length : Int) % 4) = 0 then (if (l0_8.length : Int) > 40 then (ip_Bytes.j0 k (wrap64 (20 + (l0_8.length : Int))) true a0_0 a0_1 a0_2 a0_3 a0_4 a0_5 a0_6 a0_7 l0_8 l0_9) else (if a0_4 > 7 then (ip_Bytes.j0 k (wrap64 (20 + (l0_8.length : Int))) true a0_0 a0_1 a0_2 a0_3 a0_4 a0_5 a0_6 a0_7 l0_8 l0_9) else (ip_Bytes.j0 k (wrap64 (20 + (l0_8.length : Int))) (decide (a0_5 > 8191)) a0_0 a0_1 a0_2 a0_3 a0_4 a0_5 a0_6 a0_7 l0_8 l0_9))) else (ip_Bytes.j0 k (wrap64 (20 + (l0_8.length : Int))) true a0_0 a0_1 a0_2 a0_3 a0_4 a0_5 a0_6 a0_7 l0_8 l0_9)
theorem ip_Bytes.mono_l : ∀ k, (∀ y0 y1 y2 y3 y4 y5 y6 y7 y8 y9 y10 y11, LeO (ip_Bytes.j0 k y0 y1 y2 y3 y4 y5 y6 y7 y8 y9 y10 y11) (ip_Bytes.j0 (k + 1) y0 y1 y2 y3 y4 y5 y6 y7 y8 y9 y10 y11)) ∧ (∀ y0 y1 y2 y3 y4 y5 y6 y7 y8 y9 y10 y11 y12 y13, LeO (ip_Bytes.l0 k y0 y1 y2 y3 y4 y5 y6 y7 y8 y9 y10 y11 y12 y13) (ip_Bytes.l0 (k + 1) y0 y1 y2 y3 y4 y5 y6 y7 y8 y9 y10 y11 y12 y13))
 | 0 => ⟨fun _ _ _ _ _ _ _ _ _ _ _ _ r h => by simp [ip_Bytes.j0] at h, fun _ _ _ _ _ _ _ _ _ _ _ _ _ _ r h => by simp [ip_Bytes.l0] at h⟩
 | k + 1 => by
  obtain ⟨ih0, ih1⟩ := ip_Bytes.mono_l k
  refine ⟨?_, ?_⟩
  ·intro y0 y1 y2 y3 y4 y5 y6 y7 y8 y9 y10 y11
   unfold ip_Bytes.j0
   repeat' first
   | (with_reducible exact ih0 _ _ _ _ _ _ _ _ _ _ _ _)
   | (with_reducible exact ih1 _ _ _ _ _ _ _ _ _ _ _ _ _ _)
   | (with_reducible exact sum_Of.mono _ _)
   | (with_reducible exact LeO.refl _)
   | (with_reducible exact LeO.none _)
   | (with_reducible refine LeO.ite ?_ ?_)
   | (with_reducible refine LeO.bind ?_ (fun _ => ?_))
   | exact ih0 _ _ _ _ _ _ _ _ _ _ _ _
   | exact ih1 _ _ _ _ _ _ _ _ _ _ _ _ _ _
   | exact sum_Of.mono _ _
   | exact LeO.none _
   | refine LeO.ite ?_ ?_
   | refine LeO.bind ?_ (fun _ => ?_)
  ·intro y0 y1 y2 y3 y4 y5 y6 y7 y8 y9 y10 y11 y12 y13
   unfold ip_Bytes.l0
   repeat' first
   | (with_reducible exact ih0 _ _ _ _ _ _ _ _ _ _ _ _)
   | (with_reducible exact ih1 _ _ _ _ _ _ _ _ _ _ _ _ _ _)
   | (with_reducible exact sum_Of.mono _ _)
   | (with_reducible exact LeO.refl _)
   | (with_reducible exact LeO.none _)
   | (with_reducible refine LeO.ite ?_ ?_)
   | (with_reducible refine LeO.bind ?_ (fun _ => ?_))
   | exact ih0 _ _ _ _ _ _ _ _ _ _ _ _
   | exact ih1 _ _ _ _ _ _ _ _ _ _ _ _ _ _
   | exact sum_Of.mono _ _
   | exact LeO.none _
   | refine LeO.ite ?_ ?_
   | refine LeO.bind ?_ (fun _ => ?_)
theorem ip_Bytes.mono : ∀ a0 a1 a2 a3 a4 a5 a6 a7 a8 a9 k, LeO (ip_Bytes.f k a0 a1 a2 a3 a4 a5 a6 a7 a8 a9) (ip_Bytes.f (k + 1) a0 a1 a2 a3 a4 a5 a6 a7 a8 a9) := by
 intro a0 a1 a2 a3 a4 a5 a6 a7 a8 a9 k
 obtain ⟨ih0, ih1⟩ := ip_Bytes.mono_l k
 unfold ip_Bytes.f
 repeat' first
   | (with_reducible exact ih0 _ _ _ _ _ _ _ _ _ _ _ _)
   | (with_reducible exact ih1 _ _ _ _ _ _ _ _ _ _ _ _ _ _)
   | (with_reducible exact sum_Of.mono _ _)
   | (with_reducible exact LeO.refl _)
   | (with_reducible exact LeO.none _)
   | (with_reducible refine LeO.ite ?_ ?_)
   | (with_reducible refine LeO.bind ?_ (fun _ => ?_))
   | exact ih0 _ _ _ _ _ _ _ _ _ _ _ _
   | exact ih1 _ _ _ _ _ _ _ _ _ _ _ _ _ _
   | exact sum_Of.mono _ _
   | exact LeO.none _
   | refine LeO.ite ?_ ?_
   | refine LeO.bind ?_ (fun _ => ?_)
set_option maxHeartbeats 8000000 in
set_option maxRecDepth 100000 in
theorem ip_Bytes.calls (k : Nat) (a0_0 : Int) (a0_1 : Int) (a0_2 : Int) (a0_3 : Int) (a0_4 : Int) (a0_5 : Int) (a0_6 : Int) (a0_7 : Int) (A0_8 : Option Addr) (c0_8 : Nat) (l0_8 : List Int) (A0_9 : Option Addr) (c0_9 : Nat) (l0_9 : List Int) (r1 : List Int) (r2 : Int) (w : World) (hr0_8 : Kd.C (Kd.int .u8) w A0_8 l0_8.length l0_8) (hc0_8 : l0_8.length ≤ c0_8) (hr0_9 : Kd.C (Kd.int .u8) w A0_9 l0_9.length l0_9) (hc0_9 : l0_9.length ≤ c0_9) (h : ip_Bytes.f k a0_0 a0_1 a0_2 a0_3 a0_4 a0_5 a0_6 a0_7 l0_8 l0_9 = some (r1, r2)) :
  Calls Try.prog 15 #[.agg #[.int .u8 a0_0, .int .u8 a0_1, .int .u8 a0_2, .int .u16 a0_3, .int .u8 a0_4, .int .u16 a0_5, .int .u32 a0_6, .int .u32 a0_7, .slice A0_8 l0_8.length c0_8, .slice A0_9 l0_9.length c0_9]] w fun e w' => ∃ v0_ : Value, e = .returned (.tuple #[v0_, .int .i64 r2]) ∧ Kd.R (Kd.int .u8) 5 w' w.heap.size (fun _ => True) v0_ r1 ∧ Below w.heap.size w w' := by
 have hu30 := Try.underlying30
 have HR0_8 := Aside0.mk hr0_8
 have HC0_8 := Aside0.mk hc0_8
 clear hr0_8 hc0_8
 have HR0_9 := Aside0.mk hr0_9
 have HC0_9 := Aside0.mk hc0_9
 clear hr0_9 hc0_9
 have HB := Aside0.mk (Below.refl w.heap.size w)
 have H : (if ((l0_8.length : Int) % 4) = 0 then (if (l0_8.length : Int) > 40 then (ip_Bytes.j0 k (wrap64 (20 + (l0_8.length : Int))) true a0_0 a0_1 a0_2 a0_3 a0_4 a0_5 a0_6 a0_7 l0_8 l0_9) else (if a0_4 > 7 then (ip_Bytes.j0 k (wrap64 (20 + (l0_8.length : Int))) true a0_0 a0_1 a0_2 a0_3 a0_4 a0_5 a0_6 a0_7 l0_8 l0_9) else (ip_Bytes.j0 k (wrap64 (20 + (l0_8.length : Int))) (decide (a0_5 > 8191)) a0_0 a0_1 a0_2 a0_3 a0_4 a0_5 a0_6 a0_7 l0_8 l0_9))) else (ip_Bytes.j0 k (wrap64 (20 + (l0_8.length : Int))) true a0_0 a0_1 a0_2 a0_3 a0_4 a0_5 a0_6 a0_7 l0_8 l0_9)) = some (r1, r2) := h
 clear h
 have HC2 := Aside0.mk H
 clear H
 go_enter Try.func15, Try.ntmps15
 go_upto_region 2 with (first | ((with_reducible refine gate_dst (N := 1) rfl ?_); (try (refine gate_guard (by rfl) ?_; dsimp only)); refine box_event ?hg (N := 1) ?hd (cs := #[.int .u8 a0_0, .int .u8 a0_1, .int .u8 a0_2, .int .u16 a0_3, .int .u8 a0_4, .int .u16 a0_5, .int .u32 a0_6, .int .u32 a0_7, .slice A0_8 l0_8.length c0_8, .slice A0_9 l0_9.length c0_9]) (t := 30) ?hr ?_; (case hd => rfl); (case hg => rfl); (case hr => first | (go_simp; done) | (go_simp; rfl)); intro gb143 hg w3 hbox hb; have n0_ := Aside0.mk (below_step (by repeat (first | (with_reducible first | exact HB.out | apply below_alloc | apply pw_below_drewN | apply below_drew1) | exact HB.out)) hb); have n1_ := Aside0.mk (hbox); have n2_ := Aside0.mk ((by rw [hg]; exact (below_size (by repeat (first | (with_reducible first | exact HB.out | apply below_alloc | apply pw_below_drewN | apply below_drew1) | exact HB.out))) : w.heap.size ≤ gb143)); have n3_ := Aside0.mk ((by rw [hg]; exact (below_size (by repeat (first | (with_reducible first | exact HB.out | apply below_alloc | apply pw_below_drewN | apply below_drew1) | exact HB.out))) : w.heap.size ≤ gb143)); clear HB; have HB := n0_; have BK143 := n1_; have GW143 := n2_; have GE143 := n3_; clear n0_ n1_ n2_ n3_; clear hb hbox hg; have hcz4_0 : w3.cell? ⟨gb143, 0, none⟩ = some (.int .u8 a0_0) := (blk_cell BK143.out 0).trans rfl; have hcz4_1 : w3.cell? ⟨gb143, 1, none⟩ = some (.int .u8 a0_1) := (blk_cell BK143.out 1).trans rfl; have hcz4_2 : w3.cell? ⟨gb143, 2, none⟩ = some (.int .u8 a0_2) := (blk_cell BK143.out 2).trans rfl; have hcz4_3 : w3.cell? ⟨gb143, 3, none⟩ = some (.int .u16 a0_3) := (blk_cell BK143.out 3).trans rfl; have hcz4_4 : w3.cell? ⟨gb143, 4, none⟩ = some (.int .u8 a0_4) := (blk_cell BK143.out 4).trans rfl; have hcz4_5 : w3.cell? ⟨gb143, 5, none⟩ = some (.int .u16 a0_5) := (blk_cell BK143.out 5).trans rfl; have hcz4_6 : w3.cell? ⟨gb143, 6, none⟩ = some (.int .u32 a0_6) := (blk_cell BK143.out 6).trans rfl; have hcz4_7 : w3.cell? ⟨gb143, 7, none⟩ = some (.int .u32 a0_7) := (blk_cell BK143.out 7).trans rfl; have hcz4_8 : w3.cell? ⟨gb143, 8, none⟩ = some (.slice A0_8 l0_8.length c0_8) := (blk_cell BK143.out 8).trans rfl; have hcz4_9 : w3.cell? ⟨gb143, 9, none⟩ = some (.slice A0_9 l0_9.length c0_9) := (blk_cell BK143.out 9).trans rfl; have hfz4_0 := blk_frozen BK143.out 0; have hfz4_1 := blk_frozen BK143.out 1; have hfz4_2 := blk_frozen BK143.out 2; have hfz4_3 := blk_frozen BK143.out 3; have hfz4_4 := blk_frozen BK143.out 4; have hfz4_5 := blk_frozen BK143.out 5; have hfz4_6 := blk_frozen BK143.out 6; have hfz4_7 := blk_frozen BK143.out 7; have hfz4_8 := blk_frozen BK143.out 8; have hfz4_9 := blk_frozen BK143.out 9))
 repeat (go_quiet (first | ((with_reducible refine gate_dst (N := 1) rfl ?_); (try (refine gate_guard (by rfl) ?_; dsimp only)); refine box_event ?hg (N := 1) ?hd (cs := #[.int .u8 a0_0, .int .u8 a0_1, .int .u8 a0_2, .int .u16 a0_3, .int .u8 a0_4, .int .u16 a0_5, .int .u32 a0_6, .int .u32 a0_7, .slice A0_8 l0_8.length c0_8, .slice A0_9 l0_9.length c0_9]) (t := 30) ?hr ?_; (case hd => rfl); (case hg => rfl); (case hr => first | (go_simp; done) | (go_simp; rfl)); intro gb143 hg w3 hbox hb; have n0_ := Aside0.mk (below_step (by repeat (first | (with_reducible first | exact HB.out | apply below_alloc | apply pw_below_drewN | apply below_drew1) | exact HB.out)) hb); have n1_ := Aside0.mk (hbox); have n2_ := Aside0.mk ((by rw [hg]; exact (below_size (by repeat (first | (with_reducible first | exact HB.out | apply below_alloc | apply pw_below_drewN | apply below_drew1) | exact HB.out))) : w.heap.size ≤ gb143)); have n3_ := Aside0.mk ((by rw [hg]; exact (below_size (by repeat (first | (with_reducible first | exact HB.out | apply below_alloc | apply pw_below_drewN | apply below_drew1) | exact HB.out))) : w.heap.size ≤ gb143)); clear HB; have HB := n0_; have BK143 := n1_; have GW143 := n2_; have GE143 := n3_; clear n0_ n1_ n2_ n3_; clear hb hbox hg; have hcz4_0 : w3.cell? ⟨gb143, 0, none⟩ = some (.int .u8 a0_0) := (blk_cell BK143.out 0).trans rfl; have hcz4_1 : w3.cell? ⟨gb143, 1, none⟩ = some (.int .u8 a0_1) := (blk_cell BK143.out 1).trans rfl; have hcz4_2 : w3.cell? ⟨gb143, 2, none⟩ = some (.int .u8 a0_2) := (blk_cell BK143.out 2).trans rfl; have hcz4_3 : w3.cell? ⟨gb143, 3, none⟩ = some (.int .u16 a0_3) := (blk_cell BK143.out 3).trans rfl; have hcz4_4 : w3.cell? ⟨gb143, 4, none⟩ = some (.int .u8 a0_4) := (blk_cell BK143.out 4).trans rfl; have hcz4_5 : w3.cell? ⟨gb143, 5, none⟩ = some (.int .u16 a0_5) := (blk_cell BK143.out 5).trans rfl; have hcz4_6 : w3.cell? ⟨gb143, 6, none⟩ = some (.int .u32 a0_6) := (blk_cell BK143.out 6).trans rfl; have hcz4_7 : w3.cell? ⟨gb143, 7, none⟩ = some (.int .u32 a0_7) := (blk_cell BK143.out 7).trans rfl; have hcz4_8 : w3.cell? ⟨gb143, 8, none⟩ = some (.slice A0_8 l0_8.length c0_8) := (blk_cell BK143.out 8).trans rfl; have hcz4_9 : w3.cell? ⟨gb143, 9, none⟩ = some (.slice A0_9 l0_9.length c0_9) := (blk_cell BK143.out 9).trans rfl; have hfz4_0 := blk_frozen BK143.out 0; have hfz4_1 := blk_frozen BK143.out 1; have hfz4_2 := blk_frozen BK143.out 2; have hfz4_3 := blk_frozen BK143.out 3; have hfz4_4 := blk_frozen BK143.out 4; have hfz4_5 := blk_frozen BK143.out 5; have hfz4_6 := blk_frozen BK143.out 6; have hfz4_7 := blk_frozen BK143.out 7; have hfz4_8 := blk_frozen BK143.out 8; have hfz4_9 := blk_frozen BK143.out 9)); go_upto_region 2 with (first | ((with_reducible refine gate_dst (N := 1) rfl ?_); (try (refine gate_guard (by rfl) ?_; dsimp only)); refine box_event ?hg (N := 1) ?hd (cs := #[.int .u8 a0_0, .int .u8 a0_1, .int .u8 a0_2, .int .u16 a0_3, .int .u8 a0_4, .int .u16 a0_5, .int .u32 a0_6, .int .u32 a0_7, .slice A0_8 l0_8.length c0_8, .slice A0_9 l0_9.length c0_9]) (t := 30) ?hr ?_; (case hd => rfl); (case hg => rfl); (case hr => first | (go_simp; done) | (go_simp; rfl)); intro gb143 hg w3 hbox hb; have n0_ := Aside0.mk (below_step (by repeat (first | (with_reducible first | exact HB.out | apply below_alloc | apply pw_below_drewN | apply below_drew1) | exact HB.out)) hb); have n1_ := Aside0.mk (hbox); have n2_ := Aside0.mk ((by rw [hg]; exact (below_size (by repeat (first | (with_reducible first | exact HB.out | apply below_alloc | apply pw_below_drewN | apply below_drew1) | exact HB.out))) : w.heap.size ≤ gb143)); have n3_ := Aside0.mk ((by rw [hg]; exact (below_size (by repeat (first | (with_reducible first | exact HB.out | apply below_alloc | apply pw_below_drewN | apply below_drew1) | exact HB.out))) : w.heap.size ≤ gb143)); clear HB; have HB := n0_; have BK143 := n1_; have GW143 := n2_; have GE143 := n3_; clear n0_ n1_ n2_ n3_; clear hb hbox hg; have hcz4_0 : w3.cell? ⟨gb143, 0, none⟩ = some (.int .u8 a0_0) := (blk_cell BK143.out 0).trans rfl; have hcz4_1 : w3.cell? ⟨gb143, 1, none⟩ = some (.int .u8 a0_1) := (blk_cell BK143.out 1).trans rfl; have hcz4_2 : w3.cell? ⟨gb143, 2, none⟩ = some (.int .u8 a0_2) := (blk_cell BK143.out 2).trans rfl; have hcz4_3 : w3.cell? ⟨gb143, 3, none⟩ = some (.int .u16 a0_3) := (blk_cell BK143.out 3).trans rfl; have hcz4_4 : w3.cell? ⟨gb143, 4, none⟩ = some (.int .u8 a0_4) := (blk_cell BK143.out 4).trans rfl; have hcz4_5 : w3.cell? ⟨gb143, 5, none⟩ = some (.int .u16 a0_5) := (blk_cell BK143.out 5).trans rfl; have hcz4_6 : w3.cell? ⟨gb143, 6, none⟩ = some (.int .u32 a0_6) := (blk_cell BK143.out 6).trans rfl; have hcz4_7 : w3.cell? ⟨gb143, 7, none⟩ = some (.int .u32 a0_7) := (blk_cell BK143.out 7).trans rfl; have hcz4_8 : w3.cell? ⟨gb143, 8, none⟩ = some (.slice A0_8 l0_8.length c0_8) := (blk_cell BK143.out 8).trans rfl; have hcz4_9 : w3.cell? ⟨gb143, 9, none⟩ = some (.slice A0_9 l0_9.length c0_9) := (blk_cell BK143.out 9).trans rfl; have hfz4_0 := blk_frozen BK143.out 0; have hfz4_1 := blk_frozen BK143.out 1; have hfz4_2 := blk_frozen BK143.out 2; have hfz4_3 := blk_frozen BK143.out 3; have hfz4_4 := blk_frozen BK143.out 4; have hfz4_5 := blk_frozen BK143.out 5; have hfz4_6 := blk_frozen BK143.out 6; have hfz4_7 := blk_frozen BK143.out 7; have hfz4_8 := blk_frozen BK143.out 8; have hfz4_9 := blk_frozen BK143.out 9)))
 (try simp only [Act.put, List.setIfInBounds_toArray, List.set_cons_zero, List.set_cons_succ])
 go_cut [15] (fun v15 wc => ∃ (kq : Nat) (x15_1 : Bool), v15 = .bool x15_1 ∧ Aside0 (ip_Bytes.j0 kq (wrap64 (20 + (l0_8.length : Int))) x15_1 a0_0 a0_1 a0_2 a0_3 a0_4 a0_5 a0_6 a0_7 l0_8 l0_9 = some (r1, r2)) ∧ Aside0 (kq ≤ k) ∧ Aside0 (wc.heap[gb143]? = some (.cells #[.int .u8 a0_0, .int .u8 a0_1, .int .u8 a0_2, .int .u16 a0_3, .int .u8 a0_4, .int .u16 a0_5, .int .u32 a0_6, .int .u32 a0_7, (.slice A0_8 l0_8.length c0_8), (.slice A0_9 l0_9.length c0_9)] 30 (0, 0))) ∧ Aside0 (Below w.heap.size w wc))
 case first =>
  have H := HC2.out
  clear HC2
  by_cases c5 : ((l0_8.length : Int) % 4) = 0
  ·rw [if_pos c5] at H
   have c5b0 : (((l0_8.length : Int) % 4) == 0) = true := beq_iff_eq.mpr c5
   have c5b1 : (((l0_8.length : Int) % 4) != 0) = false := bne_eq_false_iff_eq.mpr c5
   clear c5
   (first | rw [c5b0] | (simp only [i64_w, i32_w]; rw [c5b0]) | skip)
   by_cases c6 : (l0_8.length : Int) > 40
   ·rw [if_pos c6] at H
    have c6b0 : decide (40 < (l0_8.length : Int)) = true := decide_eq_true c6
    have c6b1 : decide (40 < l0_8.length) = true := decide_eq_true (by omega)
    clear c6
    have H' := Aside0.mk H
    clear H
    have hcz7_0 : w3.cell? ⟨gb143, 0, none⟩ = some (.int .u8 a0_0) := (blk_cell BK143.out 0).trans rfl
    have hcz7_1 : w3.cell? ⟨gb143, 1, none⟩ = some (.int .u8 a0_1) := (blk_cell BK143.out 1).trans rfl
    have hcz7_2 : w3.cell? ⟨gb143, 2, none⟩ = some (.int .u8 a0_2) := (blk_cell BK143.out 2).trans rfl
    have hcz7_3 : w3.cell? ⟨gb143, 3, none⟩ = some (.int .u16 a0_3) := (blk_cell BK143.out 3).trans rfl
    have hcz7_4 : w3.cell? ⟨gb143, 4, none⟩ = some (.int .u8 a0_4) := (blk_cell BK143.out 4).trans rfl
    have hcz7_5 : w3.cell? ⟨gb143, 5, none⟩ = some (.int .u16 a0_5) := (blk_cell BK143.out 5).trans rfl
    have hcz7_6 : w3.cell? ⟨gb143, 6, none⟩ = some (.int .u32 a0_6) := (blk_cell BK143.out 6).trans rfl
    have hcz7_7 : w3.cell? ⟨gb143, 7, none⟩ = some (.int .u32 a0_7) := (blk_cell BK143.out 7).trans rfl
    have hcz7_8 : w3.cell? ⟨gb143, 8, none⟩ = some (.slice A0_8 l0_8.length c0_8) := (blk_cell BK143.out 8).trans rfl
    have hcz7_9 : w3.cell? ⟨gb143, 9, none⟩ = some (.slice A0_9 l0_9.length c0_9) := (blk_cell BK143.out 9).trans rfl
    have hfz7_0 := blk_frozen BK143.out 0
    have hfz7_1 := blk_frozen BK143.out 1
    have hfz7_2 := blk_frozen BK143.out 2
    have hfz7_3 := blk_frozen BK143.out 3
    have hfz7_4 := blk_frozen BK143.out 4
    have hfz7_5 := blk_frozen BK143.out 5
    have hfz7_6 := blk_frozen BK143.out 6
    have hfz7_7 := blk_frozen BK143.out 7
    have hfz7_8 := blk_frozen BK143.out 8
    have hfz7_9 := blk_frozen BK143.out 9
    go_wp2
    repeat (go_quiet (fail); try go_wp2)
    go_meet
    case rel => exact ⟨_, (true), (by first | rfl | (simp; done) | (simp [*]; done)), H', ⟨by first | omega | exact Nat.le_refl _⟩, ⟨by (with_reducible repeat (first | refine blk_drewN ?_ _ | refine blk_drew ?_ | refine blk_alloc ?_ _)); exact BK143.out⟩, ⟨by repeat (first | (with_reducible first | exact HB.out | apply below_alloc | apply pw_below_drewN | apply below_drew1 | refine below_set ?_ GE143.out) | exact HB.out)⟩⟩
   ·rw [if_neg c6] at H
    have c6b0 : decide (40 < (l0_8.length : Int)) = false := decide_eq_false c6
    have c6b1 : decide (40 < l0_8.length) = false := decide_eq_false (by omega)
    clear c6
    by_cases c8 : a0_4 > 7
    ·rw [if_pos c8] at H
     have c8b0 : decide (7 < a0_4) = true := decide_eq_true c8
     clear c8
     have H' := Aside0.mk H
     clear H
     have hcz9_0 : w3.cell? ⟨gb143, 0, none⟩ = some (.int .u8 a0_0) := (blk_cell BK143.out 0).trans rfl
     have hcz9_1 : w3.cell? ⟨gb143, 1, none⟩ = some (.int .u8 a0_1) := (blk_cell BK143.out 1).trans rfl
     have hcz9_2 : w3.cell? ⟨gb143, 2, none⟩ = some (.int .u8 a0_2) := (blk_cell BK143.out 2).trans rfl
     have hcz9_3 : w3.cell? ⟨gb143, 3, none⟩ = some (.int .u16 a0_3) := (blk_cell BK143.out 3).trans rfl
     have hcz9_4 : w3.cell? ⟨gb143, 4, none⟩ = some (.int .u8 a0_4) := (blk_cell BK143.out 4).trans rfl
     have hcz9_5 : w3.cell? ⟨gb143, 5, none⟩ = some (.int .u16 a0_5) := (blk_cell BK143.out 5).trans rfl
     have hcz9_6 : w3.cell? ⟨gb143, 6, none⟩ = some (.int .u32 a0_6) := (blk_cell BK143.out 6).trans rfl
     have hcz9_7 : w3.cell? ⟨gb143, 7, none⟩ = some (.int .u32 a0_7) := (blk_cell BK143.out 7).trans rfl
     have hcz9_8 : w3.cell? ⟨gb143, 8, none⟩ = some (.slice A0_8 l0_8.length c0_8) := (blk_cell BK143.out 8).trans rfl
     have hcz9_9 : w3.cell? ⟨gb143, 9, none⟩ = some (.slice A0_9 l0_9.length c0_9) := (blk_cell BK143.out 9).trans rfl
     have hfz9_0 := blk_frozen BK143.out 0
     have hfz9_1 := blk_frozen BK143.out 1
     have hfz9_2 := blk_frozen BK143.out 2
     have hfz9_3 := blk_frozen BK143.out 3
     have hfz9_4 := blk_frozen BK143.out 4
     have hfz9_5 := blk_frozen BK143.out 5
     have hfz9_6 := blk_frozen BK143.out 6
     have hfz9_7 := blk_frozen BK143.out 7
     have hfz9_8 := blk_frozen BK143.out 8
     have hfz9_9 := blk_frozen BK143.out 9
     go_wp2
     repeat (go_quiet (fail); try go_wp2)
     go_meet
     case rel => exact ⟨_, (true), (by first | rfl | (simp; done) | (simp [*]; done)), H', ⟨by first | omega | exact Nat.le_refl _⟩, ⟨by (with_reducible repeat (first | refine blk_drewN ?_ _ | refine blk_drew ?_ | refine blk_alloc ?_ _)); exact BK143.out⟩, ⟨by repeat (first | (with_reducible first | exact HB.out | apply below_alloc | apply pw_below_drewN | apply below_drew1 | refine below_set ?_ GE143.out) | exact HB.out)⟩⟩
    ·rw [if_neg c8] at H
     have c8b0 : decide (7 < a0_4) = false := decide_eq_false c8
     clear c8
     have H' := Aside0.mk H
     clear H
     have hcz10_0 : w3.cell? ⟨gb143, 0, none⟩ = some (.int .u8 a0_0) := (blk_cell BK143.out 0).trans rfl
     have hcz10_1 : w3.cell? ⟨gb143, 1, none⟩ = some (.int .u8 a0_1) := (blk_cell BK143.out 1).trans rfl
     have hcz10_2 : w3.cell? ⟨gb143, 2, none⟩ = some (.int .u8 a0_2) := (blk_cell BK143.out 2).trans rfl
     have hcz10_3 : w3.cell? ⟨gb143, 3, none⟩ = some (.int .u16 a0_3) := (blk_cell BK143.out 3).trans rfl
     have hcz10_4 : w3.cell? ⟨gb143, 4, none⟩ = some (.int .u8 a0_4) := (blk_cell BK143.out 4).trans rfl
     have hcz10_5 : w3.cell? ⟨gb143, 5, none⟩ = some (.int .u16 a0_5) := (blk_cell BK143.out 5).trans rfl
     have hcz10_6 : w3.cell? ⟨gb143, 6, none⟩ = some (.int .u32 a0_6) := (blk_cell BK143.out 6).trans rfl
     have hcz10_7 : w3.cell? ⟨gb143, 7, none⟩ = some (.int .u32 a0_7) := (blk_cell BK143.out 7).trans rfl
     have hcz10_8 : w3.cell? ⟨gb143, 8, none⟩ = some (.slice A0_8 l0_8.length c0_8) := (blk_cell BK143.out 8).trans rfl
     have hcz10_9 : w3.cell? ⟨gb143, 9, none⟩ = some (.slice A0_9 l0_9.length c0_9) := (blk_cell BK143.out 9).trans rfl
     have hfz10_0 := blk_frozen BK143.out 0
     have hfz10_1 := blk_frozen BK143.out 1
     have hfz10_2 := blk_frozen BK143.out 2
     have hfz10_3 := blk_frozen BK143.out 3
     have hfz10_4 := blk_frozen BK143.out 4
     have hfz10_5 := blk_frozen BK143.out 5
     have hfz10_6 := blk_frozen BK143.out 6
     have hfz10_7 := blk_frozen BK143.out 7
     have hfz10_8 := blk_frozen BK143.out 8
     have hfz10_9 := blk_frozen BK143.out 9
     go_wp2
     repeat (go_quiet (fail); try go_wp2)
     go_meet
     case rel => exact ⟨_, (decide (a0_5 > 8191)), (by first | rfl | (simp; done) | (simp [*]; done)), H', ⟨by first | omega | exact Nat.le_refl _⟩, ⟨by (with_reducible repeat (first | refine blk_drewN ?_ _ | refine blk_drew ?_ | refine blk_alloc ?_ _)); exact BK143.out⟩, ⟨by repeat (first | (with_reducible first | exact HB.out | apply below_alloc | apply pw_below_drewN | apply below_drew1 | refine below_set ?_ GE143.out) | exact HB.out)⟩⟩
  ·rw [if_neg c5] at H
   have c5b0 : (((l0_8.length : Int) % 4) == 0) = false := beq_eq_false_iff_ne.mpr c5
   have c5b1 : (((l0_8.length : Int) % 4) != 0) = true := bne_iff_ne.mpr c5
   (first | rw [c5b0] | (simp only [i64_w, i32_w]; rw [c5b0]) | skip)
   have H' := Aside0.mk H
   clear H
   have hcz11_0 : w3.cell? ⟨gb143, 0, none⟩ = some (.int .u8 a0_0) := (blk_cell BK143.out 0).trans rfl
   have hcz11_1 : w3.cell? ⟨gb143, 1, none⟩ = some (.int .u8 a0_1) := (blk_cell BK143.out 1).trans rfl
   have hcz11_2 : w3.cell? ⟨gb143, 2, none⟩ = some (.int .u8 a0_2) := (blk_cell BK143.out 2).trans rfl
   have hcz11_3 : w3.cell? ⟨gb143, 3, none⟩ = some (.int .u16 a0_3) := (blk_cell BK143.out 3).trans rfl
   have hcz11_4 : w3.cell? ⟨gb143, 4, none⟩ = some (.int .u8 a0_4) := (blk_cell BK143.out 4).trans rfl
   have hcz11_5 : w3.cell? ⟨gb143, 5, none⟩ = some (.int .u16 a0_5) := (blk_cell BK143.out 5).trans rfl
   have hcz11_6 : w3.cell? ⟨gb143, 6, none⟩ = some (.int .u32 a0_6) := (blk_cell BK143.out 6).trans rfl
   have hcz11_7 : w3.cell? ⟨gb143, 7, none⟩ = some (.int .u32 a0_7) := (blk_cell BK143.out 7).trans rfl
   have hcz11_8 : w3.cell? ⟨gb143, 8, none⟩ = some (.slice A0_8 l0_8.length c0_8) := (blk_cell BK143.out 8).trans rfl
   have hcz11_9 : w3.cell? ⟨gb143, 9, none⟩ = some (.slice A0_9 l0_9.length c0_9) := (blk_cell BK143.out 9).trans rfl
   have hfz11_0 := blk_frozen BK143.out 0
   have hfz11_1 := blk_frozen BK143.out 1
   have hfz11_2 := blk_frozen BK143.out 2
   have hfz11_3 := blk_frozen BK143.out 3
   have hfz11_4 := blk_frozen BK143.out 4
   have hfz11_5 := blk_frozen BK143.out 5
   have hfz11_6 := blk_frozen BK143.out 6
   have hfz11_7 := blk_frozen BK143.out 7
   have hfz11_8 := blk_frozen BK143.out 8
   have hfz11_9 := blk_frozen BK143.out 9
   go_wp2
   repeat (go_quiet (fail); try go_wp2)
   go_meet
   case rel => exact ⟨_, (true), (by first | rfl | (simp; done) | (simp [*]; done)), H', ⟨by first | omega | exact Nat.le_refl _⟩, ⟨by (with_reducible repeat (first | refine blk_drewN ?_ _ | refine blk_drew ?_ | refine blk_alloc ?_ _)); exact BK143.out⟩, ⟨by repeat (first | (with_reducible first | exact HB.out | apply below_alloc | apply pw_below_drewN | apply below_drew1 | refine below_set ?_ GE143.out) | exact HB.out)⟩⟩
 case rest =>
  clear HC2
  try clear c1
  try clear p2
  try clear c5
  try clear c5b0
  try clear c5b1
  try clear c6
  try clear c6b0
  try clear c6b1
  try clear p6
  try clear c8
  try clear c8b0
  try clear hcz10_0
  try clear hcz10_1
  try clear hcz10_2
  try clear hcz10_3
  try clear hcz10_4
  try clear hcz10_5
  try clear hcz10_6
  try clear hcz10_7
  try clear hcz10_8
  try clear hcz10_9
  try clear hcz11_0
  try clear hcz11_1
  try clear hcz11_2
  try clear hcz11_3
  try clear hcz11_4
  try clear hcz11_5
  try clear hcz11_6
  try clear hcz11_7
  try clear hcz11_8
  try clear hcz11_9
  try clear hcz4_0
  try clear hcz4_1
  try clear hcz4_2
  try clear hcz4_3
  try clear hcz4_4
  try clear hcz4_5
  try clear hcz4_6
  try clear hcz4_7
  try clear hcz4_8
  try clear hcz4_9
  try clear hcz7_0
  try clear hcz7_1
  try clear hcz7_2
  try clear hcz7_3
  try clear hcz7_4
  try clear hcz7_5
  try clear hcz7_6
  try clear hcz7_7
  try clear hcz7_8
  try clear hcz7_9
  try clear hcz9_0
  try clear hcz9_1
  try clear hcz9_2
  try clear hcz9_3
  try clear hcz9_4
  try clear hcz9_5
  try clear hcz9_6
  try clear hcz9_7
  try clear hcz9_8
  try clear hcz9_9
  try clear hfz10_0
  try clear hfz10_1
  try clear hfz10_2
  try clear hfz10_3
  try clear hfz10_4
  try clear hfz10_5
  try clear hfz10_6
  try clear hfz10_7
  try clear hfz10_8
  try clear hfz10_9
  try clear hfz11_0
  try clear hfz11_1
  try clear hfz11_2
  try clear hfz11_3
  try clear hfz11_4
  try clear hfz11_5
  try clear hfz11_6
  try clear hfz11_7
  try clear hfz11_8
  try clear hfz11_9
  try clear hfz4_0
  try clear hfz4_1
  try clear hfz4_2
  try clear hfz4_3
  try clear hfz4_4
  try clear hfz4_5
  try clear hfz4_6
  try clear hfz4_7
  try clear hfz4_8
  try clear hfz4_9
  try clear hfz7_0
  try clear hfz7_1
  try clear hfz7_2
  try clear hfz7_3
  try clear hfz7_4
  try clear hfz7_5
  try clear hfz7_6
  try clear hfz7_7
  try clear hfz7_8
  try clear hfz7_9
  try clear hfz9_0
  try clear hfz9_1
  try clear hfz9_2
  try clear hfz9_3
  try clear hfz9_4
  try clear hfz9_5
  try clear hfz9_6
  try clear hfz9_7
  try clear hfz9_8
  try clear hfz9_9
  obtain ⟨kq, x15_1, rfl, HA, HJ1, BK143, HB⟩ := hcut
  cases kq with
  | zero => exact absurd HA.out (by simp [ip_Bytes.j0])
  | succ kj1 =>
   have H := HA.out
   clear HA
   simp only [ip_Bytes.j0] at H
   by_cases c12 : x15_1 = true
   ·subst c12
    have H1 : (some (([] : List Int), 21)) = some (r1, r2) := by rw [if_pos rfl] at H; exact H
    clear H
    have H := H1
    clear H1
    simp only [Option.some.injEq, Prod.mk.injEq] at H
    obtain ⟨rfl, rfl⟩ := H
    go_wp2
    repeat (go_quiet (fail); try go_wp2)
    go_ret2
    exact ⟨_, by first | rfl | (simp [errW_none, errW_some] <;> rfl) | (simp [*, errW_none, errW_some] <;> rfl), by first | exact Kd.R_nil _ _ _ _ _ | exact Kd.N_nil _ _ _ _ _ | exact Kd.V_nil _ _ _ _ _ | exact Kd.Q_nil _ _ _ _ _ | exact Kd.S_nil _ _ _ _ _, by repeat (first | (with_reducible first | exact HB.out | apply below_alloc | apply pw_below_drewN | apply below_drew1 | refine below_set ?_ GE143.out) | exact HB.out)⟩
   ·replace c12 := Bool.eq_false_iff.mpr c12
    subst c12
    have H1 : (if (l0_9.length : Int) > (wrap64 (65535 - (wrap64 (20 + (l0_8.length : Int))))) then (some (([] : List Int), 23)) else ((some (([a0_6, a0_7] : List Int) : List Int)).bind fun y147 => (ip_Bytes.l0 kj1 (([Go.bits .or .u8 64 ((wrap64 (Int.tdiv (wrap64 (20 + (l0_8.length : Int))) 4)) % 256), a0_0, ((wrap64 ((wrap64 (20 + (l0_8.length : Int))) + (l0_9.length : Int))) / 256) % 256, (wrap64 ((wrap64 (20 + (l0_8.length : Int))) + (l0_9.length : Int))) % 256, (a0_3 / 256) % 256, (a0_3) % 256, ((Go.bits .or .u16 (IntKind.u16.wrap ((IntKind.u16.wrap (a0_4)) * 8192)) a0_5) / 256) % 256, (Go.bits .or .u16 (IntKind.u16.wrap ((IntKind.u16.wrap (a0_4)) * 8192)) a0_5) % 256, a0_1, a0_2, 0, 0] : List Int)) y147 (y147.length : Int) 0 a0_0 a0_1 a0_2 a0_3 a0_4 a0_5 a0_6 a0_7 l0_8 l0_9))) = some (r1, r2) := by rw [if_neg (show ¬ (false = true) by decide)] at H; exact H
    clear H
    have H := H1
    clear H1
    by_cases c13 : (l0_9.length : Int) > (wrap64 (65535 - (wrap64 (20 + (l0_8.length : Int)))))
    ·rw [if_pos c13] at H
     have c13b0 : decide ((wrap64 (65535 - (wrap64 (20 + (l0_8.length : Int))))) < (l0_9.length : Int)) = true := decide_eq_true c13
     clear c13
     simp only [Option.some.injEq, Prod.mk.injEq] at H
     obtain ⟨rfl, rfl⟩ := H
     have hcz14_0 : wc.cell? ⟨gb143, 0, none⟩ = some (.int .u8 a0_0) := (blk_cell BK143.out 0).trans rfl
     have hcz14_1 : wc.cell? ⟨gb143, 1, none⟩ = some (.int .u8 a0_1) := (blk_cell BK143.out 1).trans rfl
     have hcz14_2 : wc.cell? ⟨gb143, 2, none⟩ = some (.int .u8 a0_2) := (blk_cell BK143.out 2).trans rfl
     have hcz14_3 : wc.cell? ⟨gb143, 3, none⟩ = some (.int .u16 a0_3) := (blk_cell BK143.out 3).trans rfl
     have hcz14_4 : wc.cell? ⟨gb143, 4, none⟩ = some (.int .u8 a0_4) := (blk_cell BK143.out 4).trans rfl
     have hcz14_5 : wc.cell? ⟨gb143, 5, none⟩ = some (.int .u16 a0_5) := (blk_cell BK143.out 5).trans rfl
     have hcz14_6 : wc.cell? ⟨gb143, 6, none⟩ = some (.int .u32 a0_6) := (blk_cell BK143.out 6).trans rfl
     have hcz14_7 : wc.cell? ⟨gb143, 7, none⟩ = some (.int .u32 a0_7) := (blk_cell BK143.out 7).trans rfl
     have hcz14_8 : wc.cell? ⟨gb143, 8, none⟩ = some (.slice A0_8 l0_8.length c0_8) := (blk_cell BK143.out 8).trans rfl
     have hcz14_9 : wc.cell? ⟨gb143, 9, none⟩ = some (.slice A0_9 l0_9.length c0_9) := (blk_cell BK143.out 9).trans rfl
     have hfz14_0 := blk_frozen BK143.out 0
     have hfz14_1 := blk_frozen BK143.out 1
     have hfz14_2 := blk_frozen BK143.out 2
     have hfz14_3 := blk_frozen BK143.out 3
     have hfz14_4 := blk_frozen BK143.out 4
     have hfz14_5 := blk_frozen BK143.out 5
     have hfz14_6 := blk_frozen BK143.out 6
     have hfz14_7 := blk_frozen BK143.out 7
     have hfz14_8 := blk_frozen BK143.out 8
     have hfz14_9 := blk_frozen BK143.out 9
     go_wp2
     repeat (go_quiet (fail); try go_wp2)
     go_ret2
     exact ⟨_, by first | rfl | (simp [errW_none, errW_some] <;> rfl) | (simp [*, errW_none, errW_some] <;> rfl), by first | exact Kd.R_nil _ _ _ _ _ | exact Kd.N_nil _ _ _ _ _ | exact Kd.V_nil _ _ _ _ _ | exact Kd.Q_nil _ _ _ _ _ | exact Kd.S_nil _ _ _ _ _, by repeat (first | (with_reducible first | exact HB.out | apply below_alloc | apply pw_below_drewN | apply below_drew1 | refine below_set ?_ GE143.out) | exact HB.out)⟩
    ·rw [if_neg c13] at H
     have c13b0 : decide ((wrap64 (65535 - (wrap64 (20 + (l0_8.length : Int))))) < (l0_9.length : Int)) = false := decide_eq_false c13
     clear c13
     obtain ⟨y144, hy144⟩ : ∃ y_ : List Int, y_ = (([Go.bits .or .u8 64 ((wrap64 (Int.tdiv (wrap64 (20 + (l0_8.length : Int))) 4)) % 256), a0_0, ((wrap64 ((wrap64 (20 + (l0_8.length : Int))) + (l0_9.length : Int))) / 256) % 256, (wrap64 ((wrap64 (20 + (l0_8.length : Int))) + (l0_9.length : Int))) % 256, (a0_3 / 256) % 256, (a0_3) % 256, ((Go.bits .or .u16 (IntKind.u16.wrap ((IntKind.u16.wrap (a0_4)) * 8192)) a0_5) / 256) % 256, (Go.bits .or .u16 (IntKind.u16.wrap ((IntKind.u16.wrap (a0_4)) * 8192)) a0_5) % 256, a0_1, a0_2, 0, 0] : List Int)) := ⟨_, rfl⟩
     replace H : ((some (([a0_6, a0_7] : List Int) : List Int)).bind fun y147 => (ip_Bytes.l0 kj1 y144 y147 (y147.length : Int) 0 a0_0 a0_1 a0_2 a0_3 a0_4 a0_5 a0_6 a0_7 l0_8 l0_9)) = some (r1, r2) := by first | (rw [hy144]; with_reducible exact H) | (have H2_ := (Option.bind_some _ _).symm.trans H; rw [hy144]; with_reducible exact H2_) | (have H2_ := (Option.bind_some _ _).symm.trans H; with_reducible exact H2_) | with_reducible exact H | (rw [hy144]; exact H) | exact H
     have Ny144 := Aside0.mk hy144
     clear hy144
     obtain ⟨y147, hy147⟩ : ∃ y_ : List Int, y_ = (([a0_6, a0_7] : List Int)) := ⟨_, rfl⟩
     replace H : (ip_Bytes.l0 kj1 y144 y147 (y147.length : Int) 0 a0_0 a0_1 a0_2 a0_3 a0_4 a0_5 a0_6 a0_7 l0_8 l0_9) = some (r1, r2) := by first | (rw [hy147]; with_reducible exact H) | (have H2_ := (Option.bind_some _ _).symm.trans H; rw [hy147]; with_reducible exact H2_) | (have H2_ := (Option.bind_some _ _).symm.trans H; with_reducible exact H2_) | with_reducible exact H | (rw [hy147]; exact H) | exact H
     have Ny147 := Aside0.mk hy147
     clear hy147
     have H' := Aside0.mk H
     clear H
     have hcz15_0 : wc.cell? ⟨gb143, 0, none⟩ = some (.int .u8 a0_0) := (blk_cell BK143.out 0).trans rfl
     have hcz15_1 : wc.cell? ⟨gb143, 1, none⟩ = some (.int .u8 a0_1) := (blk_cell BK143.out 1).trans rfl
     have hcz15_2 : wc.cell? ⟨gb143, 2, none⟩ = some (.int .u8 a0_2) := (blk_cell BK143.out 2).trans rfl
     have hcz15_3 : wc.cell? ⟨gb143, 3, none⟩ = some (.int .u16 a0_3) := (blk_cell BK143.out 3).trans rfl
     have hcz15_4 : wc.cell? ⟨gb143, 4, none⟩ = some (.int .u8 a0_4) := (blk_cell BK143.out 4).trans rfl
     have hcz15_5 : wc.cell? ⟨gb143, 5, none⟩ = some (.int .u16 a0_5) := (blk_cell BK143.out 5).trans rfl
     have hcz15_6 : wc.cell? ⟨gb143, 6, none⟩ = some (.int .u32 a0_6) := (blk_cell BK143.out 6).trans rfl
     have hcz15_7 : wc.cell? ⟨gb143, 7, none⟩ = some (.int .u32 a0_7) := (blk_cell BK143.out 7).trans rfl
     have hcz15_8 : wc.cell? ⟨gb143, 8, none⟩ = some (.slice A0_8 l0_8.length c0_8) := (blk_cell BK143.out 8).trans rfl
     have hcz15_9 : wc.cell? ⟨gb143, 9, none⟩ = some (.slice A0_9 l0_9.length c0_9) := (blk_cell BK143.out 9).trans rfl
     have hfz15_0 := blk_frozen BK143.out 0
     have hfz15_1 := blk_frozen BK143.out 1
     have hfz15_2 := blk_frozen BK143.out 2
     have hfz15_3 := blk_frozen BK143.out 3
     have hfz15_4 := blk_frozen BK143.out 4
     have hfz15_5 := blk_frozen BK143.out 5
     have hfz15_6 := blk_frozen BK143.out 6
     have hfz15_7 := blk_frozen BK143.out 7
     have hfz15_8 := blk_frozen BK143.out 8
     have hfz15_9 := blk_frozen BK143.out 9
     go_wp2_with (first | ((with_reducible refine gate_dst (N := 83) rfl ?_); (try (refine gate_guard (by rfl) ?_; dsimp only)); refine Kd.R_lit (Kd.int .u8) _ 5 ?hg (N := 83) ?hd (xs := ([Go.bits .or .u8 64 ((wrap64 (Int.tdiv (wrap64 (20 + (l0_8.length : Int))) 4)) % 256), a0_0, ((wrap64 ((wrap64 (20 + (l0_8.length : Int))) + (l0_9.length : Int))) / 256) % 256, (wrap64 ((wrap64 (20 + (l0_8.length : Int))) + (l0_9.length : Int))) % 256, (a0_3 / 256) % 256, (a0_3) % 256, ((Go.bits .or .u16 (IntKind.u16.wrap ((IntKind.u16.wrap (a0_4)) * 8192)) a0_5) / 256) % 256, (Go.bits .or .u16 (IntKind.u16.wrap ((IntKind.u16.wrap (a0_4)) * 8192)) a0_5) % 256, a0_1, a0_2, 0, 0] : List Int)) (inner := [.int .u8 (Go.bits .or .u8 64 ((wrap64 (Int.tdiv (wrap64 (20 + (l0_8.length : Int))) 4)) % 256)), .int .u8 a0_0, .int .u8 (((wrap64 ((wrap64 (20 + (l0_8.length : Int))) + (l0_9.length : Int))) / 256) % 256), .int .u8 ((wrap64 ((wrap64 (20 + (l0_8.length : Int))) + (l0_9.length : Int))) % 256), .int .u8 ((a0_3 / 256) % 256), .int .u8 ((a0_3) % 256), .int .u8 (((Go.bits .or .u16 (IntKind.u16.wrap ((IntKind.u16.wrap (a0_4)) * 8192)) a0_5) / 256) % 256), .int .u8 ((Go.bits .or .u16 (IntKind.u16.wrap ((IntKind.u16.wrap (a0_4)) * 8192)) a0_5) % 256), .int .u8 a0_1, .int .u8 a0_2, .int .u8 0, .int .u8 0]) (ok := fun _ => True) (okp := fun _ => True) ?hr ?hp (fun _ hk => hk) trivial (Below.refl _ _) (Nat.le_refl _) (by simp) ?_; (case hd => rfl); (case hg => rfl); (case hr => first | (go_simp; done) | (go_simp; simp only [IntKind.wrap_u8, IntKind.wrap_u16, IntKind.wrap_u32]; done) | (go_simp; rfl)); (case hp => exact (Reps.one (show Kd.M (Kd.int .u8) _ _ _ (Go.bits .or .u8 64 ((wrap64 (Int.tdiv (wrap64 (20 + (l0_8.length : Int))) 4)) % 256)) [.int .u8 (Go.bits .or .u8 64 ((wrap64 (Int.tdiv (wrap64 (20 + (l0_8.length : Int))) 4)) % 256))] from rfl) (Reps.one (show Kd.M (Kd.int .u8) _ _ _ a0_0 [.int .u8 a0_0] from rfl) (Reps.one (show Kd.M (Kd.int .u8) _ _ _ (((wrap64 ((wrap64 (20 + (l0_8.length : Int))) + (l0_9.length : Int))) / 256) % 256) [.int .u8 (((wrap64 ((wrap64 (20 + (l0_8.length : Int))) + (l0_9.length : Int))) / 256) % 256)] from rfl) (Reps.one (show Kd.M (Kd.int .u8) _ _ _ ((wrap64 ((wrap64 (20 + (l0_8.length : Int))) + (l0_9.length : Int))) % 256) [.int .u8 ((wrap64 ((wrap64 (20 + (l0_8.length : Int))) + (l0_9.length : Int))) % 256)] from rfl) (Reps.one (show Kd.M (Kd.int .u8) _ _ _ ((a0_3 / 256) % 256) [.int .u8 ((a0_3 / 256) % 256)] from rfl) (Reps.one (show Kd.M (Kd.int .u8) _ _ _ ((a0_3) % 256) [.int .u8 ((a0_3) % 256)] from rfl) (Reps.one (show Kd.M (Kd.int .u8) _ _ _ (((Go.bits .or .u16 (IntKind.u16.wrap ((IntKind.u16.wrap (a0_4)) * 8192)) a0_5) / 256) % 256) [.int .u8 (((Go.bits .or .u16 (IntKind.u16.wrap ((IntKind.u16.wrap (a0_4)) * 8192)) a0_5) / 256) % 256)] from rfl) (Reps.one (show Kd.M (Kd.int .u8) _ _ _ ((Go.bits .or .u16 (IntKind.u16.wrap ((IntKind.u16.wrap (a0_4)) * 8192)) a0_5) % 256) [.int .u8 ((Go.bits .or .u16 (IntKind.u16.wrap ((IntKind.u16.wrap (a0_4)) * 8192)) a0_5) % 256)] from rfl) (Reps.one (show Kd.M (Kd.int .u8) _ _ _ a0_1 [.int .u8 a0_1] from rfl) (Reps.one (show Kd.M (Kd.int .u8) _ _ _ a0_2 [.int .u8 a0_2] from rfl) (Reps.one (show Kd.M (Kd.int .u8) _ _ _ 0 [.int .u8 0] from rfl) (Reps.one (show Kd.M (Kd.int .u8) _ _ _ 0 [.int .u8 0] from rfl) (Reps.none _ _)))))))))))))); intro v145 w16 ho17 hb hg_ hnew_; clear hg_ hnew_; (first | rw [← Ny144.out] at ho17 | (simp only [Int.reduceToNat] at ho17; rw [← Ny144.out] at ho17)); have n0_ := Aside0.mk (Kd.R_lower ho17 (below_size (by repeat (first | (with_reducible first | exact HB.out | apply below_alloc | apply pw_below_drewN | apply below_drew1 | refine below_set ?_ GE143.out) | exact HB.out)))); have n1_ := Aside0.mk (blk_below (g := gb143) (o := .cells #[.int .u8 a0_0, .int .u8 a0_1, .int .u8 a0_2, .int .u16 a0_3, .int .u8 a0_4, .int .u16 a0_5, .int .u32 a0_6, .int .u32 a0_7, .slice A0_8 l0_8.length c0_8, .slice A0_9 l0_9.length c0_9] 30 (0, 0)) (by (with_reducible repeat (first | refine blk_drewN ?_ _ | refine blk_drew ?_ | refine blk_alloc ?_ _)); exact BK143.out) hb); have n2_ := Aside0.mk (below_step (by repeat (first | (with_reducible first | exact HB.out | apply below_alloc | apply pw_below_drewN | apply below_drew1 | refine below_set ?_ GE143.out) | exact HB.out)) hb); clear BK143; clear HB; have HO146 := n0_; have BK143 := n1_; have HB := n2_; clear n0_ n1_ n2_; clear hb ho17; have hcz18_0 : w16.cell? ⟨gb143, 0, none⟩ = some (.int .u8 a0_0) := (blk_cell BK143.out 0).trans rfl; have hcz18_1 : w16.cell? ⟨gb143, 1, none⟩ = some (.int .u8 a0_1) := (blk_cell BK143.out 1).trans rfl; have hcz18_2 : w16.cell? ⟨gb143, 2, none⟩ = some (.int .u8 a0_2) := (blk_cell BK143.out 2).trans rfl; have hcz18_3 : w16.cell? ⟨gb143, 3, none⟩ = some (.int .u16 a0_3) := (blk_cell BK143.out 3).trans rfl; have hcz18_4 : w16.cell? ⟨gb143, 4, none⟩ = some (.int .u8 a0_4) := (blk_cell BK143.out 4).trans rfl; have hcz18_5 : w16.cell? ⟨gb143, 5, none⟩ = some (.int .u16 a0_5) := (blk_cell BK143.out 5).trans rfl; have hcz18_6 : w16.cell? ⟨gb143, 6, none⟩ = some (.int .u32 a0_6) := (blk_cell BK143.out 6).trans rfl; have hcz18_7 : w16.cell? ⟨gb143, 7, none⟩ = some (.int .u32 a0_7) := (blk_cell BK143.out 7).trans rfl; have hcz18_8 : w16.cell? ⟨gb143, 8, none⟩ = some (.slice A0_8 l0_8.length c0_8) := (blk_cell BK143.out 8).trans rfl; have hcz18_9 : w16.cell? ⟨gb143, 9, none⟩ = some (.slice A0_9 l0_9.length c0_9) := (blk_cell BK143.out 9).trans rfl; have hfz18_0 := blk_frozen BK143.out 0; have hfz18_1 := blk_frozen BK143.out 1; have hfz18_2 := blk_frozen BK143.out 2; have hfz18_3 := blk_frozen BK143.out 3; have hfz18_4 := blk_frozen BK143.out 4; have hfz18_5 := blk_frozen BK143.out 5; have hfz18_6 := blk_frozen BK143.out 6; have hfz18_7 := blk_frozen BK143.out 7; have hfz18_8 := blk_frozen BK143.out 8; have hfz18_9 := blk_frozen BK143.out 9) | ((with_reducible refine gate_dst (N := 88) rfl ?_); (try (refine gate_guard (by rfl) ?_; dsimp only)); refine Kd.R_lit (Kd.int .u32) _ 28 ?hg (N := 88) ?hd (xs := ([a0_6, a0_7] : List Int)) (inner := [.int .u32 a0_6, .int .u32 a0_7]) (ok := fun _ => True) (okp := fun _ => True) ?hr ?hp (fun _ hk => hk) trivial (Below.refl _ _) (Nat.le_refl _) (by simp) ?_; (case hd => rfl); (case hg => rfl); (case hr => first | (go_simp; done) | (go_simp; rfl)); (case hp => exact (Reps.one (show Kd.M (Kd.int .u32) _ _ _ a0_6 [.int .u32 a0_6] from rfl) (Reps.one (show Kd.M (Kd.int .u32) _ _ _ a0_7 [.int .u32 a0_7] from rfl) (Reps.none _ _)))); intro v148 w19 ho20 hb hg_ hnew_; clear hg_ hnew_; (first | rw [← Ny147.out] at ho20 | (simp only [Int.reduceToNat] at ho20; rw [← Ny147.out] at ho20)); have n0_ := Aside0.mk (Kd.R_below (by (with_reducible repeat (first | apply Kd.R_alloc | apply Kd.R_drewN | apply Kd.R_drew)); exact HO146.out) hb); have n1_ := Aside0.mk (Kd.R_lower ho20 (below_size (by repeat (first | (with_reducible first | exact HB.out | apply below_alloc | apply pw_below_drewN | apply below_drew1 | refine below_set ?_ GE143.out) | exact HB.out)))); have n2_ := Aside0.mk (blk_below (g := gb143) (o := .cells #[.int .u8 a0_0, .int .u8 a0_1, .int .u8 a0_2, .int .u16 a0_3, .int .u8 a0_4, .int .u16 a0_5, .int .u32 a0_6, .int .u32 a0_7, .slice A0_8 l0_8.length c0_8, .slice A0_9 l0_9.length c0_9] 30 (0, 0)) (by (with_reducible repeat (first | refine blk_drewN ?_ _ | refine blk_drew ?_ | refine blk_alloc ?_ _)); exact BK143.out) hb); have n3_ := Aside0.mk (below_step (by repeat (first | (with_reducible first | exact HB.out | apply below_alloc | apply pw_below_drewN | apply below_drew1 | refine below_set ?_ GE143.out) | exact HB.out)) hb); clear HO146; clear BK143; clear HB; have HO146 := n0_; have HO149 := n1_; have BK143 := n2_; have HB := n3_; clear n0_ n1_ n2_ n3_; clear hb ho20; obtain ⟨Ao21, co21, eo21⟩ := Kd.R_slice HO149.out; subst eo21))
     repeat (go_quiet (first | ((with_reducible refine gate_dst (N := 83) rfl ?_); (try (refine gate_guard (by rfl) ?_; dsimp only)); refine Kd.R_lit (Kd.int .u8) _ 5 ?hg (N := 83) ?hd (xs := ([Go.bits .or .u8 64 ((wrap64 (Int.tdiv (wrap64 (20 + (l0_8.length : Int))) 4)) % 256), a0_0, ((wrap64 ((wrap64 (20 + (l0_8.length : Int))) + (l0_9.length : Int))) / 256) % 256, (wrap64 ((wrap64 (20 + (l0_8.length : Int))) + (l0_9.length : Int))) % 256, (a0_3 / 256) % 256, (a0_3) % 256, ((Go.bits .or .u16 (IntKind.u16.wrap ((IntKind.u16.wrap (a0_4)) * 8192)) a0_5) / 256) % 256, (Go.bits .or .u16 (IntKind.u16.wrap ((IntKind.u16.wrap (a0_4)) * 8192)) a0_5) % 256, a0_1, a0_2, 0, 0] : List Int)) (inner := [.int .u8 (Go.bits .or .u8 64 ((wrap64 (Int.tdiv (wrap64 (20 + (l0_8.length : Int))) 4)) % 256)), .int .u8 a0_0, .int .u8 (((wrap64 ((wrap64 (20 + (l0_8.length : Int))) + (l0_9.length : Int))) / 256) % 256), .int .u8 ((wrap64 ((wrap64 (20 + (l0_8.length : Int))) + (l0_9.length : Int))) % 256), .int .u8 ((a0_3 / 256) % 256), .int .u8 ((a0_3) % 256), .int .u8 (((Go.bits .or .u16 (IntKind.u16.wrap ((IntKind.u16.wrap (a0_4)) * 8192)) a0_5) / 256) % 256), .int .u8 ((Go.bits .or .u16 (IntKind.u16.wrap ((IntKind.u16.wrap (a0_4)) * 8192)) a0_5) % 256), .int .u8 a0_1, .int .u8 a0_2, .int .u8 0, .int .u8 0]) (ok := fun _ => True) (okp := fun _ => True) ?hr ?hp (fun _ hk => hk) trivial (Below.refl _ _) (Nat.le_refl _) (by simp) ?_; (case hd => rfl); (case hg => rfl); (case hr => first | (go_simp; done) | (go_simp; simp only [IntKind.wrap_u8, IntKind.wrap_u16, IntKind.wrap_u32]; done) | (go_simp; rfl)); (case hp => exact (Reps.one (show Kd.M (Kd.int .u8) _ _ _ (Go.bits .or .u8 64 ((wrap64 (Int.tdiv (wrap64 (20 + (l0_8.length : Int))) 4)) % 256)) [.int .u8 (Go.bits .or .u8 64 ((wrap64 (Int.tdiv (wrap64 (20 + (l0_8.length : Int))) 4)) % 256))] from rfl) (Reps.one (show Kd.M (Kd.int .u8) _ _ _ a0_0 [.int .u8 a0_0] from rfl) (Reps.one (show Kd.M (Kd.int .u8) _ _ _ (((wrap64 ((wrap64 (20 + (l0_8.length : Int))) + (l0_9.length : Int))) / 256) % 256) [.int .u8 (((wrap64 ((wrap64 (20 + (l0_8.length : Int))) + (l0_9.length : Int))) / 256) % 256)] from rfl) (Reps.one (show Kd.M (Kd.int .u8) _ _ _ ((wrap64 ((wrap64 (20 + (l0_8.length : Int))) + (l0_9.length : Int))) % 256) [.int .u8 ((wrap64 ((wrap64 (20 + (l0_8.length : Int))) + (l0_9.length : Int))) % 256)] from rfl) (Reps.one (show Kd.M (Kd.int .u8) _ _ _ ((a0_3 / 256) % 256) [.int .u8 ((a0_3 / 256) % 256)] from rfl) (Reps.one (show Kd.M (Kd.int .u8) _ _ _ ((a0_3) % 256) [.int .u8 ((a0_3) % 256)] from rfl) (Reps.one (show Kd.M (Kd.int .u8) _ _ _ (((Go.bits .or .u16 (IntKind.u16.wrap ((IntKind.u16.wrap (a0_4)) * 8192)) a0_5) / 256) % 256) [.int .u8 (((Go.bits .or .u16 (IntKind.u16.wrap ((IntKind.u16.wrap (a0_4)) * 8192)) a0_5) / 256) % 256)] from rfl) (Reps.one (show Kd.M (Kd.int .u8) _ _ _ ((Go.bits .or .u16 (IntKind.u16.wrap ((IntKind.u16.wrap (a0_4)) * 8192)) a0_5) % 256) [.int .u8 ((Go.bits .or .u16 (IntKind.u16.wrap ((IntKind.u16.wrap (a0_4)) * 8192)) a0_5) % 256)] from rfl) (Reps.one (show Kd.M (Kd.int .u8) _ _ _ a0_1 [.int .u8 a0_1] from rfl) (Reps.one (show Kd.M (Kd.int .u8) _ _ _ a0_2 [.int .u8 a0_2] from rfl) (Reps.one (show Kd.M (Kd.int .u8) _ _ _ 0 [.int .u8 0] from rfl) (Reps.one (show Kd.M (Kd.int .u8) _ _ _ 0 [.int .u8 0] from rfl) (Reps.none _ _)))))))))))))); intro v145 w16 ho17 hb hg_ hnew_; clear hg_ hnew_; (first | rw [← Ny144.out] at ho17 | (simp only [Int.reduceToNat] at ho17; rw [← Ny144.out] at ho17)); have n0_ := Aside0.mk (Kd.R_lower ho17 (below_size (by repeat (first | (with_reducible first | exact HB.out | apply below_alloc | apply pw_below_drewN | apply below_drew1 | refine below_set ?_ GE143.out) | exact HB.out)))); have n1_ := Aside0.mk (blk_below (g := gb143) (o := .cells #[.int .u8 a0_0, .int .u8 a0_1, .int .u8 a0_2, .int .u16 a0_3, .int .u8 a0_4, .int .u16 a0_5, .int .u32 a0_6, .int .u32 a0_7, .slice A0_8 l0_8.length c0_8, .slice A0_9 l0_9.length c0_9] 30 (0, 0)) (by (with_reducible repeat (first | refine blk_drewN ?_ _ | refine blk_drew ?_ | refine blk_alloc ?_ _)); exact BK143.out) hb); have n2_ := Aside0.mk (below_step (by repeat (first | (with_reducible first | exact HB.out | apply below_alloc | apply pw_below_drewN | apply below_drew1 | refine below_set ?_ GE143.out) | exact HB.out)) hb); clear BK143; clear HB; have HO146 := n0_; have BK143 := n1_; have HB := n2_; clear n0_ n1_ n2_; clear hb ho17; have hcz18_0 : w16.cell? ⟨gb143, 0, none⟩ = some (.int .u8 a0_0) := (blk_cell BK143.out 0).trans rfl; have hcz18_1 : w16.cell? ⟨gb143, 1, none⟩ = some (.int .u8 a0_1) := (blk_cell BK143.out 1).trans rfl; have hcz18_2 : w16.cell? ⟨gb143, 2, none⟩ = some (.int .u8 a0_2) := (blk_cell BK143.out 2).trans rfl; have hcz18_3 : w16.cell? ⟨gb143, 3, none⟩ = some (.int .u16 a0_3) := (blk_cell BK143.out 3).trans rfl; have hcz18_4 : w16.cell? ⟨gb143, 4, none⟩ = some (.int .u8 a0_4) := (blk_cell BK143.out 4).trans rfl; have hcz18_5 : w16.cell? ⟨gb143, 5, none⟩ = some (.int .u16 a0_5) := (blk_cell BK143.out 5).trans rfl; have hcz18_6 : w16.cell? ⟨gb143, 6, none⟩ = some (.int .u32 a0_6) := (blk_cell BK143.out 6).trans rfl; have hcz18_7 : w16.cell? ⟨gb143, 7, none⟩ = some (.int .u32 a0_7) := (blk_cell BK143.out 7).trans rfl; have hcz18_8 : w16.cell? ⟨gb143, 8, none⟩ = some (.slice A0_8 l0_8.length c0_8) := (blk_cell BK143.out 8).trans rfl; have hcz18_9 : w16.cell? ⟨gb143, 9, none⟩ = some (.slice A0_9 l0_9.length c0_9) := (blk_cell BK143.out 9).trans rfl; have hfz18_0 := blk_frozen BK143.out 0; have hfz18_1 := blk_frozen BK143.out 1; have hfz18_2 := blk_frozen BK143.out 2; have hfz18_3 := blk_frozen BK143.out 3; have hfz18_4 := blk_frozen BK143.out 4; have hfz18_5 := blk_frozen BK143.out 5; have hfz18_6 := blk_frozen BK143.out 6; have hfz18_7 := blk_frozen BK143.out 7; have hfz18_8 := blk_frozen BK143.out 8; have hfz18_9 := blk_frozen BK143.out 9) | ((with_reducible refine gate_dst (N := 88) rfl ?_); (try (refine gate_guard (by rfl) ?_; dsimp only)); refine Kd.R_lit (Kd.int .u32) _ 28 ?hg (N := 88) ?hd (xs := ([a0_6, a0_7] : List Int)) (inner := [.int .u32 a0_6, .int .u32 a0_7]) (ok := fun _ => True) (okp := fun _ => True) ?hr ?hp (fun _ hk => hk) trivial (Below.refl _ _) (Nat.le_refl _) (by simp) ?_; (case hd => rfl); (case hg => rfl); (case hr => first | (go_simp; done) | (go_simp; rfl)); (case hp => exact (Reps.one (show Kd.M (Kd.int .u32) _ _ _ a0_6 [.int .u32 a0_6] from rfl) (Reps.one (show Kd.M (Kd.int .u32) _ _ _ a0_7 [.int .u32 a0_7] from rfl) (Reps.none _ _)))); intro v148 w19 ho20 hb hg_ hnew_; clear hg_ hnew_; (first | rw [← Ny147.out] at ho20 | (simp only [Int.reduceToNat] at ho20; rw [← Ny147.out] at ho20)); have n0_ := Aside0.mk (Kd.R_below (by (with_reducible repeat (first | apply Kd.R_alloc | apply Kd.R_drewN | apply Kd.R_drew)); exact HO146.out) hb); have n1_ := Aside0.mk (Kd.R_lower ho20 (below_size (by repeat (first | (with_reducible first | exact HB.out | apply below_alloc | apply pw_below_drewN | apply below_drew1 | refine below_set ?_ GE143.out) | exact HB.out)))); have n2_ := Aside0.mk (blk_below (g := gb143) (o := .cells #[.int .u8 a0_0, .int .u8 a0_1, .int .u8 a0_2, .int .u16 a0_3, .int .u8 a0_4, .int .u16 a0_5, .int .u32 a0_6, .int .u32 a0_7, .slice A0_8 l0_8.length c0_8, .slice A0_9 l0_9.length c0_9] 30 (0, 0)) (by (with_reducible repeat (first | refine blk_drewN ?_ _ | refine blk_drew ?_ | refine blk_alloc ?_ _)); exact BK143.out) hb); have n3_ := Aside0.mk (below_step (by repeat (first | (with_reducible first | exact HB.out | apply below_alloc | apply pw_below_drewN | apply below_drew1 | refine below_set ?_ GE143.out) | exact HB.out)) hb); clear HO146; clear BK143; clear HB; have HO146 := n0_; have HO149 := n1_; have BK143 := n2_; have HB := n3_; clear n0_ n1_ n2_ n3_; clear hb ho20; obtain ⟨Ao21, co21, eo21⟩ := Kd.R_slice HO149.out; subst eo21)); try go_wp2_with (first | ((with_reducible refine gate_dst (N := 83) rfl ?_); (try (refine gate_guard (by rfl) ?_; dsimp only)); refine Kd.R_lit (Kd.int .u8) _ 5 ?hg (N := 83) ?hd (xs := ([Go.bits .or .u8 64 ((wrap64 (Int.tdiv (wrap64 (20 + (l0_8.length : Int))) 4)) % 256), a0_0, ((wrap64 ((wrap64 (20 + (l0_8.length : Int))) + (l0_9.length : Int))) / 256) % 256, (wrap64 ((wrap64 (20 + (l0_8.length : Int))) + (l0_9.length : Int))) % 256, (a0_3 / 256) % 256, (a0_3) % 256, ((Go.bits .or .u16 (IntKind.u16.wrap ((IntKind.u16.wrap (a0_4)) * 8192)) a0_5) / 256) % 256, (Go.bits .or .u16 (IntKind.u16.wrap ((IntKind.u16.wrap (a0_4)) * 8192)) a0_5) % 256, a0_1, a0_2, 0, 0] : List Int)) (inner := [.int .u8 (Go.bits .or .u8 64 ((wrap64 (Int.tdiv (wrap64 (20 + (l0_8.length : Int))) 4)) % 256)), .int .u8 a0_0, .int .u8 (((wrap64 ((wrap64 (20 + (l0_8.length : Int))) + (l0_9.length : Int))) / 256) % 256), .int .u8 ((wrap64 ((wrap64 (20 + (l0_8.length : Int))) + (l0_9.length : Int))) % 256), .int .u8 ((a0_3 / 256) % 256), .int .u8 ((a0_3) % 256), .int .u8 (((Go.bits .or .u16 (IntKind.u16.wrap ((IntKind.u16.wrap (a0_4)) * 8192)) a0_5) / 256) % 256), .int .u8 ((Go.bits .or .u16 (IntKind.u16.wrap ((IntKind.u16.wrap (a0_4)) * 8192)) a0_5) % 256), .int .u8 a0_1, .int .u8 a0_2, .int .u8 0, .int .u8 0]) (ok := fun _ => True) (okp := fun _ => True) ?hr ?hp (fun _ hk => hk) trivial (Below.refl _ _) (Nat.le_refl _) (by simp) ?_; (case hd => rfl); (case hg => rfl); (case hr => first | (go_simp; done) | (go_simp; simp only [IntKind.wrap_u8, IntKind.wrap_u16, IntKind.wrap_u32]; done) | (go_simp; rfl)); (case hp => exact (Reps.one (show Kd.M (Kd.int .u8) _ _ _ (Go.bits .or .u8 64 ((wrap64 (Int.tdiv (wrap64 (20 + (l0_8.length : Int))) 4)) % 256)) [.int .u8 (Go.bits .or .u8 64 ((wrap64 (Int.tdiv (wrap64 (20 + (l0_8.length : Int))) 4)) % 256))] from rfl) (Reps.one (show Kd.M (Kd.int .u8) _ _ _ a0_0 [.int .u8 a0_0] from rfl) (Reps.one (show Kd.M (Kd.int .u8) _ _ _ (((wrap64 ((wrap64 (20 + (l0_8.length : Int))) + (l0_9.length : Int))) / 256) % 256) [.int .u8 (((wrap64 ((wrap64 (20 + (l0_8.length : Int))) + (l0_9.length : Int))) / 256) % 256)] from rfl) (Reps.one (show Kd.M (Kd.int .u8) _ _ _ ((wrap64 ((wrap64 (20 + (l0_8.length : Int))) + (l0_9.length : Int))) % 256) [.int .u8 ((wrap64 ((wrap64 (20 + (l0_8.length : Int))) + (l0_9.length : Int))) % 256)] from rfl) (Reps.one (show Kd.M (Kd.int .u8) _ _ _ ((a0_3 / 256) % 256) [.int .u8 ((a0_3 / 256) % 256)] from rfl) (Reps.one (show Kd.M (Kd.int .u8) _ _ _ ((a0_3) % 256) [.int .u8 ((a0_3) % 256)] from rfl) (Reps.one (show Kd.M (Kd.int .u8) _ _ _ (((Go.bits .or .u16 (IntKind.u16.wrap ((IntKind.u16.wrap (a0_4)) * 8192)) a0_5) / 256) % 256) [.int .u8 (((Go.bits .or .u16 (IntKind.u16.wrap ((IntKind.u16.wrap (a0_4)) * 8192)) a0_5) / 256) % 256)] from rfl) (Reps.one (show Kd.M (Kd.int .u8) _ _ _ ((Go.bits .or .u16 (IntKind.u16.wrap ((IntKind.u16.wrap (a0_4)) * 8192)) a0_5) % 256) [.int .u8 ((Go.bits .or .u16 (IntKind.u16.wrap ((IntKind.u16.wrap (a0_4)) * 8192)) a0_5) % 256)] from rfl) (Reps.one (show Kd.M (Kd.int .u8) _ _ _ a0_1 [.int .u8 a0_1] from rfl) (Reps.one (show Kd.M (Kd.int .u8) _ _ _ a0_2 [.int .u8 a0_2] from rfl) (Reps.one (show Kd.M (Kd.int .u8) _ _ _ 0 [.int .u8 0] from rfl) (Reps.one (show Kd.M (Kd.int .u8) _ _ _ 0 [.int .u8 0] from rfl) (Reps.none _ _)))))))))))))); intro v145 w16 ho17 hb hg_ hnew_; clear hg_ hnew_; (first | rw [← Ny144.out] at ho17 | (simp only [Int.reduceToNat] at ho17; rw [← Ny144.out] at ho17)); have n0_ := Aside0.mk (Kd.R_lower ho17 (below_size (by repeat (first | (with_reducible first | exact HB.out | apply below_alloc | apply pw_below_drewN | apply below_drew1 | refine below_set ?_ GE143.out) | exact HB.out)))); have n1_ := Aside0.mk (blk_below (g := gb143) (o := .cells #[.int .u8 a0_0, .int .u8 a0_1, .int .u8 a0_2, .int .u16 a0_3, .int .u8 a0_4, .int .u16 a0_5, .int .u32 a0_6, .int .u32 a0_7, .slice A0_8 l0_8.length c0_8, .slice A0_9 l0_9.length c0_9] 30 (0, 0)) (by (with_reducible repeat (first | refine blk_drewN ?_ _ | refine blk_drew ?_ | refine blk_alloc ?_ _)); exact BK143.out) hb); have n2_ := Aside0.mk (below_step (by repeat (first | (with_reducible first | exact HB.out | apply below_alloc | apply pw_below_drewN | apply below_drew1 | refine below_set ?_ GE143.out) | exact HB.out)) hb); clear BK143; clear HB; have HO146 := n0_; have BK143 := n1_; have HB := n2_; clear n0_ n1_ n2_; clear hb ho17; have hcz18_0 : w16.cell? ⟨gb143, 0, none⟩ = some (.int .u8 a0_0) := (blk_cell BK143.out 0).trans rfl; have hcz18_1 : w16.cell? ⟨gb143, 1, none⟩ = some (.int .u8 a0_1) := (blk_cell BK143.out 1).trans rfl; have hcz18_2 : w16.cell? ⟨gb143, 2, none⟩ = some (.int .u8 a0_2) := (blk_cell BK143.out 2).trans rfl; have hcz18_3 : w16.cell? ⟨gb143, 3, none⟩ = some (.int .u16 a0_3) := (blk_cell BK143.out 3).trans rfl; have hcz18_4 : w16.cell? ⟨gb143, 4, none⟩ = some (.int .u8 a0_4) := (blk_cell BK143.out 4).trans rfl; have hcz18_5 : w16.cell? ⟨gb143, 5, none⟩ = some (.int .u16 a0_5) := (blk_cell BK143.out 5).trans rfl; have hcz18_6 : w16.cell? ⟨gb143, 6, none⟩ = some (.int .u32 a0_6) := (blk_cell BK143.out 6).trans rfl; have hcz18_7 : w16.cell? ⟨gb143, 7, none⟩ = some (.int .u32 a0_7) := (blk_cell BK143.out 7).trans rfl; have hcz18_8 : w16.cell? ⟨gb143, 8, none⟩ = some (.slice A0_8 l0_8.length c0_8) := (blk_cell BK143.out 8).trans rfl; have hcz18_9 : w16.cell? ⟨gb143, 9, none⟩ = some (.slice A0_9 l0_9.length c0_9) := (blk_cell BK143.out 9).trans rfl; have hfz18_0 := blk_frozen BK143.out 0; have hfz18_1 := blk_frozen BK143.out 1; have hfz18_2 := blk_frozen BK143.out 2; have hfz18_3 := blk_frozen BK143.out 3; have hfz18_4 := blk_frozen BK143.out 4; have hfz18_5 := blk_frozen BK143.out 5; have hfz18_6 := blk_frozen BK143.out 6; have hfz18_7 := blk_frozen BK143.out 7; have hfz18_8 := blk_frozen BK143.out 8; have hfz18_9 := blk_frozen BK143.out 9) | ((with_reducible refine gate_dst (N := 88) rfl ?_); (try (refine gate_guard (by rfl) ?_; dsimp only)); refine Kd.R_lit (Kd.int .u32) _ 28 ?hg (N := 88) ?hd (xs := ([a0_6, a0_7] : List Int)) (inner := [.int .u32 a0_6, .int .u32 a0_7]) (ok := fun _ => True) (okp := fun _ => True) ?hr ?hp (fun _ hk => hk) trivial (Below.refl _ _) (Nat.le_refl _) (by simp) ?_; (case hd => rfl); (case hg => rfl); (case hr => first | (go_simp; done) | (go_simp; rfl)); (case hp => exact (Reps.one (show Kd.M (Kd.int .u32) _ _ _ a0_6 [.int .u32 a0_6] from rfl) (Reps.one (show Kd.M (Kd.int .u32) _ _ _ a0_7 [.int .u32 a0_7] from rfl) (Reps.none _ _)))); intro v148 w19 ho20 hb hg_ hnew_; clear hg_ hnew_; (first | rw [← Ny147.out] at ho20 | (simp only [Int.reduceToNat] at ho20; rw [← Ny147.out] at ho20)); have n0_ := Aside0.mk (Kd.R_below (by (with_reducible repeat (first | apply Kd.R_alloc | apply Kd.R_drewN | apply Kd.R_drew)); exact HO146.out) hb); have n1_ := Aside0.mk (Kd.R_lower ho20 (below_size (by repeat (first | (with_reducible first | exact HB.out | apply below_alloc | apply pw_below_drewN | apply below_drew1 | refine below_set ?_ GE143.out) | exact HB.out)))); have n2_ := Aside0.mk (blk_below (g := gb143) (o := .cells #[.int .u8 a0_0, .int .u8 a0_1, .int .u8 a0_2, .int .u16 a0_3, .int .u8 a0_4, .int .u16 a0_5, .int .u32 a0_6, .int .u32 a0_7, .slice A0_8 l0_8.length c0_8, .slice A0_9 l0_9.length c0_9] 30 (0, 0)) (by (with_reducible repeat (first | refine blk_drewN ?_ _ | refine blk_drew ?_ | refine blk_alloc ?_ _)); exact BK143.out) hb); have n3_ := Aside0.mk (below_step (by repeat (first | (with_reducible first | exact HB.out | apply below_alloc | apply pw_below_drewN | apply below_drew1 | refine below_set ?_ GE143.out) | exact HB.out)) hb); clear HO146; clear BK143; clear HB; have HO146 := n0_; have HO149 := n1_; have BK143 := n2_; have HB := n3_; clear n0_ n1_ n2_ n3_; clear hb ho20; obtain ⟨Ao21, co21, eo21⟩ := Kd.R_slice HO149.out; subst eo21)))
     go_loopg [7, 90] kj1 (fun kq v7 v90 w' => ∃ (x7_2 : List Int) (x90_2 : Int), v90 = .int .i64 x90_2 ∧ Aside0 (ip_Bytes.l0 kq x7_2 y147 (y147.length : Int) x90_2 a0_0 a0_1 a0_2 a0_3 a0_4 a0_5 a0_6 a0_7 l0_8 l0_9 = some (r1, r2)) ∧ Aside0 (kq ≤ kj1) ∧ Aside0 (Kd.R (Kd.int .u8) 5 w' w.heap.size (fun _ => True) v7 x7_2) ∧ Aside0 (Kd.R (Kd.int .u32) 28 w' w.heap.size (fun _ => True) (.slice Ao21 y147.length co21) y147) ∧ Aside0 (w'.heap[gb143]? = some (.cells #[.int .u8 a0_0, .int .u8 a0_1, .int .u8 a0_2, .int .u16 a0_3, .int .u8 a0_4, .int .u16 a0_5, .int .u32 a0_6, .int .u32 a0_7, (.slice A0_8 l0_8.length c0_8), (.slice A0_9 l0_9.length c0_9)] 30 (0, 0))) ∧ Aside0 (Below w.heap.size w w'))
     case atStart => exact ⟨(y144), (0), (by first | rfl | (simp; done) | (simp [*]; done)), H', ⟨Nat.le_refl _⟩, ⟨by (with_reducible repeat (first | apply Kd.R_alloc | apply Kd.R_drewN | apply Kd.R_drew)); exact HO146.out⟩, ⟨by (with_reducible repeat (first | apply Kd.R_alloc | apply Kd.R_drewN | apply Kd.R_drew)); exact HO149.out⟩, ⟨by (with_reducible repeat (first | refine blk_drewN ?_ _ | refine blk_drew ?_ | refine blk_alloc ?_ _)); exact BK143.out⟩, ⟨by repeat (first | (with_reducible first | exact HB.out | apply below_alloc | apply pw_below_drewN | apply below_drew1 | refine below_set ?_ GE143.out) | exact HB.out)⟩⟩
     case round =>
      clear H'
      try clear c1
      try clear p2
      try clear c5
      try clear c5b0
      try clear c5b1
      try clear c6
      try clear c6b0
      try clear c6b1
      try clear p6
      try clear c8
      try clear c8b0
      try clear c12
      try clear c13
      try clear c13b0
      try clear c15
      try clear hcz10_0
      try clear hcz10_1
      try clear hcz10_2
      try clear hcz10_3
      try clear hcz10_4
      try clear hcz10_5
      try clear hcz10_6
      try clear hcz10_7
      try clear hcz10_8
      try clear hcz10_9
      try clear hcz11_0
      try clear hcz11_1
      try clear hcz11_2
      try clear hcz11_3
      try clear hcz11_4
      try clear hcz11_5
      try clear hcz11_6
      try clear hcz11_7
      try clear hcz11_8
      try clear hcz11_9
      try clear hcz14_0
      try clear hcz14_1
      try clear hcz14_2
      try clear hcz14_3
      try clear hcz14_4
      try clear hcz14_5
      try clear hcz14_6
      try clear hcz14_7
      try clear hcz14_8
      try clear hcz14_9
      try clear hcz15_0
      try clear hcz15_1
      try clear hcz15_2
      try clear hcz15_3
      try clear hcz15_4
      try clear hcz15_5
      try clear hcz15_6
      try clear hcz15_7
      try clear hcz15_8
      try clear hcz15_9
      try clear hcz18_0
      try clear hcz18_1
      try clear hcz18_2
      try clear hcz18_3
      try clear hcz18_4
      try clear hcz18_5
      try clear hcz18_6
      try clear hcz18_7
      try clear hcz18_8
      try clear hcz18_9
      try clear hcz4_0
      try clear hcz4_1
      try clear hcz4_2
      try clear hcz4_3
      try clear hcz4_4
      try clear hcz4_5
      try clear hcz4_6
      try clear hcz4_7
      try clear hcz4_8
      try clear hcz4_9
      try clear hcz7_0
      try clear hcz7_1
      try clear hcz7_2
      try clear hcz7_3
      try clear hcz7_4
      try clear hcz7_5
      try clear hcz7_6
      try clear hcz7_7
      try clear hcz7_8
      try clear hcz7_9
      try clear hcz9_0
      try clear hcz9_1
      try clear hcz9_2
      try clear hcz9_3
      try clear hcz9_4
      try clear hcz9_5
      try clear hcz9_6
      try clear hcz9_7
      try clear hcz9_8
      try clear hcz9_9
      try clear hfz10_0
      try clear hfz10_1
      try clear hfz10_2
      try clear hfz10_3
      try clear hfz10_4
      try clear hfz10_5
      try clear hfz10_6
      try clear hfz10_7
      try clear hfz10_8
      try clear hfz10_9
      try clear hfz11_0
      try clear hfz11_1
      try clear hfz11_2
      try clear hfz11_3
      try clear hfz11_4
      try clear hfz11_5
      try clear hfz11_6
      try clear hfz11_7
      try clear hfz11_8
      try clear hfz11_9
      try clear hfz14_0
      try clear hfz14_1
      try clear hfz14_2
      try clear hfz14_3
      try clear hfz14_4
      try clear hfz14_5
      try clear hfz14_6
      try clear hfz14_7
      try clear hfz14_8
      try clear hfz14_9
      try clear hfz15_0
      try clear hfz15_1
      try clear hfz15_2
      try clear hfz15_3
      try clear hfz15_4
      try clear hfz15_5
      try clear hfz15_6
      try clear hfz15_7
      try clear hfz15_8
      try clear hfz15_9
      try clear hfz18_0
      try clear hfz18_1
      try clear hfz18_2
      try clear hfz18_3
      try clear hfz18_4
      try clear hfz18_5
      try clear hfz18_6
      try clear hfz18_7
      try clear hfz18_8
      try clear hfz18_9
      try clear hfz4_0
      try clear hfz4_1
      try clear hfz4_2
      try clear hfz4_3
      try clear hfz4_4
      try clear hfz4_5
      try clear hfz4_6
      try clear hfz4_7
      try clear hfz4_8
      try clear hfz4_9
      try clear hfz7_0
      try clear hfz7_1
      try clear hfz7_2
      try clear hfz7_3
      try clear hfz7_4
      try clear hfz7_5
      try clear hfz7_6
      try clear hfz7_7
      try clear hfz7_8
      try clear hfz7_9
      try clear hfz9_0
      try clear hfz9_1
      try clear hfz9_2
      try clear hfz9_3
      try clear hfz9_4
      try clear hfz9_5
      try clear hfz9_6
      try clear hfz9_7
      try clear hfz9_8
      try clear hfz9_9
      try clear p2
      try clear p6
      obtain ⟨x7_2, x90_2, rfl, HA, HK2, HO_7, HO_88, BK143, HB⟩ := hrel
      cases gk with
      | zero => exact absurd HA.out (by simp [ip_Bytes.l0])
      | succ k2 =>
       have H := HA.out
       clear HA
       simp only [ip_Bytes.l0] at H
       by_cases c22 : x90_2 < (y147.length : Int)
       ·rw [if_pos c22] at H
        have c22b0 : decide (x90_2 < (y147.length : Int)) = true := decide_eq_true c22
        clear c22
        by_cases c23 : 0 ≤ x90_2
        ·rw [if_pos c23] at H
         have c23b0 : decide (0 ≤ x90_2) = true := decide_eq_true c23
         clear c23
         by_cases c24 : x90_2 < (y147.length : Int)
         ·rw [if_pos c24] at H
          have c24b0 : decide (x90_2 < (y147.length : Int)) = true := decide_eq_true c24
          clear c24
          obtain ⟨y151, hy151⟩ : ∃ y_ : List Int, y_ = (([((rd y147 x90_2) / 16777216) % 256, ((rd y147 x90_2) / 65536) % 256, ((rd y147 x90_2) / 256) % 256, (rd y147 x90_2) % 256] : List Int)) := ⟨_, rfl⟩
          replace H : (if x7_2.length + y151.length < 140737488355328 then (ip_Bytes.l0 k2 (x7_2 ++ y151) y147 (y147.length : Int) (wrap64 (x90_2 + 1)) a0_0 a0_1 a0_2 a0_3 a0_4 a0_5 a0_6 a0_7 l0_8 l0_9) else (none)) = some (r1, r2) := by first | (rw [hy151]; with_reducible exact H) | (have H2_ := (Option.bind_some _ _).symm.trans H; rw [hy151]; with_reducible exact H2_) | (have H2_ := (Option.bind_some _ _).symm.trans H; with_reducible exact H2_) | with_reducible exact H | (rw [hy151]; exact H) | exact H
          have Ny151 := Aside0.mk hy151
          clear hy151
          by_cases c25 : x7_2.length + y151.length < 140737488355328
          ·rw [if_pos c25] at H
           have LMc25 := Aside0.mk c25
           clear c25
           obtain ⟨y154, hy154⟩ : ∃ y_ : List Int, y_ = (x7_2 ++ y151) := ⟨_, rfl⟩
           replace H : (ip_Bytes.l0 k2 y154 y147 (y147.length : Int) (wrap64 (x90_2 + 1)) a0_0 a0_1 a0_2 a0_3 a0_4 a0_5 a0_6 a0_7 l0_8 l0_9) = some (r1, r2) := by first | (rw [hy154]; with_reducible exact H) | (have H2_ := (Option.bind_some _ _).symm.trans H; rw [hy154]; with_reducible exact H2_) | (have H2_ := (Option.bind_some _ _).symm.trans H; with_reducible exact H2_) | with_reducible exact H | (rw [hy154]; exact H) | exact H
           have Ny154 := Aside0.mk hy154
           clear hy154
           have H' := Aside0.mk H
           clear H
           have p150 : 0 ≤ (x90_2 : Int) := of_decide_eq_true (by first | (with_reducible assumption) | assumption)
           have q150 : x90_2 < (y147.length : Int) := of_decide_eq_true (by first | (with_reducible assumption) | assumption)
           obtain ⟨ad150, e150, hx150_0⟩ := Kd.at_int (Kd.R_reads' HO_88.out).2.2 x90_2 p150 q150
           cases e150
           replace p150 := eq_true p150
           replace q150 := eq_true q150
           go_wp2_with (first | ((with_reducible refine gate_dst (N := 106) rfl ?_); (try (refine gate_guard (by rfl) ?_; dsimp only)); refine Kd.R_lit (Kd.int .u8) _ 5 ?hg (N := 106) ?hd (xs := ([((rd y147 x90_2) / 16777216) % 256, ((rd y147 x90_2) / 65536) % 256, ((rd y147 x90_2) / 256) % 256, (rd y147 x90_2) % 256] : List Int)) (inner := [.int .u8 (((rd y147 x90_2) / 16777216) % 256), .int .u8 (((rd y147 x90_2) / 65536) % 256), .int .u8 (((rd y147 x90_2) / 256) % 256), .int .u8 ((rd y147 x90_2) % 256)]) (ok := fun _ => True) (okp := fun _ => True) ?hr ?hp (fun _ hk => hk) trivial (Below.refl _ _) (Nat.le_refl _) (by simp) ?_; (case hd => rfl); (case hg => rfl); (case hr => first | (go_simp; done) | (go_simp; simp only [IntKind.wrap_u8, IntKind.wrap_u16, IntKind.wrap_u32]; done) | (go_simp; rfl)); (case hp => exact (Reps.one (show Kd.M (Kd.int .u8) _ _ _ (((rd y147 x90_2) / 16777216) % 256) [.int .u8 (((rd y147 x90_2) / 16777216) % 256)] from rfl) (Reps.one (show Kd.M (Kd.int .u8) _ _ _ (((rd y147 x90_2) / 65536) % 256) [.int .u8 (((rd y147 x90_2) / 65536) % 256)] from rfl) (Reps.one (show Kd.M (Kd.int .u8) _ _ _ (((rd y147 x90_2) / 256) % 256) [.int .u8 (((rd y147 x90_2) / 256) % 256)] from rfl) (Reps.one (show Kd.M (Kd.int .u8) _ _ _ ((rd y147 x90_2) % 256) [.int .u8 ((rd y147 x90_2) % 256)] from rfl) (Reps.none _ _)))))); intro v152 w26 ho27 hb hg_ hnew_; clear hg_ hnew_; (first | rw [← Ny151.out] at ho27 | (simp only [Int.reduceToNat] at ho27; rw [← Ny151.out] at ho27)); have n0_ := Aside0.mk (Kd.R_elder' (by (with_reducible repeat (first | apply Kd.R_alloc | apply Kd.R_drewN | apply Kd.R_drew)); exact HO_7.out) (Kd.R_base ho27) hb); have n1_ := Aside0.mk (Kd.R_below (by (with_reducible repeat (first | apply Kd.R_alloc | apply Kd.R_drewN | apply Kd.R_drew)); exact HO_88.out) hb); have n2_ := Aside0.mk (Kd.R_lower (Kd.R_new' ho27 (Kd.R_lt (by (with_reducible repeat (first | apply Kd.R_alloc | apply Kd.R_drewN | apply Kd.R_drew)); exact HO_7.out))) (below_size (by repeat (first | (with_reducible first | exact HB.out | apply below_alloc | apply pw_below_drewN | apply below_drew1 | refine below_set ?_ GE143.out) | exact HB.out)))); have n3_ := Aside0.mk (blk_below (g := gb143) (o := .cells #[.int .u8 a0_0, .int .u8 a0_1, .int .u8 a0_2, .int .u16 a0_3, .int .u8 a0_4, .int .u16 a0_5, .int .u32 a0_6, .int .u32 a0_7, .slice A0_8 l0_8.length c0_8, .slice A0_9 l0_9.length c0_9] 30 (0, 0)) (by (with_reducible repeat (first | refine blk_drewN ?_ _ | refine blk_drew ?_ | refine blk_alloc ?_ _)); exact BK143.out) hb); have n4_ := Aside0.mk (below_step (by repeat (first | (with_reducible first | exact HB.out | apply below_alloc | apply pw_below_drewN | apply below_drew1 | refine below_set ?_ GE143.out) | exact HB.out)) hb); clear HO_7; clear HO_88; clear BK143; clear HB; have HO_7 := n0_; have HO_88 := n1_; have HO153 := n2_; have BK143 := n3_; have HB := n4_; clear n0_ n1_ n2_ n3_ n4_; clear hb ho27; obtain ⟨Ao29, co29, eo29⟩ := Kd.R_slice HO153.out; subst eo29) | ((with_reducible refine gate_builtin (b := .append) (xs := #[.tmp 94, .tmp 106]) rfl ?_); (try (refine gate_guard (by rfl) ?_; dsimp only)); at_builtin; refine Kd.R_append_rows (Kd.int .u8) (w0 := w) w.heap.size rfl (.tmp 94) (.tmp 106) 22 5 (.int .u8 0) 1 rfl Try.underlying22 info5 rfl (by decide) (by omega) u7 x7_2 y151 _ _ _ (fun k_ => some k_ ≠ (.slice Ao29 y151.length co29 : Value).ownBlock) (fun _ => False) rfl rfl ?aO ?aR (fun _ _ h => h) (fun _ h => h.elim) ?aF ?aB ?aS ?aL ?_; (case aR => repeat (first | exact (Kd.R_reads' HO153.out).2.2 | (with_reducible refine Kd.C_alloc ?_ _) | (with_reducible refine Kd.C_drewN ?_ _) | (with_reducible refine Kd.C_drew ?_))); (case aB => exact (by repeat (first | (with_reducible first | exact HB.out | apply below_alloc | apply pw_below_drewN | apply below_drew1 | refine below_set ?_ GE143.out) | exact HB.out))); (case aF => exact (fun k_ hk => Kd.fresh' (Kd.R_lt (by (with_reducible repeat (first | apply Kd.R_alloc | apply Kd.R_drewN | apply Kd.R_drew)); exact HO153.out)) k_ hk)); (case aO => exact (by (with_reducible repeat (first | apply Kd.R_alloc | apply Kd.R_drewN | apply Kd.R_drew)); exact Kd.R_mono HO_7.out (fun _ hk => hk.2))); (case aS => exact (below_size (by repeat (first | (with_reducible first | exact HB.out | apply below_alloc | apply pw_below_drewN | apply below_drew1 | refine below_set ?_ GE143.out) | exact HB.out)))); (case aL => have := LMc25.out; omega); intro v155 w28 ho hb hg hat; rw [← Ny154.out] at ho; have n0_ := Aside0.mk (Kd.R_over' (by (with_reducible repeat (first | apply Kd.R_alloc | apply Kd.R_drewN | apply Kd.R_drew)); exact HO_88.out) (Kd.R_typed (by (with_reducible repeat (first | apply Kd.R_alloc | apply Kd.R_drewN | apply Kd.R_drew)); exact HO_7.out)) (by decide) hg); have n1_ := Aside0.mk (blk_grown (g := gb143) (o := .cells #[.int .u8 a0_0, .int .u8 a0_1, .int .u8 a0_2, .int .u16 a0_3, .int .u8 a0_4, .int .u16 a0_5, .int .u32 a0_6, .int .u32 a0_7, .slice A0_8 l0_8.length c0_8, .slice A0_9 l0_9.length c0_9] 30 (0, 0)) (by (with_reducible repeat (first | refine blk_drewN ?_ _ | refine blk_drew ?_ | refine blk_alloc ?_ _)); exact BK143.out) hg (Kd.R_ne HO_7.out BK143.out (by decide))); have n2_ := Aside0.mk (Kd.R_after (ok := (fun _ => True)) (by (with_reducible repeat (first | apply Kd.R_alloc | apply Kd.R_drewN | apply Kd.R_drew)); exact HO153.out) hg hat); have n3_ := Aside0.mk (hb); have n4_ := Aside0.mk (ho); clear HO_88; clear BK143; clear HO153; clear HB; clear HO_7; have HO_88 := n0_; have BK143 := n1_; have HO153 := n2_; have HB := n3_; have HO156 := n4_; clear n0_ n1_ n2_ n3_ n4_; clear ho hb hg hat))
           repeat (go_quiet (first | ((with_reducible refine gate_dst (N := 106) rfl ?_); (try (refine gate_guard (by rfl) ?_; dsimp only)); refine Kd.R_lit (Kd.int .u8) _ 5 ?hg (N := 106) ?hd (xs := ([((rd y147 x90_2) / 16777216) % 256, ((rd y147 x90_2) / 65536) % 256, ((rd y147 x90_2) / 256) % 256, (rd y147 x90_2) % 256] : List Int)) (inner := [.int .u8 (((rd y147 x90_2) / 16777216) % 256), .int .u8 (((rd y147 x90_2) / 65536) % 256), .int .u8 (((rd y147 x90_2) / 256) % 256), .int .u8 ((rd y147 x90_2) % 256)]) (ok := fun _ => True) (okp := fun _ => True) ?hr ?hp (fun _ hk => hk) trivial (Below.refl _ _) (Nat.le_refl _) (by simp) ?_; (case hd => rfl); (case hg => rfl); (case hr => first | (go_simp; done) | (go_simp; simp only [IntKind.wrap_u8, IntKind.wrap_u16, IntKind.wrap_u32]; done) | (go_simp; rfl)); (case hp => exact (Reps.one (show Kd.M (Kd.int .u8) _ _ _ (((rd y147 x90_2) / 16777216) % 256) [.int .u8 (((rd y147 x90_2) / 16777216) % 256)] from rfl) (Reps.one (show Kd.M (Kd.int .u8) _ _ _ (((rd y147 x90_2) / 65536) % 256) [.int .u8 (((rd y147 x90_2) / 65536) % 256)] from rfl) (Reps.one (show Kd.M (Kd.int .u8) _ _ _ (((rd y147 x90_2) / 256) % 256) [.int .u8 (((rd y147 x90_2) / 256) % 256)] from rfl) (Reps.one (show Kd.M (Kd.int .u8) _ _ _ ((rd y147 x90_2) % 256) [.int .u8 ((rd y147 x90_2) % 256)] from rfl) (Reps.none _ _)))))); intro v152 w26 ho27 hb hg_ hnew_; clear hg_ hnew_; (first | rw [← Ny151.out] at ho27 | (simp only [Int.reduceToNat] at ho27; rw [← Ny151.out] at ho27)); have n0_ := Aside0.mk (Kd.R_elder' (by (with_reducible repeat (first | apply Kd.R_alloc | apply Kd.R_drewN | apply Kd.R_drew)); exact HO_7.out) (Kd.R_base ho27) hb); have n1_ := Aside0.mk (Kd.R_below (by (with_reducible repeat (first | apply Kd.R_alloc | apply Kd.R_drewN | apply Kd.R_drew)); exact HO_88.out) hb); have n2_ := Aside0.mk (Kd.R_lower (Kd.R_new' ho27 (Kd.R_lt (by (with_reducible repeat (first | apply Kd.R_alloc | apply Kd.R_drewN | apply Kd.R_drew)); exact HO_7.out))) (below_size (by repeat (first | (with_reducible first | exact HB.out | apply below_alloc | apply pw_below_drewN | apply below_drew1 | refine below_set ?_ GE143.out) | exact HB.out)))); have n3_ := Aside0.mk (blk_below (g := gb143) (o := .cells #[.int .u8 a0_0, .int .u8 a0_1, .int .u8 a0_2, .int .u16 a0_3, .int .u8 a0_4, .int .u16 a0_5, .int .u32 a0_6, .int .u32 a0_7, .slice A0_8 l0_8.length c0_8, .slice A0_9 l0_9.length c0_9] 30 (0, 0)) (by (with_reducible repeat (first | refine blk_drewN ?_ _ | refine blk_drew ?_ | refine blk_alloc ?_ _)); exact BK143.out) hb); have n4_ := Aside0.mk (below_step (by repeat (first | (with_reducible first | exact HB.out | apply below_alloc | apply pw_below_drewN | apply below_drew1 | refine below_set ?_ GE143.out) | exact HB.out)) hb); clear HO_7; clear HO_88; clear BK143; clear HB; have HO_7 := n0_; have HO_88 := n1_; have HO153 := n2_; have BK143 := n3_; have HB := n4_; clear n0_ n1_ n2_ n3_ n4_; clear hb ho27; obtain ⟨Ao29, co29, eo29⟩ := Kd.R_slice HO153.out; subst eo29) | ((with_reducible refine gate_builtin (b := .append) (xs := #[.tmp 94, .tmp 106]) rfl ?_); (try (refine gate_guard (by rfl) ?_; dsimp only)); at_builtin; refine Kd.R_append_rows (Kd.int .u8) (w0 := w) w.heap.size rfl (.tmp 94) (.tmp 106) 22 5 (.int .u8 0) 1 rfl Try.underlying22 info5 rfl (by decide) (by omega) u7 x7_2 y151 _ _ _ (fun k_ => some k_ ≠ (.slice Ao29 y151.length co29 : Value).ownBlock) (fun _ => False) rfl rfl ?aO ?aR (fun _ _ h => h) (fun _ h => h.elim) ?aF ?aB ?aS ?aL ?_; (case aR => repeat (first | exact (Kd.R_reads' HO153.out).2.2 | (with_reducible refine Kd.C_alloc ?_ _) | (with_reducible refine Kd.C_drewN ?_ _) | (with_reducible refine Kd.C_drew ?_))); (case aB => exact (by repeat (first | (with_reducible first | exact HB.out | apply below_alloc | apply pw_below_drewN | apply below_drew1 | refine below_set ?_ GE143.out) | exact HB.out))); (case aF => exact (fun k_ hk => Kd.fresh' (Kd.R_lt (by (with_reducible repeat (first | apply Kd.R_alloc | apply Kd.R_drewN | apply Kd.R_drew)); exact HO153.out)) k_ hk)); (case aO => exact (by (with_reducible repeat (first | apply Kd.R_alloc | apply Kd.R_drewN | apply Kd.R_drew)); exact Kd.R_mono HO_7.out (fun _ hk => hk.2))); (case aS => exact (below_size (by repeat (first | (with_reducible first | exact HB.out | apply below_alloc | apply pw_below_drewN | apply below_drew1 | refine below_set ?_ GE143.out) | exact HB.out)))); (case aL => have := LMc25.out; omega); intro v155 w28 ho hb hg hat; rw [← Ny154.out] at ho; have n0_ := Aside0.mk (Kd.R_over' (by (with_reducible repeat (first | apply Kd.R_alloc | apply Kd.R_drewN | apply Kd.R_drew)); exact HO_88.out) (Kd.R_typed (by (with_reducible repeat (first | apply Kd.R_alloc | apply Kd.R_drewN | apply Kd.R_drew)); exact HO_7.out)) (by decide) hg); have n1_ := Aside0.mk (blk_grown (g := gb143) (o := .cells #[.int .u8 a0_0, .int .u8 a0_1, .int .u8 a0_2, .int .u16 a0_3, .int .u8 a0_4, .int .u16 a0_5, .int .u32 a0_6, .int .u32 a0_7, .slice A0_8 l0_8.length c0_8, .slice A0_9 l0_9.length c0_9] 30 (0, 0)) (by (with_reducible repeat (first | refine blk_drewN ?_ _ | refine blk_drew ?_ | refine blk_alloc ?_ _)); exact BK143.out) hg (Kd.R_ne HO_7.out BK143.out (by decide))); have n2_ := Aside0.mk (Kd.R_after (ok := (fun _ => True)) (by (with_reducible repeat (first | apply Kd.R_alloc | apply Kd.R_drewN | apply Kd.R_drew)); exact HO153.out) hg hat); have n3_ := Aside0.mk (hb); have n4_ := Aside0.mk (ho); clear HO_88; clear BK143; clear HO153; clear HB; clear HO_7; have HO_88 := n0_; have BK143 := n1_; have HO153 := n2_; have HB := n3_; have HO156 := n4_; clear n0_ n1_ n2_ n3_ n4_; clear ho hb hg hat)); try go_wp2_with (first | ((with_reducible refine gate_dst (N := 106) rfl ?_); (try (refine gate_guard (by rfl) ?_; dsimp only)); refine Kd.R_lit (Kd.int .u8) _ 5 ?hg (N := 106) ?hd (xs := ([((rd y147 x90_2) / 16777216) % 256, ((rd y147 x90_2) / 65536) % 256, ((rd y147 x90_2) / 256) % 256, (rd y147 x90_2) % 256] : List Int)) (inner := [.int .u8 (((rd y147 x90_2) / 16777216) % 256), .int .u8 (((rd y147 x90_2) / 65536) % 256), .int .u8 (((rd y147 x90_2) / 256) % 256), .int .u8 ((rd y147 x90_2) % 256)]) (ok := fun _ => True) (okp := fun _ => True) ?hr ?hp (fun _ hk => hk) trivial (Below.refl _ _) (Nat.le_refl _) (by simp) ?_; (case hd => rfl); (case hg => rfl); (case hr => first | (go_simp; done) | (go_simp; simp only [IntKind.wrap_u8, IntKind.wrap_u16, IntKind.wrap_u32]; done) | (go_simp; rfl)); (case hp => exact (Reps.one (show Kd.M (Kd.int .u8) _ _ _ (((rd y147 x90_2) / 16777216) % 256) [.int .u8 (((rd y147 x90_2) / 16777216) % 256)] from rfl) (Reps.one (show Kd.M (Kd.int .u8) _ _ _ (((rd y147 x90_2) / 65536) % 256) [.int .u8 (((rd y147 x90_2) / 65536) % 256)] from rfl) (Reps.one (show Kd.M (Kd.int .u8) _ _ _ (((rd y147 x90_2) / 256) % 256) [.int .u8 (((rd y147 x90_2) / 256) % 256)] from rfl) (Reps.one (show Kd.M (Kd.int .u8) _ _ _ ((rd y147 x90_2) % 256) [.int .u8 ((rd y147 x90_2) % 256)] from rfl) (Reps.none _ _)))))); intro v152 w26 ho27 hb hg_ hnew_; clear hg_ hnew_; (first | rw [← Ny151.out] at ho27 | (simp only [Int.reduceToNat] at ho27; rw [← Ny151.out] at ho27)); have n0_ := Aside0.mk (Kd.R_elder' (by (with_reducible repeat (first | apply Kd.R_alloc | apply Kd.R_drewN | apply Kd.R_drew)); exact HO_7.out) (Kd.R_base ho27) hb); have n1_ := Aside0.mk (Kd.R_below (by (with_reducible repeat (first | apply Kd.R_alloc | apply Kd.R_drewN | apply Kd.R_drew)); exact HO_88.out) hb); have n2_ := Aside0.mk (Kd.R_lower (Kd.R_new' ho27 (Kd.R_lt (by (with_reducible repeat (first | apply Kd.R_alloc | apply Kd.R_drewN | apply Kd.R_drew)); exact HO_7.out))) (below_size (by repeat (first | (with_reducible first | exact HB.out | apply below_alloc | apply pw_below_drewN | apply below_drew1 | refine below_set ?_ GE143.out) | exact HB.out)))); have n3_ := Aside0.mk (blk_below (g := gb143) (o := .cells #[.int .u8 a0_0, .int .u8 a0_1, .int .u8 a0_2, .int .u16 a0_3, .int .u8 a0_4, .int .u16 a0_5, .int .u32 a0_6, .int .u32 a0_7, .slice A0_8 l0_8.length c0_8, .slice A0_9 l0_9.length c0_9] 30 (0, 0)) (by (with_reducible repeat (first | refine blk_drewN ?_ _ | refine blk_drew ?_ | refine blk_alloc ?_ _)); exact BK143.out) hb); have n4_ := Aside0.mk (below_step (by repeat (first | (with_reducible first | exact HB.out | apply below_alloc | apply pw_below_drewN | apply below_drew1 | refine below_set ?_ GE143.out) | exact HB.out)) hb); clear HO_7; clear HO_88; clear BK143; clear HB; have HO_7 := n0_; have HO_88 := n1_; have HO153 := n2_; have BK143 := n3_; have HB := n4_; clear n0_ n1_ n2_ n3_ n4_; clear hb ho27; obtain ⟨Ao29, co29, eo29⟩ := Kd.R_slice HO153.out; subst eo29) | ((with_reducible refine gate_builtin (b := .append) (xs := #[.tmp 94, .tmp 106]) rfl ?_); (try (refine gate_guard (by rfl) ?_; dsimp only)); at_builtin; refine Kd.R_append_rows (Kd.int .u8) (w0 := w) w.heap.size rfl (.tmp 94) (.tmp 106) 22 5 (.int .u8 0) 1 rfl Try.underlying22 info5 rfl (by decide) (by omega) u7 x7_2 y151 _ _ _ (fun k_ => some k_ ≠ (.slice Ao29 y151.length co29 : Value).ownBlock) (fun _ => False) rfl rfl ?aO ?aR (fun _ _ h => h) (fun _ h => h.elim) ?aF ?aB ?aS ?aL ?_; (case aR => repeat (first | exact (Kd.R_reads' HO153.out).2.2 | (with_reducible refine Kd.C_alloc ?_ _) | (with_reducible refine Kd.C_drewN ?_ _) | (with_reducible refine Kd.C_drew ?_))); (case aB => exact (by repeat (first | (with_reducible first | exact HB.out | apply below_alloc | apply pw_below_drewN | apply below_drew1 | refine below_set ?_ GE143.out) | exact HB.out))); (case aF => exact (fun k_ hk => Kd.fresh' (Kd.R_lt (by (with_reducible repeat (first | apply Kd.R_alloc | apply Kd.R_drewN | apply Kd.R_drew)); exact HO153.out)) k_ hk)); (case aO => exact (by (with_reducible repeat (first | apply Kd.R_alloc | apply Kd.R_drewN | apply Kd.R_drew)); exact Kd.R_mono HO_7.out (fun _ hk => hk.2))); (case aS => exact (below_size (by repeat (first | (with_reducible first | exact HB.out | apply below_alloc | apply pw_below_drewN | apply below_drew1 | refine below_set ?_ GE143.out) | exact HB.out)))); (case aL => have := LMc25.out; omega); intro v155 w28 ho hb hg hat; rw [← Ny154.out] at ho; have n0_ := Aside0.mk (Kd.R_over' (by (with_reducible repeat (first | apply Kd.R_alloc | apply Kd.R_drewN | apply Kd.R_drew)); exact HO_88.out) (Kd.R_typed (by (with_reducible repeat (first | apply Kd.R_alloc | apply Kd.R_drewN | apply Kd.R_drew)); exact HO_7.out)) (by decide) hg); have n1_ := Aside0.mk (blk_grown (g := gb143) (o := .cells #[.int .u8 a0_0, .int .u8 a0_1, .int .u8 a0_2, .int .u16 a0_3, .int .u8 a0_4, .int .u16 a0_5, .int .u32 a0_6, .int .u32 a0_7, .slice A0_8 l0_8.length c0_8, .slice A0_9 l0_9.length c0_9] 30 (0, 0)) (by (with_reducible repeat (first | refine blk_drewN ?_ _ | refine blk_drew ?_ | refine blk_alloc ?_ _)); exact BK143.out) hg (Kd.R_ne HO_7.out BK143.out (by decide))); have n2_ := Aside0.mk (Kd.R_after (ok := (fun _ => True)) (by (with_reducible repeat (first | apply Kd.R_alloc | apply Kd.R_drewN | apply Kd.R_drew)); exact HO153.out) hg hat); have n3_ := Aside0.mk (hb); have n4_ := Aside0.mk (ho); clear HO_88; clear BK143; clear HO153; clear HB; clear HO_7; have HO_88 := n0_; have BK143 := n1_; have HO153 := n2_; have HB := n3_; have HO156 := n4_; clear n0_ n1_ n2_ n3_ n4_; clear ho hb hg hat)))
           go_roundg k2
           case measure => have := HJ1.out; have := HK2.out; omega
           case rel => exact ⟨(y154), (wrap64 (x90_2 + 1)), (by first | rfl | (simp; done) | (simp [*]; done)), H', ⟨by have := HJ1.out; have := HK2.out; omega⟩, ⟨by (with_reducible repeat (first | apply Kd.R_alloc | apply Kd.R_drewN | apply Kd.R_drew)); exact Kd.R_mono HO156.out (fun _ hk => trivial)⟩, ⟨by (with_reducible repeat (first | apply Kd.R_alloc | apply Kd.R_drewN | apply Kd.R_drew)); exact HO_88.out⟩, ⟨by (with_reducible repeat (first | refine blk_drewN ?_ _ | refine blk_drew ?_ | refine blk_alloc ?_ _)); exact BK143.out⟩, ⟨by repeat (first | (with_reducible first | exact HB.out | apply below_alloc | apply pw_below_drewN | apply below_drew1 | refine below_set ?_ GE143.out) | exact HB.out)⟩⟩
          ·rw [if_neg c25] at H
           exact absurd H (by simp)
         ·rw [if_neg c24] at H
          exact absurd H (by simp)
        ·rw [if_neg c23] at H
         exact absurd H (by simp)
       ·rw [if_neg c22] at H
        have c22b0 : decide (x90_2 < (y147.length : Int)) = false := decide_eq_false c22
        clear c22
        by_cases c30 : x7_2.length + l0_8.length < 140737488355328
        ·rw [if_pos c30] at H
         have LMc30 := Aside0.mk c30
         clear c30
         obtain ⟨y157, hy157⟩ : ∃ y_ : List Int, y_ = (x7_2 ++ l0_8) := ⟨_, rfl⟩
         replace H : ((sum_Of.f k2 y157).bind fun t160 => (if 10 < (y157.length : Int) then (if 11 < (y157.length : Int) then ((some ((y157.set (10 : Int).toNat ((t160 / 256) % 256)).set (11 : Int).toNat ((t160) % 256) : List Int)).bind fun y162 => (if y162.length + l0_9.length < 140737488355328 then (some ((y162 ++ l0_9), 0)) else (none))) else (none)) else (none))) = some (r1, r2) := by first | (rw [hy157]; with_reducible exact H) | (have H2_ := (Option.bind_some _ _).symm.trans H; rw [hy157]; with_reducible exact H2_) | (have H2_ := (Option.bind_some _ _).symm.trans H; with_reducible exact H2_) | with_reducible exact H | (rw [hy157]; exact H) | exact H
         have Ny157 := Aside0.mk hy157
         clear hy157
         replace H := Option.bind_eq_some_iff.mp H
         obtain ⟨t160, A310, H⟩ := H
         replace H : (if 10 < (y157.length : Int) then (if 11 < (y157.length : Int) then ((some ((y157.set (10 : Int).toNat ((t160 / 256) % 256)).set (11 : Int).toNat ((t160) % 256) : List Int)).bind fun y162 => (if y162.length + l0_9.length < 140737488355328 then (some ((y162 ++ l0_9), 0)) else (none))) else (none)) else (none)) = some (r1, r2) := H
         have A31 := Aside0.mk A310
         clear A310
         by_cases c32 : 10 < (y157.length : Int)
         ·rw [if_pos c32] at H
          have c32b0 : decide (10 < (y157.length : Int)) = true := decide_eq_true c32
          have c32b1 : decide (10 < y157.length) = true := decide_eq_true (by omega)
          clear c32
          obtain ⟨y161, hy161⟩ : ∃ y_ : List Int, y_ = (y157.set (10 : Int).toNat ((t160 / 256) % 256)) := ⟨_, rfl⟩
          replace H : (if 11 < (y157.length : Int) then ((some (y161.set (11 : Int).toNat ((t160) % 256) : List Int)).bind fun y162 => (if y162.length + l0_9.length < 140737488355328 then (some ((y162 ++ l0_9), 0)) else (none))) else (none)) = some (r1, r2) := by first | (rw [hy161]; with_reducible exact H) | (have H2_ := (Option.bind_some _ _).symm.trans H; rw [hy161]; with_reducible exact H2_) | (have H2_ := (Option.bind_some _ _).symm.trans H; with_reducible exact H2_) | with_reducible exact H | (rw [hy161]; exact H) | exact H
          have Ny161 := Aside0.mk hy161
          clear hy161
          by_cases c34 : 11 < (y157.length : Int)
          ·rw [if_pos c34] at H
           have c34b0 : decide (11 < (y157.length : Int)) = true := decide_eq_true c34
           have c34b1 : decide (11 < y157.length) = true := decide_eq_true (by omega)
           clear c34
           obtain ⟨y162, hy162⟩ : ∃ y_ : List Int, y_ = (y161.set (11 : Int).toNat ((t160) % 256)) := ⟨_, rfl⟩
           replace H : (if y162.length + l0_9.length < 140737488355328 then (some ((y162 ++ l0_9), 0)) else (none)) = some (r1, r2) := by first | (rw [hy162]; with_reducible exact H) | (have H2_ := (Option.bind_some _ _).symm.trans H; rw [hy162]; with_reducible exact H2_) | (have H2_ := (Option.bind_some _ _).symm.trans H; with_reducible exact H2_) | with_reducible exact H | (rw [hy162]; exact H) | exact H
           have Ny162 := Aside0.mk hy162
           clear hy162
           by_cases c36 : y162.length + l0_9.length < 140737488355328
           ·rw [if_pos c36] at H
            have LMc36 := Aside0.mk c36
            clear c36
            obtain ⟨y163, hy163⟩ : ∃ y_ : List Int, y_ = (y162 ++ l0_9) := ⟨_, rfl⟩
            replace H : (some (y163, 0)) = some (r1, r2) := by first | (rw [hy163]; with_reducible exact H) | (have H2_ := (Option.bind_some _ _).symm.trans H; rw [hy163]; with_reducible exact H2_) | (have H2_ := (Option.bind_some _ _).symm.trans H; with_reducible exact H2_) | with_reducible exact H | (rw [hy163]; exact H) | exact H
            have Ny163 := Aside0.mk hy163
            clear hy163
            simp only [Option.some.injEq, Prod.mk.injEq] at H
            obtain ⟨rfl, rfl⟩ := H
            have hcz37_0 : wr.cell? ⟨gb143, 0, none⟩ = some (.int .u8 a0_0) := (blk_cell BK143.out 0).trans rfl
            have hcz37_1 : wr.cell? ⟨gb143, 1, none⟩ = some (.int .u8 a0_1) := (blk_cell BK143.out 1).trans rfl
            have hcz37_2 : wr.cell? ⟨gb143, 2, none⟩ = some (.int .u8 a0_2) := (blk_cell BK143.out 2).trans rfl
            have hcz37_3 : wr.cell? ⟨gb143, 3, none⟩ = some (.int .u16 a0_3) := (blk_cell BK143.out 3).trans rfl
            have hcz37_4 : wr.cell? ⟨gb143, 4, none⟩ = some (.int .u8 a0_4) := (blk_cell BK143.out 4).trans rfl
            have hcz37_5 : wr.cell? ⟨gb143, 5, none⟩ = some (.int .u16 a0_5) := (blk_cell BK143.out 5).trans rfl
            have hcz37_6 : wr.cell? ⟨gb143, 6, none⟩ = some (.int .u32 a0_6) := (blk_cell BK143.out 6).trans rfl
            have hcz37_7 : wr.cell? ⟨gb143, 7, none⟩ = some (.int .u32 a0_7) := (blk_cell BK143.out 7).trans rfl
            have hcz37_8 : wr.cell? ⟨gb143, 8, none⟩ = some (.slice A0_8 l0_8.length c0_8) := (blk_cell BK143.out 8).trans rfl
            have hcz37_9 : wr.cell? ⟨gb143, 9, none⟩ = some (.slice A0_9 l0_9.length c0_9) := (blk_cell BK143.out 9).trans rfl
            have hfz37_0 := blk_frozen BK143.out 0
            have hfz37_1 := blk_frozen BK143.out 1
            have hfz37_2 := blk_frozen BK143.out 2
            have hfz37_3 := blk_frozen BK143.out 3
            have hfz37_4 := blk_frozen BK143.out 4
            have hfz37_5 := blk_frozen BK143.out 5
            have hfz37_6 := blk_frozen BK143.out 6
            have hfz37_7 := blk_frozen BK143.out 7
            have hfz37_8 := blk_frozen BK143.out 8
            have hfz37_9 := blk_frozen BK143.out 9
            go_wp2_with (first | ((with_reducible refine gate_builtin (b := .append) (xs := #[.tmp 109, .tmp 111]) rfl ?_); (try (refine gate_guard (by rfl) ?_; dsimp only)); at_builtin; refine Kd.R_append_rows (Kd.int .u8) (w0 := w) w.heap.size rfl (.tmp 109) (.tmp 111) 22 5 (.int .u8 0) 1 rfl Try.underlying22 info5 rfl (by decide) (by omega) u7 x7_2 l0_8 _ _ _ (fun _ => True) (fun _ => False) rfl rfl ?aO ?aR (fun _ _ h => h) (fun _ h => h.elim) ?aF ?aB ?aS ?aL ?_; (case aR => repeat (first | exact (Kd.C_below HR0_8.out HB.out) | (with_reducible refine Kd.C_alloc ?_ _) | (with_reducible refine Kd.C_drewN ?_ _) | (with_reducible refine Kd.C_drew ?_))); (case aB => exact (by repeat (first | (with_reducible first | exact HB.out | apply below_alloc | apply pw_below_drewN | apply below_drew1 | refine below_set ?_ GE143.out) | exact HB.out))); (case aF => exact (fun _ _ => trivial)); (case aO => exact (by (with_reducible repeat (first | apply Kd.R_alloc | apply Kd.R_drewN | apply Kd.R_drew)); exact HO_7.out)); (case aS => exact (below_size (by repeat (first | (with_reducible first | exact HB.out | apply below_alloc | apply pw_below_drewN | apply below_drew1 | refine below_set ?_ GE143.out) | exact HB.out)))); (case aL => have := LMc30.out; omega); intro v158 w38 ho hb hg hat; rw [← Ny157.out] at ho; have n0_ := Aside0.mk (Kd.R_over' (by (with_reducible repeat (first | apply Kd.R_alloc | apply Kd.R_drewN | apply Kd.R_drew)); exact HO_88.out) (Kd.R_typed (by (with_reducible repeat (first | apply Kd.R_alloc | apply Kd.R_drewN | apply Kd.R_drew)); exact HO_7.out)) (by decide) hg); have n1_ := Aside0.mk (blk_grown (g := gb143) (o := .cells #[.int .u8 a0_0, .int .u8 a0_1, .int .u8 a0_2, .int .u16 a0_3, .int .u8 a0_4, .int .u16 a0_5, .int .u32 a0_6, .int .u32 a0_7, .slice A0_8 l0_8.length c0_8, .slice A0_9 l0_9.length c0_9] 30 (0, 0)) (by (with_reducible repeat (first | refine blk_drewN ?_ _ | refine blk_drew ?_ | refine blk_alloc ?_ _)); exact BK143.out) hg (Kd.R_ne HO_7.out BK143.out (by decide))); have n2_ := Aside0.mk (hb); have n3_ := Aside0.mk (ho); clear HO_88; clear BK143; clear HB; clear HO_7; have HO_88 := n0_; have BK143 := n1_; have HB := n2_; have HO159 := n3_; clear n0_ n1_ n2_ n3_; clear ho hb hg hat; obtain ⟨Ao39, co39, eo39⟩ := Kd.R_slice HO159.out; subst eo39) | (go_at_call 26; (with_reducible refine (sum_Of.calls k2 _ _ y157 t160 _ ?side1 ?side2 A31.out).mono ?_); (case side1 => repeat (first | exact (Kd.R_reads' HO159.out).2.2 | (with_reducible refine Kd.C_alloc ?_ _) | (with_reducible refine Kd.C_drewN ?_ _) | (with_reducible refine Kd.C_drew ?_))); (case side2 => exact (Kd.R_reads' HO159.out).2.1); rintro e w40 ⟨rfl, hb⟩; have n0_ := Aside0.mk (Kd.R_below (by (with_reducible repeat (first | apply Kd.R_alloc | apply Kd.R_drewN | apply Kd.R_drew)); exact HO_88.out) hb); have n1_ := Aside0.mk (Kd.R_below (by (with_reducible repeat (first | apply Kd.R_alloc | apply Kd.R_drewN | apply Kd.R_drew)); exact HO159.out) hb); have n2_ := Aside0.mk (blk_below (g := gb143) (o := .cells #[.int .u8 a0_0, .int .u8 a0_1, .int .u8 a0_2, .int .u16 a0_3, .int .u8 a0_4, .int .u16 a0_5, .int .u32 a0_6, .int .u32 a0_7, .slice A0_8 l0_8.length c0_8, .slice A0_9 l0_9.length c0_9] 30 (0, 0)) (by (with_reducible repeat (first | refine blk_drewN ?_ _ | refine blk_drew ?_ | refine blk_alloc ?_ _)); exact BK143.out) hb); have n3_ := Aside0.mk (below_step (by repeat (first | (with_reducible first | exact HB.out | apply below_alloc | apply pw_below_drewN | apply below_drew1 | refine below_set ?_ GE143.out) | exact HB.out)) hb); clear HO_88; clear HO159; clear BK143; clear HB; have HO_88 := n0_; have HO159 := n1_; have BK143 := n2_; have HB := n3_; clear n0_ n1_ n2_ n3_; (try clear hb); (try clear hb2); (try clear hk); (try clear hi); have p33 : 0 ≤ (10 : Int) := (by omega); have q33 : (10 : Int) < ((y157.length : Int) : Int) := of_decide_eq_true (by first | (with_reducible assumption) | assumption); have qi33 : (10 < y157.length) = True := eq_true (by omega); obtain ⟨go33, co33, eo33, gb33, gl33, cl33, HG33⟩ := Kd.R_form HO159.out (by omega); (first | cases eo33 | (injection eo33 with ea_ en_ ec_; (first | subst ea_ | (injection ea_ with ea_; subst ea_)); subst ec_; clear en_)); have GB33 := Aside0.mk gb33; have GG33 := Aside0.mk HG33; clear gb33 gl33 HG33; obtain ⟨hx33_0, hf33_0⟩ := Kd.R_celln 0 HO159.out (10 : Int) p33 q33; (try rw [show ((10 : Int)).toNat = 10 from rfl] at hx33_0); (try simp only [Nat.reduceMul, Nat.zero_mul, Nat.zero_add, Nat.reduceAdd] at hx33_0); (try rw [show ((10 : Int)).toNat = 10 from rfl] at hf33_0); (try simp only [Nat.reduceMul, Nat.zero_mul, Nat.zero_add, Nat.reduceAdd] at hf33_0); replace p33 := eq_true p33; replace q33 := eq_true q33; obtain ⟨hy41_, hz41_⟩ := Kd.R_celln 0 HO159.out (10 : Int) (by omega) (of_decide_eq_true (by first | (with_reducible assumption) | assumption)); (try simp only [Int.reduceToNat, Int.toNat_zero, Int.toNat_ofNat, Nat.reduceMul, Nat.zero_mul, Nat.zero_add] at hy41_ hz41_); (try rw [show ((10 : Int)).toNat = 10 from rfl] at hy41_); (try rw [show ((10 : Int)).toNat = 10 from rfl] at hz41_); have HP41 := Kd.R_putg HO159.out (10 : Int) ((t160 / 256) % 256)) | ((with_reducible refine gate_store (t := 5) (p := 122) rfl ?_); (try (rw [drewN_self w40]; generalize hq_ : World.drewN w40 _ = w40; have n0_ := Aside0.mk (Kd.R_at hq_ HO_88.out); have n1_ := Aside0.mk (Kd.R_at hq_ HO159.out); have n2_ := Aside0.mk (blk_at hq_ BK143.out); have n3_ := Aside0.mk (below_at hq_ HB.out); clear hq_ HO_88 HO159 BK143 HB; have HO_88 := n0_; have HO159 := n1_; have BK143 := n2_; have HB := n3_; clear n0_ n1_ n2_ n3_; (try (obtain ⟨hy41_, hz41_⟩ := Kd.R_celln 0 HO159.out (10 : Int) (by omega) (of_decide_eq_true (by first | (with_reducible assumption) | assumption)))); (try (try simp only [Int.reduceToNat, Int.toNat_zero, Int.toNat_ofNat, Nat.reduceMul, Nat.zero_mul, Nat.zero_add] at hy41_ hz41_)); (try (try rw [show ((10 : Int)).toNat = 10 from rfl] at hy41_)); (try (try rw [show ((10 : Int)).toNat = 10 from rfl] at hz41_)); (try (have HP41 := Kd.R_putg HO159.out (10 : Int) ((t160 / 256) % 256))))); refine store_event (t := 5) (p := 122) (v := ?vo_w42) (w1 := (w40.setCell ⟨go33, (10 : Int).toNat, none⟩ (.int .u8 ((t160 / 256) % 256)))) ?hg ?ho ?hn ?hr ?_; (case ho => rfl); (case hg => rfl); (case hn => rfl); (case hr => first | (go_simp; done) | (go_simp; rfl)); intro w42 hw; have hg : w40.grownBy w42 (some go33) := (by rw [hw]; exact HP41.2); have hp_ : Kd.R (Kd.int .u8) 5 w42 w.heap.size (fun _ => True) (.slice (some ⟨go33, 0, none⟩) y157.length co39) y161 := (by rw [hw, Ny161.out]; exact HP41.1); clear HP41; have n0_ := Aside0.mk (Kd.R_over' (v := (.slice (some ⟨go33, 0, none⟩) y157.length co39)) (by (with_reducible repeat (first | apply Kd.R_alloc | apply Kd.R_drewN | apply Kd.R_drew)); exact HO_88.out) (Kd.R_typed HO159.out) (by decide) hg); have n1_ := Aside0.mk (blk_grown (g := gb143) (o := .cells #[.int .u8 a0_0, .int .u8 a0_1, .int .u8 a0_2, .int .u16 a0_3, .int .u8 a0_4, .int .u16 a0_5, .int .u32 a0_6, .int .u32 a0_7, .slice A0_8 l0_8.length c0_8, .slice A0_9 l0_9.length c0_9] 30 (0, 0)) (by (with_reducible repeat (first | refine blk_drewN ?_ _ | refine blk_drew ?_ | refine blk_alloc ?_ _)); exact BK143.out) hg (Kd.R_ne HO159.out BK143.out (by decide))); have n2_ := Aside0.mk (hp_); have n3_ := Aside0.mk ((by rw [hw]; exact below_set (HB.out) GB33.out : Below w.heap.size w w42)); clear HO_88; clear BK143; clear HO159; clear HB; have HO_88 := n0_; have BK143 := n1_; have HO159 := n2_; have HB := n3_; clear n0_ n1_ n2_ n3_; clear hg hw hp_; have p35 : 0 ≤ (11 : Int) := (by omega); have q35 : (11 : Int) < ((y157.length : Int) : Int) := of_decide_eq_true (by first | (with_reducible assumption) | assumption); have qi35 : (11 < y157.length) = True := eq_true (by omega); obtain ⟨hx35_0, hf35_0⟩ := Kd.R_celln 0 HO159.out (11 : Int) p35 q35; (try rw [show ((11 : Int)).toNat = 11 from rfl] at hx35_0); (try simp only [Nat.reduceMul, Nat.zero_mul, Nat.zero_add, Nat.reduceAdd] at hx35_0); (try rw [show ((11 : Int)).toNat = 11 from rfl] at hf35_0); (try simp only [Nat.reduceMul, Nat.zero_mul, Nat.zero_add, Nat.reduceAdd] at hf35_0); replace p35 := eq_true p35; replace q35 := eq_true q35; obtain ⟨hy43_, hz43_⟩ := Kd.R_celln 0 HO159.out (11 : Int) (by omega) (of_decide_eq_true (by first | (with_reducible assumption) | assumption)); (try simp only [Int.reduceToNat, Int.toNat_zero, Int.toNat_ofNat, Nat.reduceMul, Nat.zero_mul, Nat.zero_add] at hy43_ hz43_); (try rw [show ((11 : Int)).toNat = 11 from rfl] at hy43_); (try rw [show ((11 : Int)).toNat = 11 from rfl] at hz43_); have HP43 := Kd.R_putg HO159.out (11 : Int) ((t160) % 256)) | ((with_reducible refine gate_store (t := 5) (p := 123) rfl ?_); (try (rw [drewN_self w42]; generalize hq_ : World.drewN w42 _ = w42; have n0_ := Aside0.mk (Kd.R_at hq_ HO_88.out); have n1_ := Aside0.mk (Kd.R_at hq_ HO159.out); have n2_ := Aside0.mk (blk_at hq_ BK143.out); have n3_ := Aside0.mk (below_at hq_ HB.out); clear hq_ HO_88 HO159 BK143 HB; have HO_88 := n0_; have HO159 := n1_; have BK143 := n2_; have HB := n3_; clear n0_ n1_ n2_ n3_; (try (obtain ⟨hy43_, hz43_⟩ := Kd.R_celln 0 HO159.out (11 : Int) (by omega) (of_decide_eq_true (by first | (with_reducible assumption) | assumption)))); (try (try simp only [Int.reduceToNat, Int.toNat_zero, Int.toNat_ofNat, Nat.reduceMul, Nat.zero_mul, Nat.zero_add] at hy43_ hz43_)); (try (try rw [show ((11 : Int)).toNat = 11 from rfl] at hy43_)); (try (try rw [show ((11 : Int)).toNat = 11 from rfl] at hz43_)); (try (have HP43 := Kd.R_putg HO159.out (11 : Int) ((t160) % 256))))); refine store_event (t := 5) (p := 123) (v := ?vo_w44) (w1 := (w42.setCell ⟨go33, (11 : Int).toNat, none⟩ (.int .u8 ((t160) % 256)))) ?hg ?ho ?hn ?hr ?_; (case ho => rfl); (case hg => rfl); (case hn => rfl); (case hr => first | (go_simp; done) | (go_simp; rfl)); intro w44 hw; have hg : w42.grownBy w44 (some go33) := (by rw [hw]; exact HP43.2); have hp_ : Kd.R (Kd.int .u8) 5 w44 w.heap.size (fun _ => True) (.slice (some ⟨go33, 0, none⟩) y157.length co39) y162 := (by rw [hw, Ny162.out]; exact HP43.1); clear HP43; have n0_ := Aside0.mk (Kd.R_over' (v := (.slice (some ⟨go33, 0, none⟩) y157.length co39)) (by (with_reducible repeat (first | apply Kd.R_alloc | apply Kd.R_drewN | apply Kd.R_drew)); exact HO_88.out) (Kd.R_typed HO159.out) (by decide) hg); have n1_ := Aside0.mk (blk_grown (g := gb143) (o := .cells #[.int .u8 a0_0, .int .u8 a0_1, .int .u8 a0_2, .int .u16 a0_3, .int .u8 a0_4, .int .u16 a0_5, .int .u32 a0_6, .int .u32 a0_7, .slice A0_8 l0_8.length c0_8, .slice A0_9 l0_9.length c0_9] 30 (0, 0)) (by (with_reducible repeat (first | refine blk_drewN ?_ _ | refine blk_drew ?_ | refine blk_alloc ?_ _)); exact BK143.out) hg (Kd.R_ne HO159.out BK143.out (by decide))); have n2_ := Aside0.mk (hp_); have n3_ := Aside0.mk ((by rw [hw]; exact below_set (HB.out) GB33.out : Below w.heap.size w w44)); clear HO_88; clear BK143; clear HO159; clear HB; have HO_88 := n0_; have BK143 := n1_; have HO159 := n2_; have HB := n3_; clear n0_ n1_ n2_ n3_; clear hg hw hp_; have hcz45_0 : w44.cell? ⟨gb143, 0, none⟩ = some (.int .u8 a0_0) := (blk_cell BK143.out 0).trans rfl; have hcz45_1 : w44.cell? ⟨gb143, 1, none⟩ = some (.int .u8 a0_1) := (blk_cell BK143.out 1).trans rfl; have hcz45_2 : w44.cell? ⟨gb143, 2, none⟩ = some (.int .u8 a0_2) := (blk_cell BK143.out 2).trans rfl; have hcz45_3 : w44.cell? ⟨gb143, 3, none⟩ = some (.int .u16 a0_3) := (blk_cell BK143.out 3).trans rfl; have hcz45_4 : w44.cell? ⟨gb143, 4, none⟩ = some (.int .u8 a0_4) := (blk_cell BK143.out 4).trans rfl; have hcz45_5 : w44.cell? ⟨gb143, 5, none⟩ = some (.int .u16 a0_5) := (blk_cell BK143.out 5).trans rfl; have hcz45_6 : w44.cell? ⟨gb143, 6, none⟩ = some (.int .u32 a0_6) := (blk_cell BK143.out 6).trans rfl; have hcz45_7 : w44.cell? ⟨gb143, 7, none⟩ = some (.int .u32 a0_7) := (blk_cell BK143.out 7).trans rfl; have hcz45_8 : w44.cell? ⟨gb143, 8, none⟩ = some (.slice A0_8 l0_8.length c0_8) := (blk_cell BK143.out 8).trans rfl; have hcz45_9 : w44.cell? ⟨gb143, 9, none⟩ = some (.slice A0_9 l0_9.length c0_9) := (blk_cell BK143.out 9).trans rfl; have hfz45_0 := blk_frozen BK143.out 0; have hfz45_1 := blk_frozen BK143.out 1; have hfz45_2 := blk_frozen BK143.out 2; have hfz45_3 := blk_frozen BK143.out 3; have hfz45_4 := blk_frozen BK143.out 4; have hfz45_5 := blk_frozen BK143.out 5; have hfz45_6 := blk_frozen BK143.out 6; have hfz45_7 := blk_frozen BK143.out 7; have hfz45_8 := blk_frozen BK143.out 8; have hfz45_9 := blk_frozen BK143.out 9) | ((with_reducible refine gate_builtin (b := .append) (xs := #[.tmp 124, .tmp 126]) rfl ?_); (try (refine gate_guard (by rfl) ?_; dsimp only)); at_builtin; refine Kd.R_append_rows (Kd.int .u8) (w0 := w) w.heap.size rfl (.tmp 124) (.tmp 126) 22 5 (.int .u8 0) 1 rfl Try.underlying22 info5 rfl (by decide) (by omega) (.slice (some ⟨go33, 0, none⟩) y157.length co39) y162 l0_9 _ _ _ (fun _ => True) (fun _ => False) rfl rfl ?aO ?aR (fun _ _ h => h) (fun _ h => h.elim) ?aF ?aB ?aS ?aL ?_; (case aR => repeat (first | exact (Kd.C_below HR0_9.out HB.out) | (with_reducible refine Kd.C_alloc ?_ _) | (with_reducible refine Kd.C_drewN ?_ _) | (with_reducible refine Kd.C_drew ?_))); (case aB => exact (by repeat (first | (with_reducible first | exact HB.out | apply below_alloc | apply pw_below_drewN | apply below_drew1 | refine below_set ?_ GE143.out) | exact HB.out))); (case aF => exact (fun _ _ => trivial)); (case aO => exact (by (with_reducible repeat (first | apply Kd.R_alloc | apply Kd.R_drewN | apply Kd.R_drew)); exact HO159.out)); (case aS => exact (below_size (by repeat (first | (with_reducible first | exact HB.out | apply below_alloc | apply pw_below_drewN | apply below_drew1 | refine below_set ?_ GE143.out) | exact HB.out)))); (case aL => have := LMc36.out; omega); intro v164 w46 ho hb hg hat; rw [← Ny163.out] at ho; have n0_ := Aside0.mk (Kd.R_over' (by (with_reducible repeat (first | apply Kd.R_alloc | apply Kd.R_drewN | apply Kd.R_drew)); exact HO_88.out) (Kd.R_typed (by (with_reducible repeat (first | apply Kd.R_alloc | apply Kd.R_drewN | apply Kd.R_drew)); exact HO159.out)) (by decide) hg); have n1_ := Aside0.mk (blk_grown (g := gb143) (o := .cells #[.int .u8 a0_0, .int .u8 a0_1, .int .u8 a0_2, .int .u16 a0_3, .int .u8 a0_4, .int .u16 a0_5, .int .u32 a0_6, .int .u32 a0_7, .slice A0_8 l0_8.length c0_8, .slice A0_9 l0_9.length c0_9] 30 (0, 0)) (by (with_reducible repeat (first | refine blk_drewN ?_ _ | refine blk_drew ?_ | refine blk_alloc ?_ _)); exact BK143.out) hg (Kd.R_ne HO159.out BK143.out (by decide))); have n2_ := Aside0.mk (hb); have n3_ := Aside0.mk (ho); clear HO_88; clear BK143; clear HB; clear HO159; have HO_88 := n0_; have BK143 := n1_; have HB := n2_; have HO165 := n3_; clear n0_ n1_ n2_ n3_; clear ho hb hg hat))
            repeat (go_quiet (first | ((with_reducible refine gate_builtin (b := .append) (xs := #[.tmp 109, .tmp 111]) rfl ?_); (try (refine gate_guard (by rfl) ?_; dsimp only)); at_builtin; refine Kd.R_append_rows (Kd.int .u8) (w0 := w) w.heap.size rfl (.tmp 109) (.tmp 111) 22 5 (.int .u8 0) 1 rfl Try.underlying22 info5 rfl (by decide) (by omega) u7 x7_2 l0_8 _ _ _ (fun _ => True) (fun _ => False) rfl rfl ?aO ?aR (fun _ _ h => h) (fun _ h => h.elim) ?aF ?aB ?aS ?aL ?_; (case aR => repeat (first | exact (Kd.C_below HR0_8.out HB.out) | (with_reducible refine Kd.C_alloc ?_ _) | (with_reducible refine Kd.C_drewN ?_ _) | (with_reducible refine Kd.C_drew ?_))); (case aB => exact (by repeat (first | (with_reducible first | exact HB.out | apply below_alloc | apply pw_below_drewN | apply below_drew1 | refine below_set ?_ GE143.out) | exact HB.out))); (case aF => exact (fun _ _ => trivial)); (case aO => exact (by (with_reducible repeat (first | apply Kd.R_alloc | apply Kd.R_drewN | apply Kd.R_drew)); exact HO_7.out)); (case aS => exact (below_size (by repeat (first | (with_reducible first | exact HB.out | apply below_alloc | apply pw_below_drewN | apply below_drew1 | refine below_set ?_ GE143.out) | exact HB.out)))); (case aL => have := LMc30.out; omega); intro v158 w38 ho hb hg hat; rw [← Ny157.out] at ho; have n0_ := Aside0.mk (Kd.R_over' (by (with_reducible repeat (first | apply Kd.R_alloc | apply Kd.R_drewN | apply Kd.R_drew)); exact HO_88.out) (Kd.R_typed (by (with_reducible repeat (first | apply Kd.R_alloc | apply Kd.R_drewN | apply Kd.R_drew)); exact HO_7.out)) (by decide) hg); have n1_ := Aside0.mk (blk_grown (g := gb143) (o := .cells #[.int .u8 a0_0, .int .u8 a0_1, .int .u8 a0_2, .int .u16 a0_3, .int .u8 a0_4, .int .u16 a0_5, .int .u32 a0_6, .int .u32 a0_7, .slice A0_8 l0_8.length c0_8, .slice A0_9 l0_9.length c0_9] 30 (0, 0)) (by (with_reducible repeat (first | refine blk_drewN ?_ _ | refine blk_drew ?_ | refine blk_alloc ?_ _)); exact BK143.out) hg (Kd.R_ne HO_7.out BK143.out (by decide))); have n2_ := Aside0.mk (hb); have n3_ := Aside0.mk (ho); clear HO_88; clear BK143; clear HB; clear HO_7; have HO_88 := n0_; have BK143 := n1_; have HB := n2_; have HO159 := n3_; clear n0_ n1_ n2_ n3_; clear ho hb hg hat; obtain ⟨Ao39, co39, eo39⟩ := Kd.R_slice HO159.out; subst eo39) | (go_at_call 26; (with_reducible refine (sum_Of.calls k2 _ _ y157 t160 _ ?side1 ?side2 A31.out).mono ?_); (case side1 => repeat (first | exact (Kd.R_reads' HO159.out).2.2 | (with_reducible refine Kd.C_alloc ?_ _) | (with_reducible refine Kd.C_drewN ?_ _) | (with_reducible refine Kd.C_drew ?_))); (case side2 => exact (Kd.R_reads' HO159.out).2.1); rintro e w40 ⟨rfl, hb⟩; have n0_ := Aside0.mk (Kd.R_below (by (with_reducible repeat (first | apply Kd.R_alloc | apply Kd.R_drewN | apply Kd.R_drew)); exact HO_88.out) hb); have n1_ := Aside0.mk (Kd.R_below (by (with_reducible repeat (first | apply Kd.R_alloc | apply Kd.R_drewN | apply Kd.R_drew)); exact HO159.out) hb); have n2_ := Aside0.mk (blk_below (g := gb143) (o := .cells #[.int .u8 a0_0, .int .u8 a0_1, .int .u8 a0_2, .int .u16 a0_3, .int .u8 a0_4, .int .u16 a0_5, .int .u32 a0_6, .int .u32 a0_7, .slice A0_8 l0_8.length c0_8, .slice A0_9 l0_9.length c0_9] 30 (0, 0)) (by (with_reducible repeat (first | refine blk_drewN ?_ _ | refine blk_drew ?_ | refine blk_alloc ?_ _)); exact BK143.out) hb); have n3_ := Aside0.mk (below_step (by repeat (first | (with_reducible first | exact HB.out | apply below_alloc | apply pw_below_drewN | apply below_drew1 | refine below_set ?_ GE143.out) | exact HB.out)) hb); clear HO_88; clear HO159; clear BK143; clear HB; have HO_88 := n0_; have HO159 := n1_; have BK143 := n2_; have HB := n3_; clear n0_ n1_ n2_ n3_; (try clear hb); (try clear hb2); (try clear hk); (try clear hi); have p33 : 0 ≤ (10 : Int) := (by omega); have q33 : (10 : Int) < ((y157.length : Int) : Int) := of_decide_eq_true (by first | (with_reducible assumption) | assumption); have qi33 : (10 < y157.length) = True := eq_true (by omega); obtain ⟨go33, co33, eo33, gb33, gl33, cl33, HG33⟩ := Kd.R_form HO159.out (by omega); (first | cases eo33 | (injection eo33 with ea_ en_ ec_; (first | subst ea_ | (injection ea_ with ea_; subst ea_)); subst ec_; clear en_)); have GB33 := Aside0.mk gb33; have GG33 := Aside0.mk HG33; clear gb33 gl33 HG33; obtain ⟨hx33_0, hf33_0⟩ := Kd.R_celln 0 HO159.out (10 : Int) p33 q33; (try rw [show ((10 : Int)).toNat = 10 from rfl] at hx33_0); (try simp only [Nat.reduceMul, Nat.zero_mul, Nat.zero_add, Nat.reduceAdd] at hx33_0); (try rw [show ((10 : Int)).toNat = 10 from rfl] at hf33_0); (try simp only [Nat.reduceMul, Nat.zero_mul, Nat.zero_add, Nat.reduceAdd] at hf33_0); replace p33 := eq_true p33; replace q33 := eq_true q33; obtain ⟨hy41_, hz41_⟩ := Kd.R_celln 0 HO159.out (10 : Int) (by omega) (of_decide_eq_true (by first | (with_reducible assumption) | assumption)); (try simp only [Int.reduceToNat, Int.toNat_zero, Int.toNat_ofNat, Nat.reduceMul, Nat.zero_mul, Nat.zero_add] at hy41_ hz41_); (try rw [show ((10 : Int)).toNat = 10 from rfl] at hy41_); (try rw [show ((10 : Int)).toNat = 10 from rfl] at hz41_); have HP41 := Kd.R_putg HO159.out (10 : Int) ((t160 / 256) % 256)) | ((with_reducible refine gate_store (t := 5) (p := 122) rfl ?_); (try (rw [drewN_self w40]; generalize hq_ : World.drewN w40 _ = w40; have n0_ := Aside0.mk (Kd.R_at hq_ HO_88.out); have n1_ := Aside0.mk (Kd.R_at hq_ HO159.out); have n2_ := Aside0.mk (blk_at hq_ BK143.out); have n3_ := Aside0.mk (below_at hq_ HB.out); clear hq_ HO_88 HO159 BK143 HB; have HO_88 := n0_; have HO159 := n1_; have BK143 := n2_; have HB := n3_; clear n0_ n1_ n2_ n3_; (try (obtain ⟨hy41_, hz41_⟩ := Kd.R_celln 0 HO159.out (10 : Int) (by omega) (of_decide_eq_true (by first | (with_reducible assumption) | assumption)))); (try (try simp only [Int.reduceToNat, Int.toNat_zero, Int.toNat_ofNat, Nat.reduceMul, Nat.zero_mul, Nat.zero_add] at hy41_ hz41_)); (try (try rw [show ((10 : Int)).toNat = 10 from rfl] at hy41_)); (try (try rw [show ((10 : Int)).toNat = 10 from rfl] at hz41_)); (try (have HP41 := Kd.R_putg HO159.out (10 : Int) ((t160 / 256) % 256))))); refine store_event (t := 5) (p := 122) (v := ?vo_w42) (w1 := (w40.setCell ⟨go33, (10 : Int).toNat, none⟩ (.int .u8 ((t160 / 256) % 256)))) ?hg ?ho ?hn ?hr ?_; (case ho => rfl); (case hg => rfl); (case hn => rfl); (case hr => first | (go_simp; done) | (go_simp; rfl)); intro w42 hw; have hg : w40.grownBy w42 (some go33) := (by rw [hw]; exact HP41.2); have hp_ : Kd.R (Kd.int .u8) 5 w42 w.heap.size (fun _ => True) (.slice (some ⟨go33, 0, none⟩) y157.length co39) y161 := (by rw [hw, Ny161.out]; exact HP41.1); clear HP41; have n0_ := Aside0.mk (Kd.R_over' (v := (.slice (some ⟨go33, 0, none⟩) y157.length co39)) (by (with_reducible repeat (first | apply Kd.R_alloc | apply Kd.R_drewN | apply Kd.R_drew)); exact HO_88.out) (Kd.R_typed HO159.out) (by decide) hg); have n1_ := Aside0.mk (blk_grown (g := gb143) (o := .cells #[.int .u8 a0_0, .int .u8 a0_1, .int .u8 a0_2, .int .u16 a0_3, .int .u8 a0_4, .int .u16 a0_5, .int .u32 a0_6, .int .u32 a0_7, .slice A0_8 l0_8.length c0_8, .slice A0_9 l0_9.length c0_9] 30 (0, 0)) (by (with_reducible repeat (first | refine blk_drewN ?_ _ | refine blk_drew ?_ | refine blk_alloc ?_ _)); exact BK143.out) hg (Kd.R_ne HO159.out BK143.out (by decide))); have n2_ := Aside0.mk (hp_); have n3_ := Aside0.mk ((by rw [hw]; exact below_set (HB.out) GB33.out : Below w.heap.size w w42)); clear HO_88; clear BK143; clear HO159; clear HB; have HO_88 := n0_; have BK143 := n1_; have HO159 := n2_; have HB := n3_; clear n0_ n1_ n2_ n3_; clear hg hw hp_; have p35 : 0 ≤ (11 : Int) := (by omega); have q35 : (11 : Int) < ((y157.length : Int) : Int) := of_decide_eq_true (by first | (with_reducible assumption) | assumption); have qi35 : (11 < y157.length) = True := eq_true (by omega); obtain ⟨hx35_0, hf35_0⟩ := Kd.R_celln 0 HO159.out (11 : Int) p35 q35; (try rw [show ((11 : Int)).toNat = 11 from rfl] at hx35_0); (try simp only [Nat.reduceMul, Nat.zero_mul, Nat.zero_add, Nat.reduceAdd] at hx35_0); (try rw [show ((11 : Int)).toNat = 11 from rfl] at hf35_0); (try simp only [Nat.reduceMul, Nat.zero_mul, Nat.zero_add, Nat.reduceAdd] at hf35_0); replace p35 := eq_true p35; replace q35 := eq_true q35; obtain ⟨hy43_, hz43_⟩ := Kd.R_celln 0 HO159.out (11 : Int) (by omega) (of_decide_eq_true (by first | (with_reducible assumption) | assumption)); (try simp only [Int.reduceToNat, Int.toNat_zero, Int.toNat_ofNat, Nat.reduceMul, Nat.zero_mul, Nat.zero_add] at hy43_ hz43_); (try rw [show ((11 : Int)).toNat = 11 from rfl] at hy43_); (try rw [show ((11 : Int)).toNat = 11 from rfl] at hz43_); have HP43 := Kd.R_putg HO159.out (11 : Int) ((t160) % 256)) | ((with_reducible refine gate_store (t := 5) (p := 123) rfl ?_); (try (rw [drewN_self w42]; generalize hq_ : World.drewN w42 _ = w42; have n0_ := Aside0.mk (Kd.R_at hq_ HO_88.out); have n1_ := Aside0.mk (Kd.R_at hq_ HO159.out); have n2_ := Aside0.mk (blk_at hq_ BK143.out); have n3_ := Aside0.mk (below_at hq_ HB.out); clear hq_ HO_88 HO159 BK143 HB; have HO_88 := n0_; have HO159 := n1_; have BK143 := n2_; have HB := n3_; clear n0_ n1_ n2_ n3_; (try (obtain ⟨hy43_, hz43_⟩ := Kd.R_celln 0 HO159.out (11 : Int) (by omega) (of_decide_eq_true (by first | (with_reducible assumption) | assumption)))); (try (try simp only [Int.reduceToNat, Int.toNat_zero, Int.toNat_ofNat, Nat.reduceMul, Nat.zero_mul, Nat.zero_add] at hy43_ hz43_)); (try (try rw [show ((11 : Int)).toNat = 11 from rfl] at hy43_)); (try (try rw [show ((11 : Int)).toNat = 11 from rfl] at hz43_)); (try (have HP43 := Kd.R_putg HO159.out (11 : Int) ((t160) % 256))))); refine store_event (t := 5) (p := 123) (v := ?vo_w44) (w1 := (w42.setCell ⟨go33, (11 : Int).toNat, none⟩ (.int .u8 ((t160) % 256)))) ?hg ?ho ?hn ?hr ?_; (case ho => rfl); (case hg => rfl); (case hn => rfl); (case hr => first | (go_simp; done) | (go_simp; rfl)); intro w44 hw; have hg : w42.grownBy w44 (some go33) := (by rw [hw]; exact HP43.2); have hp_ : Kd.R (Kd.int .u8) 5 w44 w.heap.size (fun _ => True) (.slice (some ⟨go33, 0, none⟩) y157.length co39) y162 := (by rw [hw, Ny162.out]; exact HP43.1); clear HP43; have n0_ := Aside0.mk (Kd.R_over' (v := (.slice (some ⟨go33, 0, none⟩) y157.length co39)) (by (with_reducible repeat (first | apply Kd.R_alloc | apply Kd.R_drewN | apply Kd.R_drew)); exact HO_88.out) (Kd.R_typed HO159.out) (by decide) hg); have n1_ := Aside0.mk (blk_grown (g := gb143) (o := .cells #[.int .u8 a0_0, .int .u8 a0_1, .int .u8 a0_2, .int .u16 a0_3, .int .u8 a0_4, .int .u16 a0_5, .int .u32 a0_6, .int .u32 a0_7, .slice A0_8 l0_8.length c0_8, .slice A0_9 l0_9.length c0_9] 30 (0, 0)) (by (with_reducible repeat (first | refine blk_drewN ?_ _ | refine blk_drew ?_ | refine blk_alloc ?_ _)); exact BK143.out) hg (Kd.R_ne HO159.out BK143.out (by decide))); have n2_ := Aside0.mk (hp_); have n3_ := Aside0.mk ((by rw [hw]; exact below_set (HB.out) GB33.out : Below w.heap.size w w44)); clear HO_88; clear BK143; clear HO159; clear HB; have HO_88 := n0_; have BK143 := n1_; have HO159 := n2_; have HB := n3_; clear n0_ n1_ n2_ n3_; clear hg hw hp_; have hcz45_0 : w44.cell? ⟨gb143, 0, none⟩ = some (.int .u8 a0_0) := (blk_cell BK143.out 0).trans rfl; have hcz45_1 : w44.cell? ⟨gb143, 1, none⟩ = some (.int .u8 a0_1) := (blk_cell BK143.out 1).trans rfl; have hcz45_2 : w44.cell? ⟨gb143, 2, none⟩ = some (.int .u8 a0_2) := (blk_cell BK143.out 2).trans rfl; have hcz45_3 : w44.cell? ⟨gb143, 3, none⟩ = some (.int .u16 a0_3) := (blk_cell BK143.out 3).trans rfl; have hcz45_4 : w44.cell? ⟨gb143, 4, none⟩ = some (.int .u8 a0_4) := (blk_cell BK143.out 4).trans rfl; have hcz45_5 : w44.cell? ⟨gb143, 5, none⟩ = some (.int .u16 a0_5) := (blk_cell BK143.out 5).trans rfl; have hcz45_6 : w44.cell? ⟨gb143, 6, none⟩ = some (.int .u32 a0_6) := (blk_cell BK143.out 6).trans rfl; have hcz45_7 : w44.cell? ⟨gb143, 7, none⟩ = some (.int .u32 a0_7) := (blk_cell BK143.out 7).trans rfl; have hcz45_8 : w44.cell? ⟨gb143, 8, none⟩ = some (.slice A0_8 l0_8.length c0_8) := (blk_cell BK143.out 8).trans rfl; have hcz45_9 : w44.cell? ⟨gb143, 9, none⟩ = some (.slice A0_9 l0_9.length c0_9) := (blk_cell BK143.out 9).trans rfl; have hfz45_0 := blk_frozen BK143.out 0; have hfz45_1 := blk_frozen BK143.out 1; have hfz45_2 := blk_frozen BK143.out 2; have hfz45_3 := blk_frozen BK143.out 3; have hfz45_4 := blk_frozen BK143.out 4; have hfz45_5 := blk_frozen BK143.out 5; have hfz45_6 := blk_frozen BK143.out 6; have hfz45_7 := blk_frozen BK143.out 7; have hfz45_8 := blk_frozen BK143.out 8; have hfz45_9 := blk_frozen BK143.out 9) | ((with_reducible refine gate_builtin (b := .append) (xs := #[.tmp 124, .tmp 126]) rfl ?_); (try (refine gate_guard (by rfl) ?_; dsimp only)); at_builtin; refine Kd.R_append_rows (Kd.int .u8) (w0 := w) w.heap.size rfl (.tmp 124) (.tmp 126) 22 5 (.int .u8 0) 1 rfl Try.underlying22 info5 rfl (by decide) (by omega) (.slice (some ⟨go33, 0, none⟩) y157.length co39) y162 l0_9 _ _ _ (fun _ => True) (fun _ => False) rfl rfl ?aO ?aR (fun _ _ h => h) (fun _ h => h.elim) ?aF ?aB ?aS ?aL ?_; (case aR => repeat (first | exact (Kd.C_below HR0_9.out HB.out) | (with_reducible refine Kd.C_alloc ?_ _) | (with_reducible refine Kd.C_drewN ?_ _) | (with_reducible refine Kd.C_drew ?_))); (case aB => exact (by repeat (first | (with_reducible first | exact HB.out | apply below_alloc | apply pw_below_drewN | apply below_drew1 | refine below_set ?_ GE143.out) | exact HB.out))); (case aF => exact (fun _ _ => trivial)); (case aO => exact (by (with_reducible repeat (first | apply Kd.R_alloc | apply Kd.R_drewN | apply Kd.R_drew)); exact HO159.out)); (case aS => exact (below_size (by repeat (first | (with_reducible first | exact HB.out | apply below_alloc | apply pw_below_drewN | apply below_drew1 | refine below_set ?_ GE143.out) | exact HB.out)))); (case aL => have := LMc36.out; omega); intro v164 w46 ho hb hg hat; rw [← Ny163.out] at ho; have n0_ := Aside0.mk (Kd.R_over' (by (with_reducible repeat (first | apply Kd.R_alloc | apply Kd.R_drewN | apply Kd.R_drew)); exact HO_88.out) (Kd.R_typed (by (with_reducible repeat (first | apply Kd.R_alloc | apply Kd.R_drewN | apply Kd.R_drew)); exact HO159.out)) (by decide) hg); have n1_ := Aside0.mk (blk_grown (g := gb143) (o := .cells #[.int .u8 a0_0, .int .u8 a0_1, .int .u8 a0_2, .int .u16 a0_3, .int .u8 a0_4, .int .u16 a0_5, .int .u32 a0_6, .int .u32 a0_7, .slice A0_8 l0_8.length c0_8, .slice A0_9 l0_9.length c0_9] 30 (0, 0)) (by (with_reducible repeat (first | refine blk_drewN ?_ _ | refine blk_drew ?_ | refine blk_alloc ?_ _)); exact BK143.out) hg (Kd.R_ne HO159.out BK143.out (by decide))); have n2_ := Aside0.mk (hb); have n3_ := Aside0.mk (ho); clear HO_88; clear BK143; clear HB; clear HO159; have HO_88 := n0_; have BK143 := n1_; have HB := n2_; have HO165 := n3_; clear n0_ n1_ n2_ n3_; clear ho hb hg hat)); try go_wp2_with (first | ((with_reducible refine gate_builtin (b := .append) (xs := #[.tmp 109, .tmp 111]) rfl ?_); (try (refine gate_guard (by rfl) ?_; dsimp only)); at_builtin; refine Kd.R_append_rows (Kd.int .u8) (w0 := w) w.heap.size rfl (.tmp 109) (.tmp 111) 22 5 (.int .u8 0) 1 rfl Try.underlying22 info5 rfl (by decide) (by omega) u7 x7_2 l0_8 _ _ _ (fun _ => True) (fun _ => False) rfl rfl ?aO ?aR (fun _ _ h => h) (fun _ h => h.elim) ?aF ?aB ?aS ?aL ?_; (case aR => repeat (first | exact (Kd.C_below HR0_8.out HB.out) | (with_reducible refine Kd.C_alloc ?_ _) | (with_reducible refine Kd.C_drewN ?_ _) | (with_reducible refine Kd.C_drew ?_))); (case aB => exact (by repeat (first | (with_reducible first | exact HB.out | apply below_alloc | apply pw_below_drewN | apply below_drew1 | refine below_set ?_ GE143.out) | exact HB.out))); (case aF => exact (fun _ _ => trivial)); (case aO => exact (by (with_reducible repeat (first | apply Kd.R_alloc | apply Kd.R_drewN | apply Kd.R_drew)); exact HO_7.out)); (case aS => exact (below_size (by repeat (first | (with_reducible first | exact HB.out | apply below_alloc | apply pw_below_drewN | apply below_drew1 | refine below_set ?_ GE143.out) | exact HB.out)))); (case aL => have := LMc30.out; omega); intro v158 w38 ho hb hg hat; rw [← Ny157.out] at ho; have n0_ := Aside0.mk (Kd.R_over' (by (with_reducible repeat (first | apply Kd.R_alloc | apply Kd.R_drewN | apply Kd.R_drew)); exact HO_88.out) (Kd.R_typed (by (with_reducible repeat (first | apply Kd.R_alloc | apply Kd.R_drewN | apply Kd.R_drew)); exact HO_7.out)) (by decide) hg); have n1_ := Aside0.mk (blk_grown (g := gb143) (o := .cells #[.int .u8 a0_0, .int .u8 a0_1, .int .u8 a0_2, .int .u16 a0_3, .int .u8 a0_4, .int .u16 a0_5, .int .u32 a0_6, .int .u32 a0_7, .slice A0_8 l0_8.length c0_8, .slice A0_9 l0_9.length c0_9] 30 (0, 0)) (by (with_reducible repeat (first | refine blk_drewN ?_ _ | refine blk_drew ?_ | refine blk_alloc ?_ _)); exact BK143.out) hg (Kd.R_ne HO_7.out BK143.out (by decide))); have n2_ := Aside0.mk (hb); have n3_ := Aside0.mk (ho); clear HO_88; clear BK143; clear HB; clear HO_7; have HO_88 := n0_; have BK143 := n1_; have HB := n2_; have HO159 := n3_; clear n0_ n1_ n2_ n3_; clear ho hb hg hat; obtain ⟨Ao39, co39, eo39⟩ := Kd.R_slice HO159.out; subst eo39) | (go_at_call 26; (with_reducible refine (sum_Of.calls k2 _ _ y157 t160 _ ?side1 ?side2 A31.out).mono ?_); (case side1 => repeat (first | exact (Kd.R_reads' HO159.out).2.2 | (with_reducible refine Kd.C_alloc ?_ _) | (with_reducible refine Kd.C_drewN ?_ _) | (with_reducible refine Kd.C_drew ?_))); (case side2 => exact (Kd.R_reads' HO159.out).2.1); rintro e w40 ⟨rfl, hb⟩; have n0_ := Aside0.mk (Kd.R_below (by (with_reducible repeat (first | apply Kd.R_alloc | apply Kd.R_drewN | apply Kd.R_drew)); exact HO_88.out) hb); have n1_ := Aside0.mk (Kd.R_below (by (with_reducible repeat (first | apply Kd.R_alloc | apply Kd.R_drewN | apply Kd.R_drew)); exact HO159.out) hb); have n2_ := Aside0.mk (blk_below (g := gb143) (o := .cells #[.int .u8 a0_0, .int .u8 a0_1, .int .u8 a0_2, .int .u16 a0_3, .int .u8 a0_4, .int .u16 a0_5, .int .u32 a0_6, .int .u32 a0_7, .slice A0_8 l0_8.length c0_8, .slice A0_9 l0_9.length c0_9] 30 (0, 0)) (by (with_reducible repeat (first | refine blk_drewN ?_ _ | refine blk_drew ?_ | refine blk_alloc ?_ _)); exact BK143.out) hb); have n3_ := Aside0.mk (below_step (by repeat (first | (with_reducible first | exact HB.out | apply below_alloc | apply pw_below_drewN | apply below_drew1 | refine below_set ?_ GE143.out) | exact HB.out)) hb); clear HO_88; clear HO159; clear BK143; clear HB; have HO_88 := n0_; have HO159 := n1_; have BK143 := n2_; have HB := n3_; clear n0_ n1_ n2_ n3_; (try clear hb); (try clear hb2); (try clear hk); (try clear hi); have p33 : 0 ≤ (10 : Int) := (by omega); have q33 : (10 : Int) < ((y157.length : Int) : Int) := of_decide_eq_true (by first | (with_reducible assumption) | assumption); have qi33 : (10 < y157.length) = True := eq_true (by omega); obtain ⟨go33, co33, eo33, gb33, gl33, cl33, HG33⟩ := Kd.R_form HO159.out (by omega); (first | cases eo33 | (injection eo33 with ea_ en_ ec_; (first | subst ea_ | (injection ea_ with ea_; subst ea_)); subst ec_; clear en_)); have GB33 := Aside0.mk gb33; have GG33 := Aside0.mk HG33; clear gb33 gl33 HG33; obtain ⟨hx33_0, hf33_0⟩ := Kd.R_celln 0 HO159.out (10 : Int) p33 q33; (try rw [show ((10 : Int)).toNat = 10 from rfl] at hx33_0); (try simp only [Nat.reduceMul, Nat.zero_mul, Nat.zero_add, Nat.reduceAdd] at hx33_0); (try rw [show ((10 : Int)).toNat = 10 from rfl] at hf33_0); (try simp only [Nat.reduceMul, Nat.zero_mul, Nat.zero_add, Nat.reduceAdd] at hf33_0); replace p33 := eq_true p33; replace q33 := eq_true q33; obtain ⟨hy41_, hz41_⟩ := Kd.R_celln 0 HO159.out (10 : Int) (by omega) (of_decide_eq_true (by first | (with_reducible assumption) | assumption)); (try simp only [Int.reduceToNat, Int.toNat_zero, Int.toNat_ofNat, Nat.reduceMul, Nat.zero_mul, Nat.zero_add] at hy41_ hz41_); (try rw [show ((10 : Int)).toNat = 10 from rfl] at hy41_); (try rw [show ((10 : Int)).toNat = 10 from rfl] at hz41_); have HP41 := Kd.R_putg HO159.out (10 : Int) ((t160 / 256) % 256)) | ((with_reducible refine gate_store (t := 5) (p := 122) rfl ?_); (try (rw [drewN_self w40]; generalize hq_ : World.drewN w40 _ = w40; have n0_ := Aside0.mk (Kd.R_at hq_ HO_88.out); have n1_ := Aside0.mk (Kd.R_at hq_ HO159.out); have n2_ := Aside0.mk (blk_at hq_ BK143.out); have n3_ := Aside0.mk (below_at hq_ HB.out); clear hq_ HO_88 HO159 BK143 HB; have HO_88 := n0_; have HO159 := n1_; have BK143 := n2_; have HB := n3_; clear n0_ n1_ n2_ n3_; (try (obtain ⟨hy41_, hz41_⟩ := Kd.R_celln 0 HO159.out (10 : Int) (by omega) (of_decide_eq_true (by first | (with_reducible assumption) | assumption)))); (try (try simp only [Int.reduceToNat, Int.toNat_zero, Int.toNat_ofNat, Nat.reduceMul, Nat.zero_mul, Nat.zero_add] at hy41_ hz41_)); (try (try rw [show ((10 : Int)).toNat = 10 from rfl] at hy41_)); (try (try rw [show ((10 : Int)).toNat = 10 from rfl] at hz41_)); (try (have HP41 := Kd.R_putg HO159.out (10 : Int) ((t160 / 256) % 256))))); refine store_event (t := 5) (p := 122) (v := ?vo_w42) (w1 := (w40.setCell ⟨go33, (10 : Int).toNat, none⟩ (.int .u8 ((t160 / 256) % 256)))) ?hg ?ho ?hn ?hr ?_; (case ho => rfl); (case hg => rfl); (case hn => rfl); (case hr => first | (go_simp; done) | (go_simp; rfl)); intro w42 hw; have hg : w40.grownBy w42 (some go33) := (by rw [hw]; exact HP41.2); have hp_ : Kd.R (Kd.int .u8) 5 w42 w.heap.size (fun _ => True) (.slice (some ⟨go33, 0, none⟩) y157.length co39) y161 := (by rw [hw, Ny161.out]; exact HP41.1); clear HP41; have n0_ := Aside0.mk (Kd.R_over' (v := (.slice (some ⟨go33, 0, none⟩) y157.length co39)) (by (with_reducible repeat (first | apply Kd.R_alloc | apply Kd.R_drewN | apply Kd.R_drew)); exact HO_88.out) (Kd.R_typed HO159.out) (by decide) hg); have n1_ := Aside0.mk (blk_grown (g := gb143) (o := .cells #[.int .u8 a0_0, .int .u8 a0_1, .int .u8 a0_2, .int .u16 a0_3, .int .u8 a0_4, .int .u16 a0_5, .int .u32 a0_6, .int .u32 a0_7, .slice A0_8 l0_8.length c0_8, .slice A0_9 l0_9.length c0_9] 30 (0, 0)) (by (with_reducible repeat (first | refine blk_drewN ?_ _ | refine blk_drew ?_ | refine blk_alloc ?_ _)); exact BK143.out) hg (Kd.R_ne HO159.out BK143.out (by decide))); have n2_ := Aside0.mk (hp_); have n3_ := Aside0.mk ((by rw [hw]; exact below_set (HB.out) GB33.out : Below w.heap.size w w42)); clear HO_88; clear BK143; clear HO159; clear HB; have HO_88 := n0_; have BK143 := n1_; have HO159 := n2_; have HB := n3_; clear n0_ n1_ n2_ n3_; clear hg hw hp_; have p35 : 0 ≤ (11 : Int) := (by omega); have q35 : (11 : Int) < ((y157.length : Int) : Int) := of_decide_eq_true (by first | (with_reducible assumption) | assumption); have qi35 : (11 < y157.length) = True := eq_true (by omega); obtain ⟨hx35_0, hf35_0⟩ := Kd.R_celln 0 HO159.out (11 : Int) p35 q35; (try rw [show ((11 : Int)).toNat = 11 from rfl] at hx35_0); (try simp only [Nat.reduceMul, Nat.zero_mul, Nat.zero_add, Nat.reduceAdd] at hx35_0); (try rw [show ((11 : Int)).toNat = 11 from rfl] at hf35_0); (try simp only [Nat.reduceMul, Nat.zero_mul, Nat.zero_add, Nat.reduceAdd] at hf35_0); replace p35 := eq_true p35; replace q35 := eq_true q35; obtain ⟨hy43_, hz43_⟩ := Kd.R_celln 0 HO159.out (11 : Int) (by omega) (of_decide_eq_true (by first | (with_reducible assumption) | assumption)); (try simp only [Int.reduceToNat, Int.toNat_zero, Int.toNat_ofNat, Nat.reduceMul, Nat.zero_mul, Nat.zero_add] at hy43_ hz43_); (try rw [show ((11 : Int)).toNat = 11 from rfl] at hy43_); (try rw [show ((11 : Int)).toNat = 11 from rfl] at hz43_); have HP43 := Kd.R_putg HO159.out (11 : Int) ((t160) % 256)) | ((with_reducible refine gate_store (t := 5) (p := 123) rfl ?_); (try (rw [drewN_self w42]; generalize hq_ : World.drewN w42 _ = w42; have n0_ := Aside0.mk (Kd.R_at hq_ HO_88.out); have n1_ := Aside0.mk (Kd.R_at hq_ HO159.out); have n2_ := Aside0.mk (blk_at hq_ BK143.out); have n3_ := Aside0.mk (below_at hq_ HB.out); clear hq_ HO_88 HO159 BK143 HB; have HO_88 := n0_; have HO159 := n1_; have BK143 := n2_; have HB := n3_; clear n0_ n1_ n2_ n3_; (try (obtain ⟨hy43_, hz43_⟩ := Kd.R_celln 0 HO159.out (11 : Int) (by omega) (of_decide_eq_true (by first | (with_reducible assumption) | assumption)))); (try (try simp only [Int.reduceToNat, Int.toNat_zero, Int.toNat_ofNat, Nat.reduceMul, Nat.zero_mul, Nat.zero_add] at hy43_ hz43_)); (try (try rw [show ((11 : Int)).toNat = 11 from rfl] at hy43_)); (try (try rw [show ((11 : Int)).toNat = 11 from rfl] at hz43_)); (try (have HP43 := Kd.R_putg HO159.out (11 : Int) ((t160) % 256))))); refine store_event (t := 5) (p := 123) (v := ?vo_w44) (w1 := (w42.setCell ⟨go33, (11 : Int).toNat, none⟩ (.int .u8 ((t160) % 256)))) ?hg ?ho ?hn ?hr ?_; (case ho => rfl); (case hg => rfl); (case hn => rfl); (case hr => first | (go_simp; done) | (go_simp; rfl)); intro w44 hw; have hg : w42.grownBy w44 (some go33) := (by rw [hw]; exact HP43.2); have hp_ : Kd.R (Kd.int .u8) 5 w44 w.heap.size (fun _ => True) (.slice (some ⟨go33, 0, none⟩) y157.length co39) y162 := (by rw [hw, Ny162.out]; exact HP43.1); clear HP43; have n0_ := Aside0.mk (Kd.R_over' (v := (.slice (some ⟨go33, 0, none⟩) y157.length co39)) (by (with_reducible repeat (first | apply Kd.R_alloc | apply Kd.R_drewN | apply Kd.R_drew)); exact HO_88.out) (Kd.R_typed HO159.out) (by decide) hg); have n1_ := Aside0.mk (blk_grown (g := gb143) (o := .cells #[.int .u8 a0_0, .int .u8 a0_1, .int .u8 a0_2, .int .u16 a0_3, .int .u8 a0_4, .int .u16 a0_5, .int .u32 a0_6, .int .u32 a0_7, .slice A0_8 l0_8.length c0_8, .slice A0_9 l0_9.length c0_9] 30 (0, 0)) (by (with_reducible repeat (first | refine blk_drewN ?_ _ | refine blk_drew ?_ | refine blk_alloc ?_ _)); exact BK143.out) hg (Kd.R_ne HO159.out BK143.out (by decide))); have n2_ := Aside0.mk (hp_); have n3_ := Aside0.mk ((by rw [hw]; exact below_set (HB.out) GB33.out : Below w.heap.size w w44)); clear HO_88; clear BK143; clear HO159; clear HB; have HO_88 := n0_; have BK143 := n1_; have HO159 := n2_; have HB := n3_; clear n0_ n1_ n2_ n3_; clear hg hw hp_; have hcz45_0 : w44.cell? ⟨gb143, 0, none⟩ = some (.int .u8 a0_0) := (blk_cell BK143.out 0).trans rfl; have hcz45_1 : w44.cell? ⟨gb143, 1, none⟩ = some (.int .u8 a0_1) := (blk_cell BK143.out 1).trans rfl; have hcz45_2 : w44.cell? ⟨gb143, 2, none⟩ = some (.int .u8 a0_2) := (blk_cell BK143.out 2).trans rfl; have hcz45_3 : w44.cell? ⟨gb143, 3, none⟩ = some (.int .u16 a0_3) := (blk_cell BK143.out 3).trans rfl; have hcz45_4 : w44.cell? ⟨gb143, 4, none⟩ = some (.int .u8 a0_4) := (blk_cell BK143.out 4).trans rfl; have hcz45_5 : w44.cell? ⟨gb143, 5, none⟩ = some (.int .u16 a0_5) := (blk_cell BK143.out 5).trans rfl; have hcz45_6 : w44.cell? ⟨gb143, 6, none⟩ = some (.int .u32 a0_6) := (blk_cell BK143.out 6).trans rfl; have hcz45_7 : w44.cell? ⟨gb143, 7, none⟩ = some (.int .u32 a0_7) := (blk_cell BK143.out 7).trans rfl; have hcz45_8 : w44.cell? ⟨gb143, 8, none⟩ = some (.slice A0_8 l0_8.length c0_8) := (blk_cell BK143.out 8).trans rfl; have hcz45_9 : w44.cell? ⟨gb143, 9, none⟩ = some (.slice A0_9 l0_9.length c0_9) := (blk_cell BK143.out 9).trans rfl; have hfz45_0 := blk_frozen BK143.out 0; have hfz45_1 := blk_frozen BK143.out 1; have hfz45_2 := blk_frozen BK143.out 2; have hfz45_3 := blk_frozen BK143.out 3; have hfz45_4 := blk_frozen BK143.out 4; have hfz45_5 := blk_frozen BK143.out 5; have hfz45_6 := blk_frozen BK143.out 6; have hfz45_7 := blk_frozen BK143.out 7; have hfz45_8 := blk_frozen BK143.out 8; have hfz45_9 := blk_frozen BK143.out 9) | ((with_reducible refine gate_builtin (b := .append) (xs := #[.tmp 124, .tmp 126]) rfl ?_); (try (refine gate_guard (by rfl) ?_; dsimp only)); at_builtin; refine Kd.R_append_rows (Kd.int .u8) (w0 := w) w.heap.size rfl (.tmp 124) (.tmp 126) 22 5 (.int .u8 0) 1 rfl Try.underlying22 info5 rfl (by decide) (by omega) (.slice (some ⟨go33, 0, none⟩) y157.length co39) y162 l0_9 _ _ _ (fun _ => True) (fun _ => False) rfl rfl ?aO ?aR (fun _ _ h => h) (fun _ h => h.elim) ?aF ?aB ?aS ?aL ?_; (case aR => repeat (first | exact (Kd.C_below HR0_9.out HB.out) | (with_reducible refine Kd.C_alloc ?_ _) | (with_reducible refine Kd.C_drewN ?_ _) | (with_reducible refine Kd.C_drew ?_))); (case aB => exact (by repeat (first | (with_reducible first | exact HB.out | apply below_alloc | apply pw_below_drewN | apply below_drew1 | refine below_set ?_ GE143.out) | exact HB.out))); (case aF => exact (fun _ _ => trivial)); (case aO => exact (by (with_reducible repeat (first | apply Kd.R_alloc | apply Kd.R_drewN | apply Kd.R_drew)); exact HO159.out)); (case aS => exact (below_size (by repeat (first | (with_reducible first | exact HB.out | apply below_alloc | apply pw_below_drewN | apply below_drew1 | refine below_set ?_ GE143.out) | exact HB.out)))); (case aL => have := LMc36.out; omega); intro v164 w46 ho hb hg hat; rw [← Ny163.out] at ho; have n0_ := Aside0.mk (Kd.R_over' (by (with_reducible repeat (first | apply Kd.R_alloc | apply Kd.R_drewN | apply Kd.R_drew)); exact HO_88.out) (Kd.R_typed (by (with_reducible repeat (first | apply Kd.R_alloc | apply Kd.R_drewN | apply Kd.R_drew)); exact HO159.out)) (by decide) hg); have n1_ := Aside0.mk (blk_grown (g := gb143) (o := .cells #[.int .u8 a0_0, .int .u8 a0_1, .int .u8 a0_2, .int .u16 a0_3, .int .u8 a0_4, .int .u16 a0_5, .int .u32 a0_6, .int .u32 a0_7, .slice A0_8 l0_8.length c0_8, .slice A0_9 l0_9.length c0_9] 30 (0, 0)) (by (with_reducible repeat (first | refine blk_drewN ?_ _ | refine blk_drew ?_ | refine blk_alloc ?_ _)); exact BK143.out) hg (Kd.R_ne HO159.out BK143.out (by decide))); have n2_ := Aside0.mk (hb); have n3_ := Aside0.mk (ho); clear HO_88; clear BK143; clear HB; clear HO159; have HO_88 := n0_; have BK143 := n1_; have HB := n2_; have HO165 := n3_; clear n0_ n1_ n2_ n3_; clear ho hb hg hat)))
            go_ret2
            exact ⟨_, by first | rfl | (simp [errW_none, errW_some] <;> rfl) | (simp [*, errW_none, errW_some] <;> rfl), by (with_reducible repeat (first | apply Kd.R_alloc | apply Kd.R_drewN | apply Kd.R_drew)); exact HO165.out, by repeat (first | (with_reducible first | exact HB.out | apply below_alloc | apply pw_below_drewN | apply below_drew1 | refine below_set ?_ GE143.out) | exact HB.out)⟩
           ·rw [if_neg c36] at H
            exact absurd H (by simp)
          ·rw [if_neg c34] at H
           exact absurd H (by simp)
         ·rw [if_neg c32] at H
          exact absurd H (by simp)
        ·rw [if_neg c30] at H
         exact absurd H (by simp)

end Go.Proofs.Ytmlmiiejifhfeaa.PA
