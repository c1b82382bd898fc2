/- Texts of this claim, merged: PBx29, Spec, BytesEq, FE, PBx35, BytesEqB, FV, PBx32, PBx33, PBx34, SumEq, SpecSum, FU, PBx30, FR, SumEqO, FB, FrPl, FrBk. -/
import Derived.Test.YtkmimamminddiaaZbb
import Derived.Laws.BitsAllLaws
import Derived.Laws.BitsLemmas
import Derived.RowKit
import Derived.Test.YtkmimamminddiaaZbe
import Derived.Test.YtkmimamminddiaaZbd
import Derived.Test.YtkmimamminddiaaZbc
import Derived.Deep.Cut
import Derived.Deep.CutRange
import Derived.Deep.CutBlock
import Derived.Deep.WholeRow
-- written by a patched print
namespace Go.Proofs.Ytkmimamminddiaa.PB
open Go.RowKit Go.Proofs.YtkmimamminddiaaW.PrintWords Go.Proofs.YtkmimamminddiaaW.PrintLast Go.Proofs.YtkmimamminddiaaW.PrintMore
attribute [local go_sem] max2_int min2_int max_two min_two max_three min_three max_four min_four   -- for this text's walks alone
set_option linter.unusedVariables false
set_option linter.unusedSimpArgs false

/-! ### lychref1_Get16: function 64 -/
def lychref1_Get16.f (l0 : List Int) (a1 : Int) : Option (Int) := if 0 ≤ a1 then (if a1 < (l0.length : Int) then (if 0 ≤ (wrap64 (a1 + 1)) then (if (wrap64 (a1 + 1)) < (l0.length : Int) then (some (Go.bits .or .u16 (IntKind.u16.wrap ((IntKind.u16.wrap (rd l0 a1)) * 256)) (IntKind.u16.wrap (rd l0 (wrap64 (a1 + 1)))))) else (none)) else (none)) else (none)) else (none)
set_option maxHeartbeats 8000000 in
set_option maxRecDepth 100000 in
theorem lychref1_Get16.calls (A0 : Option Addr) (c0 : Nat) (l0 : List Int) (a1 : Int) (r : Int) (w : World) (hr0 : Kd.C (Kd.int .u8) w A0 l0.length l0) (hc0 : l0.length ≤ c0) (h : lychref1_Get16.f l0 a1 = some r) :
  Calls Try.prog 64 #[.slice A0 l0.length c0, .int .i64 a1] w fun e w' => e = .returned (.int .u16 r) ∧ Drawn0 w w' := by
 have HR0 := Aside0.mk hr0
 have HC0 := Aside0.mk hc0
 clear hr0 hc0
 have H : (if 0 ≤ a1 then (if a1 < (l0.length : Int) then (if 0 ≤ (wrap64 (a1 + 1)) then (if (wrap64 (a1 + 1)) < (l0.length : Int) then (some (Go.bits .or .u16 (IntKind.u16.wrap ((IntKind.u16.wrap (rd l0 a1)) * 256)) (IntKind.u16.wrap (rd l0 (wrap64 (a1 + 1)))))) else (none)) else (none)) else (none)) else (none)) = some r := h
 clear h
 by_cases c3 : 0 ≤ a1
 ·rw [if_pos c3] at H
  have c3b0 : decide (0 ≤ a1) = true := decide_eq_true c3
  clear c3
  by_cases c4 : a1 < (l0.length : Int)
  ·rw [if_pos c4] at H
   have c4b0 : decide (a1 < (l0.length : Int)) = true := decide_eq_true c4
   clear c4
   obtain ⟨ji5, hji5⟩ : ∃ j_ : Int, (wrap64 (a1 + 1)) = j_ := ⟨_, rfl⟩
   replace H : (if 0 ≤ (ji5) then (if (ji5) < (l0.length : Int) then (some (Go.bits .or .u16 (IntKind.u16.wrap ((IntKind.u16.wrap (rd l0 a1)) * 256)) (IntKind.u16.wrap (rd l0 (ji5))))) else (none)) else (none)) = some r := by first | (rw [hji5] at H; exact H) | (simp only [hji5] at H ⊢; exact H)
   have hji5w : (IntKind.i64.wrap (a1 + 1)) = ji5 := (i64_w _).trans hji5
   by_cases c6 : 0 ≤ (ji5)
   ·rw [if_pos c6] at H
    have c6b0 : decide (0 ≤ (ji5)) = true := decide_eq_true c6
    clear c6
    by_cases c7 : (ji5) < (l0.length : Int)
    ·rw [if_pos c7] at H
     have c7b0 : decide ((ji5) < (l0.length : Int)) = true := decide_eq_true c7
     clear c7
     obtain rfl := Option.some.inj H
     have p425 : 0 ≤ (a1 : Int) := of_decide_eq_true (by first | (with_reducible assumption) | assumption)
     have q425 : a1 < (l0.length : Int) := of_decide_eq_true (by first | (with_reducible assumption) | assumption)
     obtain ⟨ad425, e425, hx425_0⟩ := Kd.at_int HR0.out a1 p425 q425
     cases e425
     replace p425 := eq_true p425
     replace q425 := eq_true q425
     have p426 : 0 ≤ ((ji5) : Int) := of_decide_eq_true (by first | (with_reducible assumption) | assumption)
     have q426 : (ji5) < (l0.length : Int) := of_decide_eq_true (by first | (with_reducible assumption) | assumption)
     obtain ⟨ad426, e426, hx426_0⟩ := Kd.at_int HR0.out (ji5) p426 q426
     obtain rfl : ad425 = ad426 := (by injection e426)
     replace p426 := eq_true p426
     replace q426 := eq_true q426
     go_enter Try.func64, Try.ntmps64
     go_wp2
     repeat (go_quiet (fail); try go_wp2)
     go_ret
     exact ⟨by first | rfl | (simp; done) | (simp only [← hji5] <;> (first | rfl | simp)) | (simp [*]; done), by repeat (first | exact Drawn0.refl _ | apply Drawn0.step)⟩
    ·rw [if_neg c7] at H
     exact absurd H (by simp)
   ·rw [if_neg c6] at H
    exact absurd H (by simp)
  ·rw [if_neg c4] at H
   exact absurd H (by simp)
 ·rw [if_neg c3] at H
  exact absurd H (by simp)

/-! ### lychref1_cut: function 65 -/
def lychref1_cut.f (l0 : List Int) (a1 : Int) (a2 : Int) : Option (List Int) := if 0 ≤ a1 then (if a1 ≤ a2 then (if a2 ≤ (l0.length : Int) then (if ([] : List Int).length + ((l0.take (a2 : Int).toNat).drop (a1 : Int).toNat).length < 140737488355328 then (some (([] : List Int) ++ ((l0.take (a2 : Int).toNat).drop (a1 : Int).toNat))) else (none)) else (none)) else (none)) else (none)
set_option maxHeartbeats 8000000 in
set_option maxRecDepth 100000 in
theorem lychref1_cut.calls (A0 : Option Addr) (c0 : Nat) (l0 : List Int) (a1 : Int) (a2 : Int) (r : List Int) (w : World) (hr0 : Kd.C (Kd.int .u8) w A0 l0.length l0) (hc0 : l0.length ≤ c0) (h : lychref1_cut.f l0 a1 a2 = some r) :
  Calls Try.prog 65 #[.slice A0 l0.length c0, .int .i64 a1, .int .i64 a2] w fun e w' => ∃ v0_ : Value, e = .returned (v0_) ∧ Kd.R (Kd.int .u8) 5 w' w.heap.size (fun _ => True) v0_ r ∧ Below w.heap.size w w' := by
 have HR0 := Aside0.mk hr0
 have HC0 := Aside0.mk hc0
 clear hr0 hc0
 have HB := Aside0.mk (Below.refl w.heap.size w)
 have H : (if 0 ≤ a1 then (if a1 ≤ a2 then (if a2 ≤ (l0.length : Int) then (if ([] : List Int).length + ((l0.take (a2 : Int).toNat).drop (a1 : Int).toNat).length < 140737488355328 then (some (([] : List Int) ++ ((l0.take (a2 : Int).toNat).drop (a1 : Int).toNat))) else (none)) else (none)) else (none)) else (none)) = some r := h
 clear h
 by_cases c4 : 0 ≤ a1
 ·rw [if_pos c4] at H
  have c4b0 := eq_true c4
  have c4b1 : decide (0 ≤ a1) = true := decide_eq_true c4
  clear c4
  by_cases c5 : a1 ≤ a2
  ·rw [if_pos c5] at H
   have c5b0 := eq_true c5
   have c5b1 : decide (a1 ≤ a2) = true := decide_eq_true c5
   clear c5
   by_cases c6 : a2 ≤ (l0.length : Int)
   ·rw [if_pos c6] at H
    have c6b0 := eq_true c6
    have c6b1 : decide (a2 ≤ (l0.length : Int)) = true := decide_eq_true c6
    clear c6
    by_cases c7 : ([] : List Int).length + ((l0.take (a2 : Int).toNat).drop (a1 : Int).toNat).length < 140737488355328
    ·rw [if_pos c7] at H
     have LMc7 := Aside0.mk c7
     clear c7
     obtain ⟨y428, hy428⟩ : ∃ y_ : List Int, y_ = (([] : List Int) ++ ((l0.take (a2 : Int).toNat).drop (a1 : Int).toNat)) := ⟨_, rfl⟩
     replace H : (some y428) = some r := by first | (rw [hy428]; with_reducible exact H) | (have H2_ := (Option.bind_some _ _).symm.trans H; rw [hy428]; with_reducible exact H2_) | (have H2_ := (Option.bind_some _ _).symm.trans H; with_reducible exact H2_) | with_reducible exact H | (rw [hy428]; exact H) | exact H
     have Ny428 := Aside0.mk hy428
     clear hy428
     obtain rfl := Option.some.inj H
     obtain ⟨i08, hi08, _, hsz8, _⟩ := info_parts info5
     obtain ⟨A8, hcut8, hA8, hC8⟩ := print_mid_of (P := Try.prog) (Value.int .u8) 0 23 5 .i64 .i64 Try.underlying23 hi08 hsz8 A0 c0 l0 a1 a2 (of_decide_eq_true (by first | (with_reducible assumption) | assumption)) (by first | omega | exact of_decide_eq_true (by first | (with_reducible assumption) | assumption)) (of_decide_eq_true (by first | (with_reducible assumption) | assumption)) HC0.out
     have HR427 := Aside0.mk (Kd.C_of_reads (h1 := fun _ => rfl) (hA8 _ (Kd.reads_of_C HR0.out)))
     have HC427 := Aside0.mk hC8
     clear hA8 hC8 hi08 hsz8
     go_enter Try.func65, Try.ntmps65
     go_wp2_with (first | ((with_reducible refine gate_builtin (b := .append) (xs := #[.const (.slice none 0 0), .tmp 10]) rfl ?_); at_builtin; refine Kd.R_append_rows (Kd.int .u8) (w0 := w) w.heap.size rfl (.const (.slice none 0 0)) (.tmp 10) 23 5 (.int .u8 0) 1 rfl Try.underlying23 info5 rfl (by decide) (by omega) (.slice none 0 0) ([] : List Int) ((l0.take (a2 : Int).toNat).drop (a1 : Int).toNat) _ _ _ (fun _ => True) (fun _ => False) rfl rfl ?aO ?aR (fun _ _ h => h) (fun _ h => h.elim) ?aF ?aB ?aS ?aL ?_; (case aR => first | (rw [← show ((l0.take (a2 : Int).toNat).drop (a1 : Int).toNat).length = (a2.toNat - a1.toNat) from (by rw [List.length_drop, List.length_take]; have h_ : (a2 : Int) ≤ (l0.length : Int) := of_decide_eq_true (by first | (with_reducible assumption) | assumption); omega)]; repeat (first | exact HR427.out | (with_reducible refine Kd.C_alloc ?_ _) | (with_reducible refine Kd.C_drewN ?_ _) | (with_reducible refine Kd.C_drew ?_))) | (repeat (first | exact HR427.out | (with_reducible refine Kd.C_alloc ?_ _) | (with_reducible refine Kd.C_drewN ?_ _) | (with_reducible refine Kd.C_drew ?_)))); (case aB => exact (by repeat (first | (with_reducible first | exact HB.out | apply below_alloc | apply pw_below_drewN | apply below_drew1) | exact HB.out))); (case aF => exact (fun _ _ => trivial)); (case aO => exact ((Kd.R_nil _ _ _ _ (fun _ => True)))); (case aS => exact (below_size (by repeat (first | (with_reducible first | exact HB.out | apply below_alloc | apply pw_below_drewN | apply below_drew1) | exact HB.out)))); (case aL => have := LMc7.out; have hlx_ := (show ((l0.take (a2 : Int).toNat).drop (a1 : Int).toNat).length = (a2.toNat - a1.toNat) from (by rw [List.length_drop, List.length_take]; have h_ : (a2 : Int) ≤ (l0.length : Int) := of_decide_eq_true (by first | (with_reducible assumption) | assumption); omega)); omega); intro v429 w9 ho hb hg hat; rw [← Ny428.out] at ho; have n0_ := Aside0.mk (hb); have n1_ := Aside0.mk (ho); clear HB; have HB := n0_; have HO430 := n1_; clear n0_ n1_; clear ho hb hg hat))
     go_ret
     exact ⟨_, by first | rfl | (simp [errW_none, errW_some] <;> rfl) | (simp [*, errW_none, errW_some] <;> rfl), by (with_reducible repeat (first | apply Kd.R_alloc | apply Kd.R_drewN | apply Kd.R_drew)); exact HO430.out, by repeat (first | (with_reducible first | exact HB.out | apply below_alloc | apply pw_below_drewN | apply below_drew1) | exact HB.out)⟩
    ·rw [if_neg c7] at H
     exact absurd H (by simp)
   ·rw [if_neg c6] at H
    exact absurd H (by simp)
  ·rw [if_neg c5] at H
   exact absurd H (by simp)
 ·rw [if_neg c4] at H
  exact absurd H (by simp)

/-! ### lychref1_Eth: function 29 -/
def lychref1_Eth.cs (l0 : List Int) (i : Nat) : Array Value := #[.int .u8 (if 0 < i then rd l0 0 else 0), .int .u8 (if 1 < i then rd l0 1 else 0), .int .u8 (if 2 < i then rd l0 2 else 0), .int .u8 (if 3 < i then rd l0 3 else 0), .int .u8 (if 4 < i then rd l0 4 else 0), .int .u8 (if 5 < i then rd l0 5 else 0), .int .u8 (if 0 < i then rd l0 6 else 0), .int .u8 (if 1 < i then rd l0 7 else 0), .int .u8 (if 2 < i then rd l0 8 else 0), .int .u8 (if 3 < i then rd l0 9 else 0), .int .u8 (if 4 < i then rd l0 10 else 0), .int .u8 (if 5 < i then rd l0 11 else 0), .int .u16 0, .slice none 0 0]
theorem lychref1_Eth.cs_step (l0 : List Int) (i : Nat) (h : i < 6) : ((lychref1_Eth.cs l0 i).setIfInBounds i (.int .u8 (rd l0 (i : Int)))).setIfInBounds (6 + i) (.int .u8 (rd l0 (6 + (i : Int)))) = lychref1_Eth.cs l0 (i + 1) := by
 match i, h with
 | 0, _ => rfl
 | 1, _ => rfl
 | 2, _ => rfl
 | 3, _ => rfl
 | 4, _ => rfl
 | 5, _ => rfl
theorem lychref1_Eth.cs_old (l0 : List Int) (i : Nat) (h : i < 6) : (lychref1_Eth.cs l0 i)[i]? = some (.int .u8 0) ∧ ((lychref1_Eth.cs l0 i).setIfInBounds i (.int .u8 (rd l0 (i : Int))))[6 + i]? = some (.int .u8 0) := by
 match i, h with
 | 0, _ => exact ⟨rfl, rfl⟩
 | 1, _ => exact ⟨rfl, rfl⟩
 | 2, _ => exact ⟨rfl, rfl⟩
 | 3, _ => exact ⟨rfl, rfl⟩
 | 4, _ => exact ⟨rfl, rfl⟩
 | 5, _ => exact ⟨rfl, rfl⟩
def lychref1_Eth.T9 : Bool × List (List Nat × List Nat) := (true, [([], []), ([], []), ([], []), ([], []), ([2, 3], [2, 3]), ([4], [4]), ([], []), ([], []), ([7], [7]), ([6, 8], [6, 8]), ([9], [9]), ([], []), ([11, 0, 0, 2, 3, 4, 5], [0, 11]), ([12, 5, 0, 2, 3, 4, 5], [5, 12]), ([], []), ([14, 1, 0, 1, 2, 3, 4, 5, 6, 7, 8, 9, 10, 11, 12, 13], [1, 14]), ([15, 10, 13, 0, 1, 2, 3, 4, 5, 6, 7, 8, 9, 10, 11, 12, 13], [10, 15])])
def lychref1_Eth.B9 : List Nat := [0, 0, 0, 0, 12, 28, 0, 0, 128, 448, 960, 0, 2109, 6205, 0, 32767, 65535]
theorem lychref1_Eth.tab9 : rtab .any (opsOf Try.f29 9) = lychref1_Eth.T9 := by kernel_rfl
theorem lychref1_Eth.bits9 : waitsOk lychref1_Eth.T9.2 lychref1_Eth.B9 = true := by kernel_rfl
def lychref1_Eth.f (l0 : List Int) : Option (Int × Int × Int × Int × Int × Int × Int × Int × Int × Int × Int × Int × Int × List Int × Int) := if (l0.length : Int) > 1600 then some (0, 0, 0, 0, 0, 0, 0, 0, 0, 0, 0, 0, 0, [], 23) else if (l0.length : Int) < 14 then some (0, 0, 0, 0, 0, 0, 0, 0, 0, 0, 0, 0, 0, [], 20) else (lychref1_Get16.f l0 12).bind fun t => (lychref1_cut.f l0 14 (l0.length : Int)).bind fun b => some (rd l0 0, rd l0 1, rd l0 2, rd l0 3, rd l0 4, rd l0 5, rd l0 6, rd l0 7, rd l0 8, rd l0 9, rd l0 10, rd l0 11, t, b, 0)
set_option maxHeartbeats 8000000 in
set_option maxRecDepth 100000 in
theorem lychref1_Eth.calls (A0 : Option Addr) (c0 : Nat) (l0 : List Int) (r1 : Int) (r2 : Int) (r3 : Int) (r4 : Int) (r5 : Int) (r6 : Int) (r7 : Int) (r8 : Int) (r9 : Int) (r10 : Int) (r11 : Int) (r12 : Int) (r13 : Int) (r14 : List Int) (r15 : Int) (w : World) (hr0 : Kd.C (Kd.int .u8) w A0 l0.length l0) (hc0 : l0.length ≤ c0) (h : lychref1_Eth.f l0 = some (r1, r2, r3, r4, r5, r6, r7, r8, r9, r10, r11, r12, r13, r14, r15)) :
  Calls Try.prog 29 #[.slice A0 l0.length c0] w fun e w' => ∃ v13_ : Value, e = .returned (.tuple #[.agg #[.int .u8 r1, .int .u8 r2, .int .u8 r3, .int .u8 r4, .int .u8 r5, .int .u8 r6, .int .u8 r7, .int .u8 r8, .int .u8 r9, .int .u8 r10, .int .u8 r11, .int .u8 r12, .int .u16 r13, v13_], .int .i64 r15]) ∧ Kd.R (Kd.int .u8) 5 w' w.heap.size (fun _ => True) v13_ r14 ∧ Below w.heap.size w w' := by
 have hu28 := Try.underlying58
 have HR0 := Aside0.mk hr0
 have HC0 := Aside0.mk hc0
 clear hr0 hc0
 have HB := Aside0.mk (Below.refl w.heap.size w)
 unfold lychref1_Eth.f at h
 by_cases c1 : (l0.length : Int) > 1600
 ·rw [if_pos c1] at h
  simp only [Option.some.injEq, Prod.mk.injEq] at h
  obtain ⟨rfl, rfl, rfl, rfl, rfl, rfl, rfl, rfl, rfl, rfl, rfl, rfl, rfl, rfl, rfl⟩ := h
  have c1b : decide (1600 < (l0.length : Int)) = true := decide_eq_true c1
  clear c1
  go_enter Try.func29, Try.ntmps29
  go_upto_region 2 with (first | ((with_reducible refine gate_dst (N := 2) rfl ?_); refine box_event ?hg (N := 2) ?hd (cs := #[.int .u8 0, .int .u8 0, .int .u8 0, .int .u8 0, .int .u8 0, .int .u8 0, .int .u8 0, .int .u8 0, .int .u8 0, .int .u8 0, .int .u8 0, .int .u8 0, .int .u16 0, .slice none 0 0]) (t := 58) ?hr ?_; (case hd => rfl); (case hg => rfl); (case hr => first | (go_simp; done) | (go_simp; rfl)); intro gp hg w1 hbox hb; have n0_ := Aside0.mk (below_step (by repeat (first | (with_reducible first | exact HB.out | apply below_alloc | apply pw_below_drewN | apply below_drew1) | exact HB.out)) hb); have HP := Aside0.mk hbox; have GP := Aside0.mk ((by rw [hg]; exact (below_size (by repeat (first | (with_reducible first | exact HB.out | apply below_alloc | apply pw_below_drewN | apply below_drew1) | exact HB.out)))) : w.heap.size ≤ gp); clear HB; have HB := n0_; clear n0_ hb hbox hg))
  have hs0 : w1.cell? ⟨gp, 0, none⟩ = some (.int .u8 0) := (blk_cell HP.out 0).trans rfl
  have hfs0 := blk_frozen HP.out 0
  have hs1 : w1.cell? ⟨gp, 1, none⟩ = some (.int .u8 0) := (blk_cell HP.out 1).trans rfl
  have hfs1 := blk_frozen HP.out 1
  have hs2 : w1.cell? ⟨gp, 2, none⟩ = some (.int .u8 0) := (blk_cell HP.out 2).trans rfl
  have hfs2 := blk_frozen HP.out 2
  have hs3 : w1.cell? ⟨gp, 3, none⟩ = some (.int .u8 0) := (blk_cell HP.out 3).trans rfl
  have hfs3 := blk_frozen HP.out 3
  have hs4 : w1.cell? ⟨gp, 4, none⟩ = some (.int .u8 0) := (blk_cell HP.out 4).trans rfl
  have hfs4 := blk_frozen HP.out 4
  have hs5 : w1.cell? ⟨gp, 5, none⟩ = some (.int .u8 0) := (blk_cell HP.out 5).trans rfl
  have hfs5 := blk_frozen HP.out 5
  have hs6 : w1.cell? ⟨gp, 6, none⟩ = some (.int .u8 0) := (blk_cell HP.out 6).trans rfl
  have hfs6 := blk_frozen HP.out 6
  have hs7 : w1.cell? ⟨gp, 7, none⟩ = some (.int .u8 0) := (blk_cell HP.out 7).trans rfl
  have hfs7 := blk_frozen HP.out 7
  have hs8 : w1.cell? ⟨gp, 8, none⟩ = some (.int .u8 0) := (blk_cell HP.out 8).trans rfl
  have hfs8 := blk_frozen HP.out 8
  have hs9 : w1.cell? ⟨gp, 9, none⟩ = some (.int .u8 0) := (blk_cell HP.out 9).trans rfl
  have hfs9 := blk_frozen HP.out 9
  have hs10 : w1.cell? ⟨gp, 10, none⟩ = some (.int .u8 0) := (blk_cell HP.out 10).trans rfl
  have hfs10 := blk_frozen HP.out 10
  have hs11 : w1.cell? ⟨gp, 11, none⟩ = some (.int .u8 0) := (blk_cell HP.out 11).trans rfl
  have hfs11 := blk_frozen HP.out 11
  have hs12 : w1.cell? ⟨gp, 12, none⟩ = some (.int .u16 0) := (blk_cell HP.out 12).trans rfl
  have hfs12 := blk_frozen HP.out 12
  have hs13 : w1.cell? ⟨gp, 13, none⟩ = some (.slice none 0 0) := (blk_cell HP.out 13).trans rfl
  have hfs13 := blk_frozen HP.out 13
  go_wp2
  (try simp only [Exit.inBlock, Exit.then])
  refine bodyPost_ret (results_ct rfl _ _ gp 58 #[.int .u8 0, .int .u8 0, .int .u8 0, .int .u8 0, .int .u8 0, .int .u8 0, .int .u8 0, .int .u8 0, .int .u8 0, .int .u8 0, .int .u8 0, .int .u8 0, .int .u16 0, .slice none 0 0] (0, 0) _ rfl (blk_put (cs' := #[.int .u8 0, .int .u8 0, .int .u8 0, .int .u8 0, .int .u8 0, .int .u8 0, .int .u8 0, .int .u8 0, .int .u8 0, .int .u8 0, .int .u8 0, .int .u8 0, .int .u16 0, .slice none 0 0]) (blk_put (cs' := #[.int .u8 0, .int .u8 0, .int .u8 0, .int .u8 0, .int .u8 0, .int .u8 0, .int .u8 0, .int .u8 0, .int .u8 0, .int .u8 0, .int .u8 0, .int .u8 0, .int .u16 0, .slice none 0 0]) (blk_put (cs' := #[.int .u8 0, .int .u8 0, .int .u8 0, .int .u8 0, .int .u8 0, .int .u8 0, .int .u8 0, .int .u8 0, .int .u8 0, .int .u8 0, .int .u8 0, .int .u8 0, .int .u16 0, .slice none 0 0]) (blk_put (cs' := #[.int .u8 0, .int .u8 0, .int .u8 0, .int .u8 0, .int .u8 0, .int .u8 0, .int .u8 0, .int .u8 0, .int .u8 0, .int .u8 0, .int .u8 0, .int .u8 0, .int .u16 0, .slice none 0 0]) (blk_put (cs' := #[.int .u8 0, .int .u8 0, .int .u8 0, .int .u8 0, .int .u8 0, .int .u8 0, .int .u8 0, .int .u8 0, .int .u8 0, .int .u8 0, .int .u8 0, .int .u8 0, .int .u16 0, .slice none 0 0]) (blk_put (cs' := #[.int .u8 0, .int .u8 0, .int .u8 0, .int .u8 0, .int .u8 0, .int .u8 0, .int .u8 0, .int .u8 0, .int .u8 0, .int .u8 0, .int .u8 0, .int .u8 0, .int .u16 0, .slice none 0 0]) (blk_put (cs' := #[.int .u8 0, .int .u8 0, .int .u8 0, .int .u8 0, .int .u8 0, .int .u8 0, .int .u8 0, .int .u8 0, .int .u8 0, .int .u8 0, .int .u8 0, .int .u8 0, .int .u16 0, .slice none 0 0]) (blk_put (cs' := #[.int .u8 0, .int .u8 0, .int .u8 0, .int .u8 0, .int .u8 0, .int .u8 0, .int .u8 0, .int .u8 0, .int .u8 0, .int .u8 0, .int .u8 0, .int .u8 0, .int .u16 0, .slice none 0 0]) (blk_put (cs' := #[.int .u8 0, .int .u8 0, .int .u8 0, .int .u8 0, .int .u8 0, .int .u8 0, .int .u8 0, .int .u8 0, .int .u8 0, .int .u8 0, .int .u8 0, .int .u8 0, .int .u16 0, .slice none 0 0]) (blk_put (cs' := #[.int .u8 0, .int .u8 0, .int .u8 0, .int .u8 0, .int .u8 0, .int .u8 0, .int .u8 0, .int .u8 0, .int .u8 0, .int .u8 0, .int .u8 0, .int .u8 0, .int .u16 0, .slice none 0 0]) (blk_put (cs' := #[.int .u8 0, .int .u8 0, .int .u8 0, .int .u8 0, .int .u8 0, .int .u8 0, .int .u8 0, .int .u8 0, .int .u8 0, .int .u8 0, .int .u8 0, .int .u8 0, .int .u16 0, .slice none 0 0]) (blk_put (cs' := #[.int .u8 0, .int .u8 0, .int .u8 0, .int .u8 0, .int .u8 0, .int .u8 0, .int .u8 0, .int .u8 0, .int .u8 0, .int .u8 0, .int .u8 0, .int .u8 0, .int .u16 0, .slice none 0 0]) (blk_put (cs' := #[.int .u8 0, .int .u8 0, .int .u8 0, .int .u8 0, .int .u8 0, .int .u8 0, .int .u8 0, .int .u8 0, .int .u8 0, .int .u8 0, .int .u8 0, .int .u8 0, .int .u16 0, .slice none 0 0]) (blk_put (cs' := #[.int .u8 0, .int .u8 0, .int .u8 0, .int .u8 0, .int .u8 0, .int .u8 0, .int .u8 0, .int .u8 0, .int .u8 0, .int .u8 0, .int .u8 0, .int .u8 0, .int .u16 0, .slice none 0 0]) HP.out 0 (.int .u8 0) rfl) 1 (.int .u8 0) rfl) 2 (.int .u8 0) rfl) 3 (.int .u8 0) rfl) 4 (.int .u8 0) rfl) 5 (.int .u8 0) rfl) 6 (.int .u8 0) rfl) 7 (.int .u8 0) rfl) 8 (.int .u8 0) rfl) 9 (.int .u8 0) rfl) 10 (.int .u8 0) rfl) 11 (.int .u8 0) rfl) 12 (.int .u16 0) rfl) 13 (.slice none 0 0) rfl) Try.underlying58 rfl (by kernel_rfl)) rfl ?_
  exact ⟨_, rfl, Kd.R_nil _ _ _ _ _, (Below.setCell (p := ⟨gp, 13, none⟩) (Below.setCell (p := ⟨gp, 12, none⟩) (Below.setCell (p := ⟨gp, 11, none⟩) (Below.setCell (p := ⟨gp, 10, none⟩) (Below.setCell (p := ⟨gp, 9, none⟩) (Below.setCell (p := ⟨gp, 8, none⟩) (Below.setCell (p := ⟨gp, 7, none⟩) (Below.setCell (p := ⟨gp, 6, none⟩) (Below.setCell (p := ⟨gp, 5, none⟩) (Below.setCell (p := ⟨gp, 4, none⟩) (Below.setCell (p := ⟨gp, 3, none⟩) (Below.setCell (p := ⟨gp, 2, none⟩) (Below.setCell (p := ⟨gp, 1, none⟩) (Below.setCell (p := ⟨gp, 0, none⟩) HB.out GP.out (.int .u8 0)) GP.out (.int .u8 0)) GP.out (.int .u8 0)) GP.out (.int .u8 0)) GP.out (.int .u8 0)) GP.out (.int .u8 0)) GP.out (.int .u8 0)) GP.out (.int .u8 0)) GP.out (.int .u8 0)) GP.out (.int .u8 0)) GP.out (.int .u8 0)) GP.out (.int .u8 0)) GP.out (.int .u16 0)) GP.out (.slice none 0 0))⟩
 ·rw [if_neg c1] at h
  have c1b : decide (1600 < (l0.length : Int)) = false := decide_eq_false c1
  by_cases c2 : (l0.length : Int) < 14
  ·rw [if_pos c2] at h
   simp only [Option.some.injEq, Prod.mk.injEq] at h
   obtain ⟨rfl, rfl, rfl, rfl, rfl, rfl, rfl, rfl, rfl, rfl, rfl, rfl, rfl, rfl, rfl⟩ := h
   have c2b : decide ((l0.length : Int) < 14) = true := decide_eq_true c2
   clear c1 c2
   go_enter Try.func29, Try.ntmps29
   go_upto_region 4 with (first | ((with_reducible refine gate_dst (N := 2) rfl ?_); refine box_event ?hg (N := 2) ?hd (cs := #[.int .u8 0, .int .u8 0, .int .u8 0, .int .u8 0, .int .u8 0, .int .u8 0, .int .u8 0, .int .u8 0, .int .u8 0, .int .u8 0, .int .u8 0, .int .u8 0, .int .u16 0, .slice none 0 0]) (t := 58) ?hr ?_; (case hd => rfl); (case hg => rfl); (case hr => first | (go_simp; done) | (go_simp; rfl)); intro gp hg w1 hbox hb; have n0_ := Aside0.mk (below_step (by repeat (first | (with_reducible first | exact HB.out | apply below_alloc | apply pw_below_drewN | apply below_drew1) | exact HB.out)) hb); have HP := Aside0.mk hbox; have GP := Aside0.mk ((by rw [hg]; exact (below_size (by repeat (first | (with_reducible first | exact HB.out | apply below_alloc | apply pw_below_drewN | apply below_drew1) | exact HB.out)))) : w.heap.size ≤ gp); clear HB; have HB := n0_; clear n0_ hb hbox hg))
   have hs0 : w1.cell? ⟨gp, 0, none⟩ = some (.int .u8 0) := (blk_cell HP.out 0).trans rfl
   have hfs0 := blk_frozen HP.out 0
   have hs1 : w1.cell? ⟨gp, 1, none⟩ = some (.int .u8 0) := (blk_cell HP.out 1).trans rfl
   have hfs1 := blk_frozen HP.out 1
   have hs2 : w1.cell? ⟨gp, 2, none⟩ = some (.int .u8 0) := (blk_cell HP.out 2).trans rfl
   have hfs2 := blk_frozen HP.out 2
   have hs3 : w1.cell? ⟨gp, 3, none⟩ = some (.int .u8 0) := (blk_cell HP.out 3).trans rfl
   have hfs3 := blk_frozen HP.out 3
   have hs4 : w1.cell? ⟨gp, 4, none⟩ = some (.int .u8 0) := (blk_cell HP.out 4).trans rfl
   have hfs4 := blk_frozen HP.out 4
   have hs5 : w1.cell? ⟨gp, 5, none⟩ = some (.int .u8 0) := (blk_cell HP.out 5).trans rfl
   have hfs5 := blk_frozen HP.out 5
   have hs6 : w1.cell? ⟨gp, 6, none⟩ = some (.int .u8 0) := (blk_cell HP.out 6).trans rfl
   have hfs6 := blk_frozen HP.out 6
   have hs7 : w1.cell? ⟨gp, 7, none⟩ = some (.int .u8 0) := (blk_cell HP.out 7).trans rfl
   have hfs7 := blk_frozen HP.out 7
   have hs8 : w1.cell? ⟨gp, 8, none⟩ = some (.int .u8 0) := (blk_cell HP.out 8).trans rfl
   have hfs8 := blk_frozen HP.out 8
   have hs9 : w1.cell? ⟨gp, 9, none⟩ = some (.int .u8 0) := (blk_cell HP.out 9).trans rfl
   have hfs9 := blk_frozen HP.out 9
   have hs10 : w1.cell? ⟨gp, 10, none⟩ = some (.int .u8 0) := (blk_cell HP.out 10).trans rfl
   have hfs10 := blk_frozen HP.out 10
   have hs11 : w1.cell? ⟨gp, 11, none⟩ = some (.int .u8 0) := (blk_cell HP.out 11).trans rfl
   have hfs11 := blk_frozen HP.out 11
   have hs12 : w1.cell? ⟨gp, 12, none⟩ = some (.int .u16 0) := (blk_cell HP.out 12).trans rfl
   have hfs12 := blk_frozen HP.out 12
   have hs13 : w1.cell? ⟨gp, 13, none⟩ = some (.slice none 0 0) := (blk_cell HP.out 13).trans rfl
   have hfs13 := blk_frozen HP.out 13
   go_wp2
   (try simp only [Exit.inBlock, Exit.then])
   refine bodyPost_ret (results_ct rfl _ _ gp 58 #[.int .u8 0, .int .u8 0, .int .u8 0, .int .u8 0, .int .u8 0, .int .u8 0, .int .u8 0, .int .u8 0, .int .u8 0, .int .u8 0, .int .u8 0, .int .u8 0, .int .u16 0, .slice none 0 0] (0, 0) _ rfl (blk_put (cs' := #[.int .u8 0, .int .u8 0, .int .u8 0, .int .u8 0, .int .u8 0, .int .u8 0, .int .u8 0, .int .u8 0, .int .u8 0, .int .u8 0, .int .u8 0, .int .u8 0, .int .u16 0, .slice none 0 0]) (blk_put (cs' := #[.int .u8 0, .int .u8 0, .int .u8 0, .int .u8 0, .int .u8 0, .int .u8 0, .int .u8 0, .int .u8 0, .int .u8 0, .int .u8 0, .int .u8 0, .int .u8 0, .int .u16 0, .slice none 0 0]) (blk_put (cs' := #[.int .u8 0, .int .u8 0, .int .u8 0, .int .u8 0, .int .u8 0, .int .u8 0, .int .u8 0, .int .u8 0, .int .u8 0, .int .u8 0, .int .u8 0, .int .u8 0, .int .u16 0, .slice none 0 0]) (blk_put (cs' := #[.int .u8 0, .int .u8 0, .int .u8 0, .int .u8 0, .int .u8 0, .int .u8 0, .int .u8 0, .int .u8 0, .int .u8 0, .int .u8 0, .int .u8 0, .int .u8 0, .int .u16 0, .slice none 0 0]) (blk_put (cs' := #[.int .u8 0, .int .u8 0, .int .u8 0, .int .u8 0, .int .u8 0, .int .u8 0, .int .u8 0, .int .u8 0, .int .u8 0, .int .u8 0, .int .u8 0, .int .u8 0, .int .u16 0, .slice none 0 0]) (blk_put (cs' := #[.int .u8 0, .int .u8 0, .int .u8 0, .int .u8 0, .int .u8 0, .int .u8 0, .int .u8 0, .int .u8 0, .int .u8 0, .int .u8 0, .int .u8 0, .int .u8 0, .int .u16 0, .slice none 0 0]) (blk_put (cs' := #[.int .u8 0, .int .u8 0, .int .u8 0, .int .u8 0, .int .u8 0, .int .u8 0, .int .u8 0, .int .u8 0, .int .u8 0, .int .u8 0, .int .u8 0, .int .u8 0, .int .u16 0, .slice none 0 0]) (blk_put (cs' := #[.int .u8 0, .int .u8 0, .int .u8 0, .int .u8 0, .int .u8 0, .int .u8 0, .int .u8 0, .int .u8 0, .int .u8 0, .int .u8 0, .int .u8 0, .int .u8 0, .int .u16 0, .slice none 0 0]) (blk_put (cs' := #[.int .u8 0, .int .u8 0, .int .u8 0, .int .u8 0, .int .u8 0, .int .u8 0, .int .u8 0, .int .u8 0, .int .u8 0, .int .u8 0, .int .u8 0, .int .u8 0, .int .u16 0, .slice none 0 0]) (blk_put (cs' := #[.int .u8 0, .int .u8 0, .int .u8 0, .int .u8 0, .int .u8 0, .int .u8 0, .int .u8 0, .int .u8 0, .int .u8 0, .int .u8 0, .int .u8 0, .int .u8 0, .int .u16 0, .slice none 0 0]) (blk_put (cs' := #[.int .u8 0, .int .u8 0, .int .u8 0, .int .u8 0, .int .u8 0, .int .u8 0, .int .u8 0, .int .u8 0, .int .u8 0, .int .u8 0, .int .u8 0, .int .u8 0, .int .u16 0, .slice none 0 0]) (blk_put (cs' := #[.int .u8 0, .int .u8 0, .int .u8 0, .int .u8 0, .int .u8 0, .int .u8 0, .int .u8 0, .int .u8 0, .int .u8 0, .int .u8 0, .int .u8 0, .int .u8 0, .int .u16 0, .slice none 0 0]) (blk_put (cs' := #[.int .u8 0, .int .u8 0, .int .u8 0, .int .u8 0, .int .u8 0, .int .u8 0, .int .u8 0, .int .u8 0, .int .u8 0, .int .u8 0, .int .u8 0, .int .u8 0, .int .u16 0, .slice none 0 0]) (blk_put (cs' := #[.int .u8 0, .int .u8 0, .int .u8 0, .int .u8 0, .int .u8 0, .int .u8 0, .int .u8 0, .int .u8 0, .int .u8 0, .int .u8 0, .int .u8 0, .int .u8 0, .int .u16 0, .slice none 0 0]) HP.out 0 (.int .u8 0) rfl) 1 (.int .u8 0) rfl) 2 (.int .u8 0) rfl) 3 (.int .u8 0) rfl) 4 (.int .u8 0) rfl) 5 (.int .u8 0) rfl) 6 (.int .u8 0) rfl) 7 (.int .u8 0) rfl) 8 (.int .u8 0) rfl) 9 (.int .u8 0) rfl) 10 (.int .u8 0) rfl) 11 (.int .u8 0) rfl) 12 (.int .u16 0) rfl) 13 (.slice none 0 0) rfl) Try.underlying58 rfl (by kernel_rfl)) rfl ?_
   exact ⟨_, rfl, Kd.R_nil _ _ _ _ _, (Below.setCell (p := ⟨gp, 13, none⟩) (Below.setCell (p := ⟨gp, 12, none⟩) (Below.setCell (p := ⟨gp, 11, none⟩) (Below.setCell (p := ⟨gp, 10, none⟩) (Below.setCell (p := ⟨gp, 9, none⟩) (Below.setCell (p := ⟨gp, 8, none⟩) (Below.setCell (p := ⟨gp, 7, none⟩) (Below.setCell (p := ⟨gp, 6, none⟩) (Below.setCell (p := ⟨gp, 5, none⟩) (Below.setCell (p := ⟨gp, 4, none⟩) (Below.setCell (p := ⟨gp, 3, none⟩) (Below.setCell (p := ⟨gp, 2, none⟩) (Below.setCell (p := ⟨gp, 1, none⟩) (Below.setCell (p := ⟨gp, 0, none⟩) HB.out GP.out (.int .u8 0)) GP.out (.int .u8 0)) GP.out (.int .u8 0)) GP.out (.int .u8 0)) GP.out (.int .u8 0)) GP.out (.int .u8 0)) GP.out (.int .u8 0)) GP.out (.int .u8 0)) GP.out (.int .u8 0)) GP.out (.int .u8 0)) GP.out (.int .u8 0)) GP.out (.int .u8 0)) GP.out (.int .u16 0)) GP.out (.slice none 0 0))⟩
  ·rw [if_neg c2] at h
   have c2b : decide ((l0.length : Int) < 14) = false := decide_eq_false c2
   obtain ⟨t, ht, h⟩ := Option.bind_eq_some_iff.mp h
   obtain ⟨b, hb, h⟩ := Option.bind_eq_some_iff.mp h
   simp only [Option.some.injEq, Prod.mk.injEq] at h
   obtain ⟨rfl, rfl, rfl, rfl, rfl, rfl, rfl, rfl, rfl, rfl, rfl, rfl, rfl, rfl, rfl⟩ := h
   have L14 := Aside0.mk (show 14 ≤ l0.length by omega)
   have A1 := Aside0.mk ht
   have A2 := Aside0.mk hb
   clear c1 c2 hb ht
   obtain ⟨ad, rfl, _⟩ := Kd.at_int HR0.out 0 (by omega) (by have := L14.out; omega)
   go_enter Try.func29, Try.ntmps29
   go_wp2_with (first | ((with_reducible refine gate_dst (N := 2) rfl ?_); refine box_event ?hg (N := 2) ?hd (cs := #[.int .u8 0, .int .u8 0, .int .u8 0, .int .u8 0, .int .u8 0, .int .u8 0, .int .u8 0, .int .u8 0, .int .u8 0, .int .u8 0, .int .u8 0, .int .u8 0, .int .u16 0, .slice none 0 0]) (t := 58) ?hr ?_; (case hd => rfl); (case hg => rfl); (case hr => first | (go_simp; done) | (go_simp; rfl)); intro gp hg w1 hbox hb; have n0_ := Aside0.mk (below_step (by repeat (first | (with_reducible first | exact HB.out | apply below_alloc | apply pw_below_drewN | apply below_drew1) | exact HB.out)) hb); have HP := Aside0.mk hbox; have GP := Aside0.mk ((by rw [hg]; exact (below_size (by repeat (first | (with_reducible first | exact HB.out | apply below_alloc | apply pw_below_drewN | apply below_drew1) | exact HB.out)))) : w.heap.size ≤ gp); clear HB; have HB := n0_; clear n0_ hb hbox hg) | ((with_reducible refine gate_dst (N := 4) rfl ?_); refine box_event ?hg (N := 4) ?hd (cs := #[.int .u8 0, .int .u8 0, .int .u8 0, .int .u8 0, .int .u8 0, .int .u8 0, .int .u8 0, .int .u8 0, .int .u8 0, .int .u8 0, .int .u8 0, .int .u8 0, .int .u16 0, .slice none 0 0]) (t := 58) ?hr ?_; (case hd => rfl); (case hg => rfl); (case hr => first | (go_simp; done) | (go_simp; rfl)); intro ge hg w2 hbox hb; have n0_ := Aside0.mk (below_step (by repeat (first | (with_reducible first | exact HB.out | apply below_alloc | apply pw_below_drewN | apply below_drew1) | exact HB.out)) hb); have GN := Aside0.mk (show gp ≠ ge by rw [hg]; exact Nat.ne_of_lt (blk_lt (by (with_reducible repeat (first | refine blk_drewN ?_ _ | refine blk_drew ?_ | refine blk_alloc ?_ _)); exact HP.out))); have n1_ := Aside0.mk (blk_below (g := gp) (o := .cells #[.int .u8 0, .int .u8 0, .int .u8 0, .int .u8 0, .int .u8 0, .int .u8 0, .int .u8 0, .int .u8 0, .int .u8 0, .int .u8 0, .int .u8 0, .int .u8 0, .int .u16 0, .slice none 0 0] 58 (0, 0)) (by (with_reducible repeat (first | refine blk_drewN ?_ _ | refine blk_drew ?_ | refine blk_alloc ?_ _)); exact HP.out) hb); have HE := Aside0.mk hbox; have GE := Aside0.mk ((by rw [hg]; exact (below_size (by repeat (first | (with_reducible first | exact HB.out | apply below_alloc | apply pw_below_drewN | apply below_drew1) | exact HB.out)))) : w.heap.size ≤ ge); clear HB HP; have HB := n0_; have HP := n1_; clear n0_ n1_ hb hbox hg))
   go_loopg [5] 6 (fun kq v5 w' => ∃ i : Nat, v5 = .int .i64 (i : Int) ∧ Aside0 (i ≤ 6) ∧ Aside0 (kq + i = 6) ∧ Aside0 (w'.heap[ge]? = some (.cells (lychref1_Eth.cs l0 i) 58 (0, 0))) ∧ Aside0 (w'.heap[gp]? = some (.cells #[.int .u8 0, .int .u8 0, .int .u8 0, .int .u8 0, .int .u8 0, .int .u8 0, .int .u8 0, .int .u8 0, .int .u8 0, .int .u8 0, .int .u8 0, .int .u8 0, .int .u16 0, .slice none 0 0] 58 (0, 0))) ∧ Aside0 (Below w.heap.size w w'))
   case atStart => exact ⟨0, rfl, ⟨by omega⟩, ⟨rfl⟩, ⟨HE.out⟩, ⟨HP.out⟩, ⟨HB.out⟩⟩
   case round =>
    clear HE HP HB
    obtain ⟨i, rfl, Hi, Hk, HE, HP, HB⟩ := hrel
    by_cases c6 : i < 6
    ·have c6b : decide ((i : Int) < 6) = true := decide_eq_true (by omega)
     have H6 := Aside0.mk c6
     clear c6
     go_upto_region 9 with (fail)
     have hi1 : w.cell? (ad.add i) = some (.int .u8 (rd l0 (i : Int))) := by
      obtain ⟨ad2, e, hx⟩ := Kd.at_int HR0.out (i : Int) (by omega) (by have := L14.out; have := H6.out; omega)
      cases e
      rw [Int.toNat_natCast] at hx
      exact hx
     have hi2 : w.cell? (ad.add (6 + i)) = some (.int .u8 (rd l0 (6 + (i : Int)))) := by
      obtain ⟨ad2, e, hx⟩ := Kd.at_int HR0.out (6 + (i : Int)) (by omega) (by have := L14.out; have := H6.out; omega)
      cases e
      rw [show (6 + (i : Int)).toNat = 6 + i from by omega] at hx
      exact hx
     have HI1 := Aside0.mk hi1
     have HI2 := Aside0.mk hi2
     clear hi1 hi2
     have q0 : (0 ≤ (i : Int)) = True := eq_true (by omega)
     have q1 : ((i : Int) < (l0.length : Int)) = True := eq_true (by have := L14.out; have := H6.out; omega)
     have q2 : (i < l0.length) = True := eq_true (by have := L14.out; have := H6.out; omega)
     have q3 : ((i : Int) < 6) = True := eq_true (by have := H6.out; omega)
     have q4 : (i < 6) = True := eq_true H6.out
     have w6 : wrap64 (6 + (i : Int)) = 6 + (i : Int) := by unfold wrap64; have := H6.out; omega
     have w6i : IntKind.i64.wrap (6 + (i : Int)) = 6 + (i : Int) := (i64_w _).trans w6
     have q5 : (0 ≤ 6 + (i : Int)) = True := eq_true (by omega)
     have q6 : (6 + (i : Int) < (l0.length : Int)) = True := eq_true (by have := L14.out; have := H6.out; omega)
     have n6 : (6 + (i : Int)).toNat = 6 + i := by omega
     refine start_ (n := 17) (S := fun w' => w'.cell? (ad.add i) = some (.int .u8 (rd l0 (i : Int))) ∧ w'.cell? (ad.add (6 + i)) = some (.int .u8 (rd l0 (6 + (i : Int))))) (ds := []) #[false, false, false, false, false, false, false, false, false, false, false, false, false, false, false, false, false] (by kernel_rfl) rfl rfl ⟨(HB.out.cell (World.block_lt_of_cell? w _ HI1.out)).trans HI1.out, (HB.out.cell (World.block_lt_of_cell? w _ HI2.out)).trans HI2.out⟩ (fun hHeld => ?_)
     refine with_tabW lychref1_Eth.tab9 lychref1_Eth.bits9 (fun HT_ HW_ => ?_)
     refine pure_ (i := 0) (N := some 18) (v := ?_) (a' := ?_) #[true, false, false, false, false, false, false, false, false, false, false, false, false, false, false, false, false] rfl rfl (any_of HT_.out (by kernel_rfl)) (fun _ _ _ h => h) (Or.inl ⟨by rfl, ?_⟩) ?_ ?_
     rotate_left
     ·intro w'
      go_simp
      with_reducible rfl
     rotate_left
     ·simp only [Act.put, List.setIfInBounds_toArray, List.set_cons_zero, List.set_cons_succ, i64_w, i32_w]
      rfl
     refine pure_ (i := 1) (N := some 19) (v := ?_) (a' := ?_) #[true, true, false, false, false, false, false, false, false, false, false, false, false, false, false, false, false] rfl rfl (any_of HT_.out (by kernel_rfl)) (fun _ _ _ h => h) (Or.inl ⟨by rfl, ?_⟩) ?_ ?_
     rotate_left
     ·intro w'
      go_simp
      with_reducible rfl
     rotate_left
     ·simp only [Act.put, List.setIfInBounds_toArray, List.set_cons_zero, List.set_cons_succ, i64_w, i32_w]
      rfl
     refine pure_ (i := 2) (N := some 20) (v := ?_) (a' := ?_) #[true, true, true, false, false, false, false, false, false, false, false, false, false, false, false, false, false] rfl rfl (any_of HT_.out (by kernel_rfl)) (fun _ _ _ h => h) (Or.inl ⟨by rfl, ?_⟩) ?_ ?_
     rotate_left
     ·intro w'
      go_simp
      with_reducible rfl
     rotate_left
     ·simp only [Act.put, List.setIfInBounds_toArray, List.set_cons_zero, List.set_cons_succ, i64_w, i32_w]
      rfl
     refine pure_ (i := 3) (N := some 21) (v := ?_) (a' := ?_) #[true, true, true, true, false, false, false, false, false, false, false, false, false, false, false, false, false] rfl rfl (any_of HT_.out (by kernel_rfl)) (fun _ _ _ h => h) (Or.inl ⟨by rfl, ?_⟩) ?_ ?_
     rotate_left
     ·intro w'
      go_simp
      with_reducible rfl
     rotate_left
     ·simp only [Act.put, List.setIfInBounds_toArray, List.set_cons_zero, List.set_cons_succ, i64_w, i32_w]
      rfl
     refine pure_ (i := 4) (N := some 22) (v := ?_) (a' := ?_) #[true, true, true, true, true, false, false, false, false, false, false, false, false, false, false, false, false] rfl rfl (any_of HT_.out (by kernel_rfl)) (fun _ _ _ h => h) (Or.inl ⟨by rfl, ?_⟩) ?_ ?_
     rotate_left
     ·intro w'
      go_simp
      with_reducible rfl
     rotate_left
     ·simp only [Act.put, List.setIfInBounds_toArray, List.set_cons_zero, List.set_cons_succ, i64_w, i32_w]
      rfl
     refine take_ (i := 5) (N := some 23) (v := ?_) (a' := ?_) #[true, true, true, true, true, true, false, false, false, false, false, false, false, false, false, false, false] rfl rfl (take_ofW HT_.out HW_.out (by kernel_rfl)) (fun _ _ _ h => h) (Or.inl ⟨by rfl, ?_⟩) hHeld ?_ ?_
     rotate_left
     ·rintro w' ⟨s0, s1⟩
      go_simp
      with_reducible rfl
     rotate_left
     ·simp only [Act.put, List.setIfInBounds_toArray, List.set_cons_zero, List.set_cons_succ, i64_w, i32_w]
      rfl
     refine pure_ (i := 6) (N := some 24) (v := ?_) (a' := ?_) #[true, true, true, true, true, true, true, false, false, false, false, false, false, false, false, false, false] rfl rfl (any_of HT_.out (by kernel_rfl)) (fun _ _ _ h => h) (Or.inl ⟨by rfl, ?_⟩) ?_ ?_
     rotate_left
     ·intro w'
      go_simp
      with_reducible rfl
     rotate_left
     ·simp only [Act.put, List.setIfInBounds_toArray, List.set_cons_zero, List.set_cons_succ, i64_w, i32_w]
      rfl
     refine pure_ (i := 7) (N := some 25) (v := ?_) (a' := ?_) #[true, true, true, true, true, true, true, true, false, false, false, false, false, false, false, false, false] rfl rfl (any_of HT_.out (by kernel_rfl)) (fun _ _ _ h => h) (Or.inl ⟨by rfl, ?_⟩) ?_ ?_
     rotate_left
     ·intro w'
      go_simp
      with_reducible rfl
     rotate_left
     ·simp only [Act.put, List.setIfInBounds_toArray, List.set_cons_zero, List.set_cons_succ, i64_w, i32_w]
      rfl
     refine pure_ (i := 8) (N := some 26) (v := ?_) (a' := ?_) #[true, true, true, true, true, true, true, true, true, false, false, false, false, false, false, false, false] rfl rfl (any_of HT_.out (by kernel_rfl)) (fun _ _ _ h => h) (Or.inl ⟨by rfl, ?_⟩) ?_ ?_
     rotate_left
     ·intro w'
      go_simp
      with_reducible rfl
     rotate_left
     ·simp only [Act.put, List.setIfInBounds_toArray, List.set_cons_zero, List.set_cons_succ, i64_w, i32_w]
      rfl
     refine pure_ (i := 9) (N := some 27) (v := ?_) (a' := ?_) #[true, true, true, true, true, true, true, true, true, true, false, false, false, false, false, false, false] rfl rfl (any_of HT_.out (by kernel_rfl)) (fun _ _ _ h => h) (Or.inl ⟨by rfl, ?_⟩) ?_ ?_
     rotate_left
     ·intro w'
      go_simp
      with_reducible rfl
     rotate_left
     ·simp only [Act.put, List.setIfInBounds_toArray, List.set_cons_zero, List.set_cons_succ, i64_w, i32_w]
      rfl
     refine take_ (i := 10) (N := some 28) (v := ?_) (a' := ?_) #[true, true, true, true, true, true, true, true, true, true, true, false, false, false, false, false, false] rfl rfl (take_ofW HT_.out HW_.out (by kernel_rfl)) (fun _ _ _ h => h) (Or.inl ⟨by rfl, ?_⟩) hHeld ?_ ?_
     rotate_left
     ·rintro w' ⟨s0, s1⟩
      go_simp
      with_reducible rfl
     rotate_left
     ·simp only [Act.put, List.setIfInBounds_toArray, List.set_cons_zero, List.set_cons_succ, i64_w, i32_w]
      rfl
     refine pure_ (i := 11) (N := some 29) (v := ?_) (a' := ?_) #[true, true, true, true, true, true, true, true, true, true, true, true, false, false, false, false, false] rfl rfl (any_of HT_.out (by kernel_rfl)) (fun _ _ _ h => h) (Or.inl ⟨by rfl, ?_⟩) ?_ ?_
     rotate_left
     ·intro w'
      go_simp
      with_reducible rfl
     rotate_left
     ·simp only [Act.put, List.setIfInBounds_toArray, List.set_cons_zero, List.set_cons_succ, i64_w, i32_w]
      rfl
     refine pure_ (i := 12) (N := some 30) (v := ?_) (a' := ?_) #[true, true, true, true, true, true, true, true, true, true, true, true, true, false, false, false, false] rfl rfl (any_of HT_.out (by kernel_rfl)) (fun _ _ _ h => h) (Or.inl ⟨by rfl, ?_⟩) ?_ ?_
     rotate_left
     ·intro w'
      go_simp
      with_reducible rfl
     rotate_left
     ·simp only [Act.put, List.setIfInBounds_toArray, List.set_cons_zero, List.set_cons_succ, i64_w, i32_w]
      rfl
     refine pure_ (i := 14) (N := some 31) (v := ?_) (a' := ?_) #[true, true, true, true, true, true, true, true, true, true, true, true, true, false, true, false, false] rfl rfl (any_of HT_.out (by kernel_rfl)) (fun _ _ _ h => h) (Or.inl ⟨by rfl, ?_⟩) ?_ ?_
     rotate_left
     ·intro w'
      go_simp
      with_reducible rfl
     rotate_left
     ·simp only [Act.put, List.setIfInBounds_toArray, List.set_cons_zero, List.set_cons_succ, i64_w, i32_w]
      rfl
     refine one_ (i := 13) (N := none) #[true, true, true, true, true, true, true, true, true, true, true, true, true, true, true, false, false] rfl rfl (one_of HT_.out (by kernel_rfl)) (by decide) (fun K hK => ?_)
     have HP1 := Aside0.mk (blk_drew HP.out)
     have HE1 := Aside0.mk (blk_drew HE.out)
     have HB1 := Aside0.mk (below_drew1 HB.out)
     have hs0 : wr.drew.cell? ⟨ge, i, none⟩ = some (.int .u8 0) := (blk_cell HE1.out i).trans (lychref1_Eth.cs_old l0 i H6.out).1
     have hfs0 := blk_frozen HE1.out i
     clear HP HE HB
     generalize wr.drew = wa at HP1 HE1 HB1 hs0 hfs0 hHeld ⊢
     refine skip_ (w1 := wa.setCell ⟨ge, i, none⟩ (.int .u8 (rd l0 (i : Int)))) (by rfl) rfl ?_ ?_
     ·go_simp
     have HLT : ad.block < w.heap.size := by have h_ := World.block_lt_of_cell? w _ HI1.out; rwa [add_block] at h_
     have HNE : ad.block ≠ ge := Nat.ne_of_lt (Nat.lt_of_lt_of_le HLT GE.out)
     have f1 := Aside0.mk (blk_set HE1.out i (.int .u8 (rd l0 (i : Int))))
     have f2 := Aside0.mk (blk_far HP1.out (p := ⟨ge, i, none⟩) GN.out (.int .u8 (rd l0 (i : Int))))
     have f3 := Aside0.mk (Below.setCell (p := ⟨ge, i, none⟩) HB1.out GE.out (.int .u8 (rd l0 (i : Int))))
     have f4 := Aside0.mk ((cell_far (W := wa) (a := ad.add i) (p := ⟨ge, i, none⟩) (by rw [add_block]; exact HNE) (.int .u8 (rd l0 (i : Int)))).trans hHeld.1)
     have f5 := Aside0.mk ((cell_far (W := wa) (a := ad.add (6 + i)) (p := ⟨ge, i, none⟩) (by rw [add_block]; exact HNE) (.int .u8 (rd l0 (i : Int)))).trans hHeld.2)
     clear hs0 hfs0 HE1 HP1 HB1 hHeld
     generalize wa.setCell ⟨ge, i, none⟩ (.int .u8 (rd l0 (i : Int))) = wb at f1 f2 f3 f4 f5 ⊢
     refine hK.out _ _ ⟨f4.out, f5.out⟩ (fun hHeld => ?_)
     clear hK K f4 f5
     refine pure_ (i := 15) (N := some 32) (v := ?_) (a' := ?_) #[true, true, true, true, true, true, true, true, true, true, true, true, true, true, true, true, false] rfl rfl (any_of HT_.out (by kernel_rfl)) (fun _ _ _ h => h) (Or.inl ⟨by rfl, ?_⟩) ?_ ?_
     rotate_left
     ·intro w'
      go_simp
      with_reducible rfl
     rotate_left
     ·simp only [Act.put, List.setIfInBounds_toArray, List.set_cons_zero, List.set_cons_succ, i64_w, i32_w]
      rfl
     refine one_ (i := 16) (N := none) #[true, true, true, true, true, true, true, true, true, true, true, true, true, true, true, true, true] rfl rfl (one_of HT_.out (by kernel_rfl)) (by decide) (fun K hK => ?_)
     have hs0 : wb.cell? ⟨ge, 6 + i, none⟩ = some (.int .u8 0) := (blk_cell f1.out (6 + i)).trans (lychref1_Eth.cs_old l0 i H6.out).2
     have hfs0 := blk_frozen f1.out (6 + i)
     refine skip_ (w1 := wb.setCell ⟨ge, 6 + i, none⟩ (.int .u8 (rd l0 (6 + (i : Int))))) (by rfl) rfl ?_ ?_
     ·go_simp
     have g1 := Aside0.mk (blk_put (cs' := lychref1_Eth.cs l0 (i + 1)) f1.out (6 + i) (.int .u8 (rd l0 (6 + (i : Int)))) (lychref1_Eth.cs_step l0 i H6.out))
     have g2 := Aside0.mk (blk_far f2.out (p := ⟨ge, 6 + i, none⟩) GN.out (.int .u8 (rd l0 (6 + (i : Int)))))
     have g3 := Aside0.mk (Below.setCell (p := ⟨ge, 6 + i, none⟩) f3.out GE.out (.int .u8 (rd l0 (6 + (i : Int)))))
     have g4 := Aside0.mk ((cell_far (W := wb) (a := ad.add i) (p := ⟨ge, 6 + i, none⟩) (by rw [add_block]; exact HNE) (.int .u8 (rd l0 (6 + (i : Int))))).trans hHeld.1)
     have g5 := Aside0.mk ((cell_far (W := wb) (a := ad.add (6 + i)) (p := ⟨ge, 6 + i, none⟩) (by rw [add_block]; exact HNE) (.int .u8 (rd l0 (6 + (i : Int))))).trans hHeld.2)
     clear hs0 hfs0 f1 f2 f3 hHeld
     generalize wb.setCell ⟨ge, 6 + i, none⟩ (.int .u8 (rd l0 (6 + (i : Int)))) = wc at g1 g2 g3 g4 g5 ⊢
     refine hK.out _ _ ⟨g4.out, g5.out⟩ (fun hHeld => ?_)
     clear hK K g4 g5
     refine done_ (done_of HT_.out (by kernel_rfl)) ?_
     clear HT_ HW_ hHeld
     have w7 : wrap64 ((i : Int) + 1) = (i : Int) + 1 := by unfold wrap64; have := H6.out; omega
     (try simp only [Exit.inBlock, Exit.then])
     go_wp2
     go_roundg (gk - 1)
     case measure => have := Hk.out; have := H6.out; omega
     case rel => exact ⟨i + 1, by first | rfl | (simp [w7]; done) | (simp only [w7]; rfl), ⟨by have := H6.out; omega⟩, ⟨by have := Hk.out; have := H6.out; omega⟩, ⟨g1.out⟩, ⟨g2.out⟩, ⟨g3.out⟩⟩
    ·have c6b : decide ((i : Int) < 6) = false := decide_eq_false (by omega)
     obtain rfl : i = 6 := by have := Hi.out; omega
     clear c6 Hi Hk
     have HE6 : Aside0 (wr.heap[ge]? = some (.cells #[.int .u8 (rd l0 0), .int .u8 (rd l0 1), .int .u8 (rd l0 2), .int .u8 (rd l0 3), .int .u8 (rd l0 4), .int .u8 (rd l0 5), .int .u8 (rd l0 6), .int .u8 (rd l0 7), .int .u8 (rd l0 8), .int .u8 (rd l0 9), .int .u8 (rd l0 10), .int .u8 (rd l0 11), .int .u16 0, .slice none 0 0] 58 (0, 0))) := ⟨HE.out⟩
     clear HE
     have HE := HE6
     clear HE6
     go_wp2_with fail
     refine (lychref1_Get16.calls (some ad) c0 l0 12 t _ (Kd.C_below HR0.out (by repeat (first | (with_reducible first | exact HB.out | apply below_alloc | apply pw_below_drewN | apply below_drew1) | exact HB.out))) HC0.out A1.out).mono ?_
     rintro e w3 ⟨rfl, ⟨nd, rfl⟩⟩
     (try dsimp only)
     go_wp2_with fail
     refine (lychref1_cut.calls (some ad) c0 l0 14 (l0.length : Int) b _ (Kd.C_below HR0.out (by repeat (first | (with_reducible first | exact HB.out | apply below_alloc | apply pw_below_drewN | apply below_drew1) | exact HB.out))) HC0.out A2.out).mono ?_
     rintro e w4 ⟨v, rfl, ho, hb⟩
     (try dsimp only)
     have HO := Aside0.mk (Kd.R_lower ho (below_size (by repeat (first | (with_reducible first | exact HB.out | apply below_alloc | apply pw_below_drewN | apply below_drew1) | exact HB.out))))
     have n0_ := Aside0.mk (blk_below (g := gp) (o := .cells #[.int .u8 0, .int .u8 0, .int .u8 0, .int .u8 0, .int .u8 0, .int .u8 0, .int .u8 0, .int .u8 0, .int .u8 0, .int .u8 0, .int .u8 0, .int .u8 0, .int .u16 0, .slice none 0 0] 58 (0, 0)) (by (with_reducible repeat (first | refine blk_drewN ?_ _ | refine blk_drew ?_ | refine blk_alloc ?_ _)); exact HP.out) hb)
     have n2_ := Aside0.mk (blk_below (g := ge) (o := .cells #[.int .u8 (rd l0 0), .int .u8 (rd l0 1), .int .u8 (rd l0 2), .int .u8 (rd l0 3), .int .u8 (rd l0 4), .int .u8 (rd l0 5), .int .u8 (rd l0 6), .int .u8 (rd l0 7), .int .u8 (rd l0 8), .int .u8 (rd l0 9), .int .u8 (rd l0 10), .int .u8 (rd l0 11), .int .u16 0, .slice none 0 0] 58 (0, 0)) (by (with_reducible repeat (first | refine blk_drewN ?_ _ | refine blk_drew ?_ | refine blk_alloc ?_ _)); exact HE.out) hb)
     have n1_ := Aside0.mk (below_step (by repeat (first | (with_reducible first | exact HB.out | apply below_alloc | apply pw_below_drewN | apply below_drew1) | exact HB.out)) hb)
     clear HP HB HE ho hb
     have HP := n0_
     have HB := n1_
     have HE := n2_
     clear n0_ n1_ n2_
     obtain ⟨Bo, co, eo⟩ := Kd.R_slice HO.out
     subst eo
     have hgp0 : w4.cell? ⟨gp, 0, none⟩ = some (.int .u8 0) := (blk_cell HP.out 0).trans rfl
     have hfgp0 := blk_frozen HP.out 0
     have hgp1 : w4.cell? ⟨gp, 1, none⟩ = some (.int .u8 0) := (blk_cell HP.out 1).trans rfl
     have hfgp1 := blk_frozen HP.out 1
     have hgp2 : w4.cell? ⟨gp, 2, none⟩ = some (.int .u8 0) := (blk_cell HP.out 2).trans rfl
     have hfgp2 := blk_frozen HP.out 2
     have hgp3 : w4.cell? ⟨gp, 3, none⟩ = some (.int .u8 0) := (blk_cell HP.out 3).trans rfl
     have hfgp3 := blk_frozen HP.out 3
     have hgp4 : w4.cell? ⟨gp, 4, none⟩ = some (.int .u8 0) := (blk_cell HP.out 4).trans rfl
     have hfgp4 := blk_frozen HP.out 4
     have hgp5 : w4.cell? ⟨gp, 5, none⟩ = some (.int .u8 0) := (blk_cell HP.out 5).trans rfl
     have hfgp5 := blk_frozen HP.out 5
     have hgp6 : w4.cell? ⟨gp, 6, none⟩ = some (.int .u8 0) := (blk_cell HP.out 6).trans rfl
     have hfgp6 := blk_frozen HP.out 6
     have hgp7 : w4.cell? ⟨gp, 7, none⟩ = some (.int .u8 0) := (blk_cell HP.out 7).trans rfl
     have hfgp7 := blk_frozen HP.out 7
     have hgp8 : w4.cell? ⟨gp, 8, none⟩ = some (.int .u8 0) := (blk_cell HP.out 8).trans rfl
     have hfgp8 := blk_frozen HP.out 8
     have hgp9 : w4.cell? ⟨gp, 9, none⟩ = some (.int .u8 0) := (blk_cell HP.out 9).trans rfl
     have hfgp9 := blk_frozen HP.out 9
     have hgp10 : w4.cell? ⟨gp, 10, none⟩ = some (.int .u8 0) := (blk_cell HP.out 10).trans rfl
     have hfgp10 := blk_frozen HP.out 10
     have hgp11 : w4.cell? ⟨gp, 11, none⟩ = some (.int .u8 0) := (blk_cell HP.out 11).trans rfl
     have hfgp11 := blk_frozen HP.out 11
     have hgp12 : w4.cell? ⟨gp, 12, none⟩ = some (.int .u16 0) := (blk_cell HP.out 12).trans rfl
     have hfgp12 := blk_frozen HP.out 12
     have hgp13 : w4.cell? ⟨gp, 13, none⟩ = some (.slice none 0 0) := (blk_cell HP.out 13).trans rfl
     have hfgp13 := blk_frozen HP.out 13
     have hge0 : w4.cell? ⟨ge, 0, none⟩ = some (.int .u8 (rd l0 0)) := (blk_cell HE.out 0).trans rfl
     have hfge0 := blk_frozen HE.out 0
     have hge1 : w4.cell? ⟨ge, 1, none⟩ = some (.int .u8 (rd l0 1)) := (blk_cell HE.out 1).trans rfl
     have hfge1 := blk_frozen HE.out 1
     have hge2 : w4.cell? ⟨ge, 2, none⟩ = some (.int .u8 (rd l0 2)) := (blk_cell HE.out 2).trans rfl
     have hfge2 := blk_frozen HE.out 2
     have hge3 : w4.cell? ⟨ge, 3, none⟩ = some (.int .u8 (rd l0 3)) := (blk_cell HE.out 3).trans rfl
     have hfge3 := blk_frozen HE.out 3
     have hge4 : w4.cell? ⟨ge, 4, none⟩ = some (.int .u8 (rd l0 4)) := (blk_cell HE.out 4).trans rfl
     have hfge4 := blk_frozen HE.out 4
     have hge5 : w4.cell? ⟨ge, 5, none⟩ = some (.int .u8 (rd l0 5)) := (blk_cell HE.out 5).trans rfl
     have hfge5 := blk_frozen HE.out 5
     have hge6 : w4.cell? ⟨ge, 6, none⟩ = some (.int .u8 (rd l0 6)) := (blk_cell HE.out 6).trans rfl
     have hfge6 := blk_frozen HE.out 6
     have hge7 : w4.cell? ⟨ge, 7, none⟩ = some (.int .u8 (rd l0 7)) := (blk_cell HE.out 7).trans rfl
     have hfge7 := blk_frozen HE.out 7
     have hge8 : w4.cell? ⟨ge, 8, none⟩ = some (.int .u8 (rd l0 8)) := (blk_cell HE.out 8).trans rfl
     have hfge8 := blk_frozen HE.out 8
     have hge9 : w4.cell? ⟨ge, 9, none⟩ = some (.int .u8 (rd l0 9)) := (blk_cell HE.out 9).trans rfl
     have hfge9 := blk_frozen HE.out 9
     have hge10 : w4.cell? ⟨ge, 10, none⟩ = some (.int .u8 (rd l0 10)) := (blk_cell HE.out 10).trans rfl
     have hfge10 := blk_frozen HE.out 10
     have hge11 : w4.cell? ⟨ge, 11, none⟩ = some (.int .u8 (rd l0 11)) := (blk_cell HE.out 11).trans rfl
     have hfge11 := blk_frozen HE.out 11
     have hge12 : w4.cell? ⟨ge, 12, none⟩ = some (.int .u16 0) := (blk_cell HE.out 12).trans rfl
     have hfge12 := blk_frozen HE.out 12
     have hge13 : w4.cell? ⟨ge, 13, none⟩ = some (.slice none 0 0) := (blk_cell HE.out 13).trans rfl
     have hfge13 := blk_frozen HE.out 13
     have hnge : gp ≠ ge := GN.out
     have hneg : ge ≠ gp := fun e => hnge e.symm
     go_wp2
     clear hgp0 hfgp0 hge0 hfge0 hgp1 hfgp1 hge1 hfge1 hgp2 hfgp2 hge2 hfge2 hgp3 hfgp3 hge3 hfge3 hgp4 hfgp4 hge4 hfge4 hgp5 hfgp5 hge5 hfge5 hgp6 hfgp6 hge6 hfge6 hgp7 hfgp7 hge7 hfge7 hgp8 hfgp8 hge8 hfge8 hgp9 hfgp9 hge9 hfge9 hgp10 hfgp10 hge10 hfge10 hgp11 hfgp11 hge11 hfge11 hgp12 hfgp12 hge12 hfge12 hgp13 hfgp13 hge13 hfge13
     have b0 := HP.out
     have l0_ := HB.out
     have u0 := HO.out
     have e0 := HE.out
     have e1 := blk_put (cs' := #[.int .u8 (rd l0 0), .int .u8 (rd l0 1), .int .u8 (rd l0 2), .int .u8 (rd l0 3), .int .u8 (rd l0 4), .int .u8 (rd l0 5), .int .u8 (rd l0 6), .int .u8 (rd l0 7), .int .u8 (rd l0 8), .int .u8 (rd l0 9), .int .u8 (rd l0 10), .int .u8 (rd l0 11), .int .u16 t, .slice none 0 0]) e0 12 (.int .u16 t) rfl
     have b1 := blk_far b0 (p := ⟨ge, 12, none⟩) GN.out (.int .u16 t)
     have l1_ := Below.setCell (p := ⟨ge, 12, none⟩) l0_ GE.out (.int .u16 t)
     have u1 := Kd.R_set u0 e0 (by decide) 12 (.int .u16 t)
     clear b0 l0_ u0 e0
     have b2 := blk_far b1 (p := ⟨ge, 13, none⟩) GN.out (.slice Bo b.length co)
     have l2_ := Below.setCell (p := ⟨ge, 13, none⟩) l1_ GE.out (.slice Bo b.length co)
     have u2 := Kd.R_set u1 e1 (by decide) 13 (.slice Bo b.length co)
     clear b1 l1_ u1 e1
     have b3 := blk_put (cs' := #[.int .u8 (rd l0 0), .int .u8 0, .int .u8 0, .int .u8 0, .int .u8 0, .int .u8 0, .int .u8 0, .int .u8 0, .int .u8 0, .int .u8 0, .int .u8 0, .int .u8 0, .int .u16 0, .slice none 0 0]) b2 0 (.int .u8 (rd l0 0)) rfl
     have l3_ := Below.setCell (p := ⟨gp, 0, none⟩) l2_ GP.out (.int .u8 (rd l0 0))
     have u3 := Kd.R_set u2 b2 (by decide) 0 (.int .u8 (rd l0 0))
     clear b2 l2_ u2
     have b4 := blk_put (cs' := #[.int .u8 (rd l0 0), .int .u8 (rd l0 1), .int .u8 0, .int .u8 0, .int .u8 0, .int .u8 0, .int .u8 0, .int .u8 0, .int .u8 0, .int .u8 0, .int .u8 0, .int .u8 0, .int .u16 0, .slice none 0 0]) b3 1 (.int .u8 (rd l0 1)) rfl
     have l4_ := Below.setCell (p := ⟨gp, 1, none⟩) l3_ GP.out (.int .u8 (rd l0 1))
     have u4 := Kd.R_set u3 b3 (by decide) 1 (.int .u8 (rd l0 1))
     clear b3 l3_ u3
     have b5 := blk_put (cs' := #[.int .u8 (rd l0 0), .int .u8 (rd l0 1), .int .u8 (rd l0 2), .int .u8 0, .int .u8 0, .int .u8 0, .int .u8 0, .int .u8 0, .int .u8 0, .int .u8 0, .int .u8 0, .int .u8 0, .int .u16 0, .slice none 0 0]) b4 2 (.int .u8 (rd l0 2)) rfl
     have l5_ := Below.setCell (p := ⟨gp, 2, none⟩) l4_ GP.out (.int .u8 (rd l0 2))
     have u5 := Kd.R_set u4 b4 (by decide) 2 (.int .u8 (rd l0 2))
     clear b4 l4_ u4
     have b6 := blk_put (cs' := #[.int .u8 (rd l0 0), .int .u8 (rd l0 1), .int .u8 (rd l0 2), .int .u8 (rd l0 3), .int .u8 0, .int .u8 0, .int .u8 0, .int .u8 0, .int .u8 0, .int .u8 0, .int .u8 0, .int .u8 0, .int .u16 0, .slice none 0 0]) b5 3 (.int .u8 (rd l0 3)) rfl
     have l6_ := Below.setCell (p := ⟨gp, 3, none⟩) l5_ GP.out (.int .u8 (rd l0 3))
     have u6 := Kd.R_set u5 b5 (by decide) 3 (.int .u8 (rd l0 3))
     clear b5 l5_ u5
     have b7 := blk_put (cs' := #[.int .u8 (rd l0 0), .int .u8 (rd l0 1), .int .u8 (rd l0 2), .int .u8 (rd l0 3), .int .u8 (rd l0 4), .int .u8 0, .int .u8 0, .int .u8 0, .int .u8 0, .int .u8 0, .int .u8 0, .int .u8 0, .int .u16 0, .slice none 0 0]) b6 4 (.int .u8 (rd l0 4)) rfl
     have l7_ := Below.setCell (p := ⟨gp, 4, none⟩) l6_ GP.out (.int .u8 (rd l0 4))
     have u7 := Kd.R_set u6 b6 (by decide) 4 (.int .u8 (rd l0 4))
     clear b6 l6_ u6
     have b8 := blk_put (cs' := #[.int .u8 (rd l0 0), .int .u8 (rd l0 1), .int .u8 (rd l0 2), .int .u8 (rd l0 3), .int .u8 (rd l0 4), .int .u8 (rd l0 5), .int .u8 0, .int .u8 0, .int .u8 0, .int .u8 0, .int .u8 0, .int .u8 0, .int .u16 0, .slice none 0 0]) b7 5 (.int .u8 (rd l0 5)) rfl
     have l8_ := Below.setCell (p := ⟨gp, 5, none⟩) l7_ GP.out (.int .u8 (rd l0 5))
     have u8 := Kd.R_set u7 b7 (by decide) 5 (.int .u8 (rd l0 5))
     clear b7 l7_ u7
     have b9 := blk_put (cs' := #[.int .u8 (rd l0 0), .int .u8 (rd l0 1), .int .u8 (rd l0 2), .int .u8 (rd l0 3), .int .u8 (rd l0 4), .int .u8 (rd l0 5), .int .u8 (rd l0 6), .int .u8 0, .int .u8 0, .int .u8 0, .int .u8 0, .int .u8 0, .int .u16 0, .slice none 0 0]) b8 6 (.int .u8 (rd l0 6)) rfl
     have l9_ := Below.setCell (p := ⟨gp, 6, none⟩) l8_ GP.out (.int .u8 (rd l0 6))
     have u9 := Kd.R_set u8 b8 (by decide) 6 (.int .u8 (rd l0 6))
     clear b8 l8_ u8
     have b10 := blk_put (cs' := #[.int .u8 (rd l0 0), .int .u8 (rd l0 1), .int .u8 (rd l0 2), .int .u8 (rd l0 3), .int .u8 (rd l0 4), .int .u8 (rd l0 5), .int .u8 (rd l0 6), .int .u8 (rd l0 7), .int .u8 0, .int .u8 0, .int .u8 0, .int .u8 0, .int .u16 0, .slice none 0 0]) b9 7 (.int .u8 (rd l0 7)) rfl
     have l10_ := Below.setCell (p := ⟨gp, 7, none⟩) l9_ GP.out (.int .u8 (rd l0 7))
     have u10 := Kd.R_set u9 b9 (by decide) 7 (.int .u8 (rd l0 7))
     clear b9 l9_ u9
     have b11 := blk_put (cs' := #[.int .u8 (rd l0 0), .int .u8 (rd l0 1), .int .u8 (rd l0 2), .int .u8 (rd l0 3), .int .u8 (rd l0 4), .int .u8 (rd l0 5), .int .u8 (rd l0 6), .int .u8 (rd l0 7), .int .u8 (rd l0 8), .int .u8 0, .int .u8 0, .int .u8 0, .int .u16 0, .slice none 0 0]) b10 8 (.int .u8 (rd l0 8)) rfl
     have l11_ := Below.setCell (p := ⟨gp, 8, none⟩) l10_ GP.out (.int .u8 (rd l0 8))
     have u11 := Kd.R_set u10 b10 (by decide) 8 (.int .u8 (rd l0 8))
     clear b10 l10_ u10
     have b12 := blk_put (cs' := #[.int .u8 (rd l0 0), .int .u8 (rd l0 1), .int .u8 (rd l0 2), .int .u8 (rd l0 3), .int .u8 (rd l0 4), .int .u8 (rd l0 5), .int .u8 (rd l0 6), .int .u8 (rd l0 7), .int .u8 (rd l0 8), .int .u8 (rd l0 9), .int .u8 0, .int .u8 0, .int .u16 0, .slice none 0 0]) b11 9 (.int .u8 (rd l0 9)) rfl
     have l12_ := Below.setCell (p := ⟨gp, 9, none⟩) l11_ GP.out (.int .u8 (rd l0 9))
     have u12 := Kd.R_set u11 b11 (by decide) 9 (.int .u8 (rd l0 9))
     clear b11 l11_ u11
     have b13 := blk_put (cs' := #[.int .u8 (rd l0 0), .int .u8 (rd l0 1), .int .u8 (rd l0 2), .int .u8 (rd l0 3), .int .u8 (rd l0 4), .int .u8 (rd l0 5), .int .u8 (rd l0 6), .int .u8 (rd l0 7), .int .u8 (rd l0 8), .int .u8 (rd l0 9), .int .u8 (rd l0 10), .int .u8 0, .int .u16 0, .slice none 0 0]) b12 10 (.int .u8 (rd l0 10)) rfl
     have l13_ := Below.setCell (p := ⟨gp, 10, none⟩) l12_ GP.out (.int .u8 (rd l0 10))
     have u13 := Kd.R_set u12 b12 (by decide) 10 (.int .u8 (rd l0 10))
     clear b12 l12_ u12
     have b14 := blk_put (cs' := #[.int .u8 (rd l0 0), .int .u8 (rd l0 1), .int .u8 (rd l0 2), .int .u8 (rd l0 3), .int .u8 (rd l0 4), .int .u8 (rd l0 5), .int .u8 (rd l0 6), .int .u8 (rd l0 7), .int .u8 (rd l0 8), .int .u8 (rd l0 9), .int .u8 (rd l0 10), .int .u8 (rd l0 11), .int .u16 0, .slice none 0 0]) b13 11 (.int .u8 (rd l0 11)) rfl
     have l14_ := Below.setCell (p := ⟨gp, 11, none⟩) l13_ GP.out (.int .u8 (rd l0 11))
     have u14 := Kd.R_set u13 b13 (by decide) 11 (.int .u8 (rd l0 11))
     clear b13 l13_ u13
     have b15 := blk_put (cs' := #[.int .u8 (rd l0 0), .int .u8 (rd l0 1), .int .u8 (rd l0 2), .int .u8 (rd l0 3), .int .u8 (rd l0 4), .int .u8 (rd l0 5), .int .u8 (rd l0 6), .int .u8 (rd l0 7), .int .u8 (rd l0 8), .int .u8 (rd l0 9), .int .u8 (rd l0 10), .int .u8 (rd l0 11), .int .u16 t, .slice none 0 0]) b14 12 (.int .u16 t) rfl
     have l15_ := Below.setCell (p := ⟨gp, 12, none⟩) l14_ GP.out (.int .u16 t)
     have u15 := Kd.R_set u14 b14 (by decide) 12 (.int .u16 t)
     clear b14 l14_ u14
     have b16 := blk_put (cs' := #[.int .u8 (rd l0 0), .int .u8 (rd l0 1), .int .u8 (rd l0 2), .int .u8 (rd l0 3), .int .u8 (rd l0 4), .int .u8 (rd l0 5), .int .u8 (rd l0 6), .int .u8 (rd l0 7), .int .u8 (rd l0 8), .int .u8 (rd l0 9), .int .u8 (rd l0 10), .int .u8 (rd l0 11), .int .u16 t, .slice Bo b.length co]) b15 13 (.slice Bo b.length co) rfl
     have l16_ := Below.setCell (p := ⟨gp, 13, none⟩) l15_ GP.out (.slice Bo b.length co)
     have u16 := Kd.R_set u15 b15 (by decide) 13 (.slice Bo b.length co)
     clear b15 l15_ u15
     (try simp only [Exit.inBlock, Exit.then])
     refine bodyPost_ret (results_ct rfl _ _ gp 58 #[.int .u8 (rd l0 0), .int .u8 (rd l0 1), .int .u8 (rd l0 2), .int .u8 (rd l0 3), .int .u8 (rd l0 4), .int .u8 (rd l0 5), .int .u8 (rd l0 6), .int .u8 (rd l0 7), .int .u8 (rd l0 8), .int .u8 (rd l0 9), .int .u8 (rd l0 10), .int .u8 (rd l0 11), .int .u16 t, .slice Bo b.length co] (0, 0) _ rfl b16 Try.underlying58 rfl (by kernel_rfl)) rfl ?_
     exact ⟨_, rfl, u16, l16_⟩

/-! ### lychref1_Get32: function 81 -/
def lychref1_Get32.f (l0 : List Int) (a1 : Int) : Option (Int) := (lychref1_Get16.f l0 a1).bind fun t431 => ((lychref1_Get16.f l0 (wrap64 (a1 + 2))).bind fun t432 => (some (Go.bits .or .u32 ((((t431) % 4294967296) * 65536) % 4294967296) ((t432) % 4294967296))))
end Go.Proofs.Ytkmimamminddiaa.PB

/- Plain laws on lists of bytes, 16-bit words and the Internet's checksum: no program in sight. -/
namespace Go.Proofs.Ytkmimamminddiaa.Spec
set_option linter.unusedVariables false
set_option linter.unusedSimpArgs false
open Go.RowKit

/-- bytes -/
def IsB (l : List Int) : Prop := ∀ x ∈ l, 0 ≤ x ∧ x ≤ 255
/-- words of 16 bits -/
def IsW (l : List Int) : Prop := ∀ x ∈ l, 0 ≤ x ∧ x ≤ 65535
theorem IsB.nil : IsB [] := fun _ h => by simp at h
theorem IsB.cons {a : Int} {l : List Int} (h : 0 ≤ a ∧ a ≤ 255) (hl : IsB l) : IsB (a :: l) := fun x hx => by
 rcases List.mem_cons.1 hx with rfl | hx
 ·exact h
 ·exact hl _ hx
theorem IsB.append {l m : List Int} (h : IsB l) (hm : IsB m) : IsB (l ++ m) := fun x hx => by
 rcases List.mem_append.1 hx with hx | hx
 ·exact h _ hx
 ·exact hm _ hx
theorem IsB.left {l m : List Int} (h : IsB (l ++ m)) : IsB l := fun x hx => h x (List.mem_append.2 (.inl hx))
theorem IsB.take {l : List Int} (h : IsB l) (n : Nat) : IsB (l.take n) := fun x hx => h x (List.mem_of_mem_take hx)
theorem IsB.drop {l : List Int} (h : IsB l) (n : Nat) : IsB (l.drop n) := fun x hx => h x (List.mem_of_mem_drop hx)
theorem IsB.set {l : List Int} (h : IsB l) (i : Nat) {v : Int} (hv : 0 ≤ v ∧ v ≤ 255) : IsB (l.set i v) := fun x hx => by
 rcases List.mem_or_eq_of_mem_set hx with hx | rfl
 ·exact h _ hx
 ·exact hv
theorem IsB.replicate (n : Nat) : IsB (List.replicate n 0) := fun x hx => by
 have := List.eq_of_mem_replicate hx
 omega
theorem IsB.getD {l : List Int} (h : IsB l) (i : Nat) : 0 ≤ l.getD i 0 ∧ l.getD i 0 ≤ 255 := by
 rw [List.getD_eq_getElem?_getD]
 rcases Nat.lt_or_ge i l.length with hi | hi
 ·rw [List.getElem?_eq_getElem hi]
  exact h _ (List.getElem_mem hi)
 ·rw [List.getElem?_eq_none hi]
  simp

def words : List Int → List Int
 | [] => []
 | [a] => [a * 256]
 | a :: b :: t => (a * 256 + b) :: words t
theorem words_isW : ∀ l : List Int, IsB l → IsW (words l)
 | [], _ => fun _ h => by simp [words] at h
 | [a], h => fun x hx => by
  have := h a (by simp)
  simp [words] at hx
  omega
 | a :: b :: t, h => fun x hx => by
  have ha := h a (by simp)
  have hb := h b (by simp)
  have ht : IsB t := fun y hy => h y (by simp [hy])
  rcases List.mem_cons.1 (show x ∈ (a * 256 + b) :: words t from hx) with rfl | hx
  ·omega
  ·exact words_isW t ht _ hx
theorem words_length : ∀ l : List Int, (words l).length = (l.length + 1) / 2
 | [] => rfl
 | [_] => by simp [words]
 | a :: b :: t => by
  have := words_length t
  simp only [words, List.length_cons, this]
  omega
/-- word number j -/
theorem words_get : ∀ (l : List Int) (j : Nat), 2 * j < l.length → (words l)[j]? = some (l.getD (2 * j) 0 * 256 + l.getD (2 * j + 1) 0)
 | [], j, h => by simp at h
 | [a], j, h => by
  have : j = 0 := by simp at h; omega
  subst this
  simp [words]
 | a :: b :: t, 0, _ => by simp [words]
 | a :: b :: t, j + 1, h => by
  have := words_get t j (by simp only [List.length_cons] at h; omega)
  simp only [words, List.getElem?_cons_succ, this]
  rw [show 2 * (j + 1) = 2 * j + 1 + 1 from by omega]
  simp

/-- one's complement addition in 32 bits -/
def oadd (s x : Int) : Int := if s + x > 4294967295 then s + x - 4294967295 else s + x
def addw (s : Int) (ws : List Int) : Int := ws.foldl oadd s
def norm (n : Int) : Int := if n = 0 then 0 else (n - 1) % 65535 + 1
def isum : List Int → Int
 | [] => 0
 | x :: t => x + isum t
theorem isum_nonneg : ∀ l : List Int, IsW l → 0 ≤ isum l
 | [], _ => by simp [isum]
 | x :: t, h => by
  have := isum_nonneg t (fun y hy => h y (by simp [hy]))
  have := h x (by simp)
  simp only [isum]; omega
theorem norm_range (n : Int) (h : 0 ≤ n) : 0 ≤ norm n ∧ norm n ≤ 65535 := by unfold norm; split <;> omega
theorem norm_small {n : Int} (h0 : 0 ≤ n) (h : n ≤ 65535) : norm n = n := by unfold norm; split <;> omega
theorem oadd_range {s x : Int} (h0 : 0 ≤ s) (h1 : s ≤ 4294967295) (hx : 0 ≤ x ∧ x ≤ 65535) : 0 ≤ oadd s x ∧ oadd s x ≤ 4294967295 := by
 unfold oadd; split <;> omega
theorem oadd_norm {s x r : Int} (h0 : 0 ≤ s) (h1 : s ≤ 4294967295) (hx : 0 ≤ x ∧ x ≤ 65535) (hr : 0 ≤ r) : norm (oadd s x + r) = norm (s + x + r) := by
 unfold oadd norm
 split
 ·rw [if_neg (by omega), if_neg (by omega)]; omega
 ·rfl
theorem addw_range : ∀ (ws : List Int) (s : Int), 0 ≤ s → s ≤ 4294967295 → IsW ws → 0 ≤ addw s ws ∧ addw s ws ≤ 4294967295
 | [], s, h0, h1, _ => ⟨h0, h1⟩
 | x :: t, s, h0, h1, hw => by
  have hx := oadd_range h0 h1 (hw x (by simp))
  exact addw_range t (oadd s x) hx.1 hx.2 (fun y hy => hw y (by simp [hy]))
theorem addw_norm : ∀ (ws : List Int) (s r : Int), 0 ≤ s → s ≤ 4294967295 → IsW ws → 0 ≤ r → norm (addw s ws + r) = norm (s + isum ws + r)
 | [], s, r, h0, h1, _, hr => by simp [addw, isum]
 | x :: t, s, r, h0, h1, hw, hr => by
  have hx := oadd_range h0 h1 (hw x (by simp))
  have ht : IsW t := fun y hy => hw y (by simp [hy])
  have e := addw_norm t (oadd s x) r hx.1 hx.2 ht hr
  have hi := isum_nonneg t ht
  have e2 := oadd_norm (r := isum t + r) h0 h1 (hw x (by simp)) (by omega)
  show norm (addw (oadd s x) t + r) = norm (s + (x + isum t) + r)
  rw [e, show oadd s x + isum t + r = oadd s x + (isum t + r) from by omega, e2]
  congr 1; omega
/-- the folded sum of words, from a start -/
theorem norm_addw (ws : List Int) (s : Int) (h0 : 0 ≤ s) (h1 : s ≤ 4294967295) (hw : IsW ws) : norm (addw s ws) = norm (s + isum ws) := by
 have := addw_norm ws s 0 h0 h1 hw (by omega)
 simpa using this
/-- the checksum of bytes -/
def ck (l : List Int) : Int := 65535 - norm (isum (words l))
theorem ck_range (l : List Int) (h : IsB l) : 0 ≤ ck l ∧ ck l ≤ 65535 := by
 have := norm_range _ (isum_nonneg _ (words_isW l h))
 unfold ck; omega

/-! ### bits -/
theorem wraps_u16 (n : Int) (h₀ : 0 ≤ n) (h₁ : n < 2 ^ 16) : IntKind.u16.wrap n = n := by rw [IntKind.wrap_u16]; omega
theorem wraps_u32 (n : Int) (h₀ : 0 ≤ n) (h₁ : n < 2 ^ 32) : IntKind.u32.wrap n = n := by rw [IntKind.wrap_u32]; omega
theorem u16w {n : Int} (h₀ : 0 ≤ n) (h₁ : n ≤ 65535) : IntKind.u16.wrap n = n := wraps_u16 n h₀ (by omega)
theorem u64w {n : Int} (h₀ : 0 ≤ n) (h₁ : n ≤ 18446744073709551615) : IntKind.u64.wrap n = n := by rw [IntKind.wrap_u64]; omega
theorem and_u8 (i : Nat) (hi : i ≤ 8) {x : Int} (h₀ : 0 ≤ x) (h₁ : x ≤ 255) : Go.bits .and .u8 x (2 ^ i - 1) = x % 2 ^ i := bits_mask .u8 8 (by decide) wraps_u8 i hi x h₀ (by omega)
theorem and_u32 (i : Nat) (hi : i ≤ 32) {x : Int} (h₀ : 0 ≤ x) (h₁ : x ≤ 4294967295) : Go.bits .and .u32 x (2 ^ i - 1) = x % 2 ^ i := bits_mask .u32 32 (by decide) wraps_u32 i hi x h₀ (by omega)
theorem or_u8 (i : Nat) {x y : Int} (hx₀ : 0 ≤ x) (hx : x % 2 ^ i = 0) (hx₁ : x ≤ 255) (hy₀ : 0 ≤ y) (hy : y < 2 ^ i) (hy₁ : y ≤ 255) : Go.bits .or .u8 x y = x + y := bits_join .u8 8 (by decide) wraps_u8 i x y hx₀ hx (by omega) hy₀ hy (by omega)
theorem or_u16 (i : Nat) {x y : Int} (hx₀ : 0 ≤ x) (hx : x % 2 ^ i = 0) (hx₁ : x ≤ 65535) (hy₀ : 0 ≤ y) (hy : y < 2 ^ i) (hy₁ : y ≤ 65535) : Go.bits .or .u16 x y = x + y := bits_join .u16 16 (by decide) wraps_u16 i x y hx₀ hx (by omega) hy₀ hy (by omega)
theorem or_u32 (i : Nat) {x y : Int} (hx₀ : 0 ≤ x) (hx : x % 2 ^ i = 0) (hx₁ : x ≤ 4294967295) (hy₀ : 0 ≤ y) (hy : y < 2 ^ i) (hy₁ : y ≤ 4294967295) : Go.bits .or .u32 x y = x + y := bits_join .u32 32 (by decide) wraps_u32 i x y hx₀ hx (by omega) hy₀ hy (by omega)
theorem and_65535 {x : Int} (h₀ : 0 ≤ x) (h₁ : x ≤ 4294967295) : Go.bits .and .u32 x 65535 = x % 65536 := and_u32 16 (by decide) h₀ h₁
theorem join16 {a b : Int} (ha : 0 ≤ a ∧ a ≤ 255) (hb : 0 ≤ b ∧ b ≤ 255) : Go.bits .or .u16 (a * 256) b = a * 256 + b := or_u16 8 (by omega) (by omega) (by omega) (by omega) (by omega) (by omega)
theorem not_u16 {x : Int} (h₀ : 0 ≤ x) (h₁ : x ≤ 65535) : Go.bits .xor .u16 65535 x = 65535 - x := by
 obtain ⟨a, rfl⟩ := Int.eq_ofNat_of_zero_le h₀
 have ha : a < 65536 := by omega
 rw [show (65535 : Int) = ((65535 : Nat) : Int) from rfl, Go.u16_xor_nat 65535 a (by decide) ha]
 have : (65535 ^^^ a : Nat) = 65535 - a := by
  have h1 := BitVec.toNat_not (x := BitVec.ofNat 16 a)
  have h2 : (~~~ (BitVec.ofNat 16 a)) = BitVec.ofNat 16 65535 ^^^ BitVec.ofNat 16 a := by
   rw [show BitVec.ofNat 16 65535 = BitVec.allOnes 16 from rfl, BitVec.allOnes_xor]
  rw [h2, BitVec.toNat_xor, BitVec.toNat_ofNat, BitVec.toNat_ofNat, Nat.mod_eq_of_lt (show 65535 < 2 ^ 16 from by decide), Nat.mod_eq_of_lt (show a < 2 ^ 16 from ha)] at h1
  rw [h1]
 rw [this]
 omega
theorem wrap64_id {n : Int} (h₀ : -9223372036854775808 ≤ n) (h₁ : n ≤ 9223372036854775807) : wrap64 n = n := by unfold wrap64; omega
end Go.Proofs.Ytkmimamminddiaa.Spec

/- Numbers out of bytes, and bytes of numbers: what the printed helps of the references come to. -/
namespace Go.Proofs.Ytkmimamminddiaa.BytesEq
set_option linter.unusedVariables false
set_option linter.unusedSimpArgs false
open Go.RowKit Go.Proofs.Ytkmimamminddiaa.PB Go.Proofs.YtkmimamminddiaaW.PrintWords Go.Proofs.YtkmimamminddiaaW.PrintLast Go.Proofs.Ytkmimamminddiaa.Spec

theorem rd_nat (l : List Int) (i : Int) (j : Nat) (h : i = (j : Int)) : rd l i = l.getD j 0 := by subst h; simp [rd]
theorem rd_mid (l : List Int) (a b : Nat) (i : Int) (j : Nat) (h : i = (j : Int)) (hb : a + j < b) : rd ((l.take b).drop a) i = l.getD (a + j) 0 := by
 rw [rd_nat _ _ j h, List.getD_eq_getElem?_getD, List.getElem?_drop, List.getElem?_take_of_lt hb, List.getD_eq_getElem?_getD]
theorem u8_wf {x : Int} (h : (Lit.int .u8 x).wf = true) : 0 ≤ x ∧ x ≤ 255 := by
 simp [Lit.wf, IntKind.min, IntKind.max, IntKind.bits, IntKind.signed] at h; omega
theorem u16_wf {x : Int} (h : (Lit.int .u16 x).wf = true) : 0 ≤ x ∧ x ≤ 65535 := by
 simp [Lit.wf, IntKind.min, IntKind.max, IntKind.bits, IntKind.signed] at h; omega
theorem isB_wf {l : List Int} (h : ∀ x ∈ l, (Lit.int .u8 x).wf = true) : IsB l := fun x hx => u8_wf (h x hx)

/-- numbers in bytes, the highest byte first -/
def g16 (l : List Int) (i : Nat) : Int := l.getD i 0 * 256 + l.getD (i + 1) 0
def g32 (l : List Int) (i : Nat) : Int := g16 l i * 65536 + g16 l (i + 2)
theorem g16_range {l : List Int} (h : IsB l) (i : Nat) : 0 ≤ g16 l i ∧ g16 l i ≤ 65535 := by
 have h1 := h.getD i
 have h2 := h.getD (i + 1)
 unfold g16; omega
theorem word16 {a b : Int} (ha : 0 ≤ a ∧ a ≤ 255) (hb : 0 ≤ b ∧ b ≤ 255) : Go.bits .or .u16 (IntKind.u16.wrap ((IntKind.u16.wrap a) * 256)) (IntKind.u16.wrap b) = a * 256 + b := by
 rw [u16w (n := a) (by omega) (by omega), u16w (n := a * 256) (by omega) (by omega), u16w (n := b) (by omega) (by omega), join16 ha hb]
theorem word32 {a b : Int} (ha : 0 ≤ a ∧ a ≤ 65535) (hb : 0 ≤ b ∧ b ≤ 65535) : Go.bits .or .u32 (((a % 4294967296) * 65536) % 4294967296) (b % 4294967296) = a * 65536 + b := by
 rw [show a % 4294967296 = a from by omega, show (a * 65536) % 4294967296 = a * 65536 from by omega, show b % 4294967296 = b from by omega]
 exact or_u32 16 (by omega) (by omega) (by omega) (by omega) (by omega) (by omega)
theorem get16_eq {l : List Int} (h : IsB l) (i : Nat) (hi : i + 2 ≤ l.length) (hl : l.length ≤ 1000000000) : lychref1_Get16.f l (i : Int) = some (g16 l i) := by
 unfold lychref1_Get16.f
 have e : wrap64 ((i : Int) + 1) = ((i + 1 : Nat) : Int) := by rw [wrap64_id (by omega) (by omega)]; omega
 rw [e, if_pos (by omega), if_pos (by omega), if_pos (by omega), if_pos (by omega), rd_nat l _ i rfl, rd_nat l _ (i + 1) rfl, word16 (h.getD i) (h.getD (i + 1))]
 rfl
theorem cut_eq (l : List Int) (a b : Nat) (h1 : a ≤ b) (h2 : b ≤ l.length) (hl : l.length ≤ 1000000000) : lychref1_cut.f l (a : Int) (b : Int) = some ((l.take b).drop a) := by
 unfold lychref1_cut.f
 have hlen : ((l.take b).drop a).length ≤ l.length := by rw [List.length_drop, List.length_take]; omega
 rw [if_pos (by omega), if_pos (by omega), if_pos (by omega)]
 simp only [Int.toNat_natCast, List.length_nil, Nat.zero_add, List.nil_append]
 rw [if_pos (by omega)]
theorem clone_eq (l : List Int) (hl : l.length ≤ 1000000000) : slices_Clone_byte_byte.f l = some l := by
 unfold slices_Clone_byte_byte.f
 rw [if_pos (by omega)]
theorem bytes_refl (l : List Int) : lychhelp_Bytes.f l l = some true := by
 unfold lychhelp_Bytes.f
 simp
end Go.Proofs.Ytkmimamminddiaa.BytesEq

/- EthReads, EthOnce, EthBounds, EthBack: the plain statements: for all frames the printed laws return true. -/
namespace Go.Proofs.Ytkmimamminddiaa.Pure
set_option linter.unusedVariables false
set_option linter.unusedSimpArgs false
open Go.RowKit Go.Proofs.Ytkmimamminddiaa.PB Go.Proofs.YtkmimamminddiaaW.PrintWords Go.Proofs.YtkmimamminddiaaW.PrintLast
open Go.Proofs.Ytkmimamminddiaa.Spec Go.Proofs.Ytkmimamminddiaa.BytesEq

theorem w01 : wrap64 (0 + 1) = 1 := wrap64_id (by omega) (by omega)
theorem w12 : wrap64 (1 + 1) = 2 := wrap64_id (by omega) (by omega)
theorem w23 : wrap64 (2 + 1) = 3 := wrap64_id (by omega) (by omega)
theorem w34 : wrap64 (3 + 1) = 4 := wrap64_id (by omega) (by omega)
/-- a frame out of bytes -/
def eseg (l : List Int) : Int × Int × Int × Int × Int × Int × Int × Int × Int × Int × Int × Int × Int × List Int × Int :=
 if (l.length : Int) > 1600 then (0, 0, 0, 0, 0, 0, 0, 0, 0, 0, 0, 0, 0, [], 23) else if (l.length : Int) < 14 then (0, 0, 0, 0, 0, 0, 0, 0, 0, 0, 0, 0, 0, [], 20) else (l.getD 0 0, l.getD 1 0, l.getD 2 0, l.getD 3 0, l.getD 4 0, l.getD 5 0, l.getD 6 0, l.getD 7 0, l.getD 8 0, l.getD 9 0, l.getD 10 0, l.getD 11 0, g16 l 12, l.drop 14, 0)
theorem eparse_eq {l : List Int} (h : IsB l) (hl : l.length ≤ 1000000000) : eth_Parse.f l = some (eseg l) := by
 unfold eth_Parse.f eseg
 by_cases c1 : (l.length : Int) > 1600
 ·rw [if_pos c1, if_pos c1]
 ·rw [if_neg c1, if_neg c1]
  by_cases c2 : (l.length : Int) < 14
  ·rw [if_pos c2, if_pos c2]
  ·rw [if_neg c2, if_neg c2, clone_eq _ (by rw [List.length_drop]; omega), Option.bind_some, rd_nat l 12 12 rfl, rd_nat l 13 13 rfl, word16 (h.getD 12) (h.getD 13)]
   rfl
theorem reparse_eq {l : List Int} (h : IsB l) (hl : l.length ≤ 1000000000) : lychref1_Eth.f l = some (eseg l) := by
 unfold lychref1_Eth.f eseg
 by_cases c1 : (l.length : Int) > 1600
 ·rw [if_pos c1, if_pos c1]
 ·rw [if_neg c1, if_neg c1]
  by_cases c2 : (l.length : Int) < 14
  ·rw [if_pos c2, if_pos c2]
  ·have e12 := get16_eq h 12 (by omega) hl
   rw [show ((12 : Nat) : Int) = 12 from rfl] at e12
   have f1 := cut_eq l 14 l.length (by omega) (by omega) hl
   rw [show ((14 : Nat) : Int) = 14 from rfl, List.take_length] at f1
   rw [if_neg c2, if_neg c2, e12, Option.bind_some, f1, Option.bind_some]
   rfl
/-- a frame's bytes -/
def ebytes (a0 a1 a2 a3 a4 a5 a6 a7 a8 a9 a10 a11 t : Int) (l : List Int) : List Int := [a0, a1, a2, a3, a4, a5] ++ ([a6, a7, a8, a9, a10, a11] ++ ([t / 256 % 256, t % 256] ++ l))
def eout (a0 a1 a2 a3 a4 a5 a6 a7 a8 a9 a10 a11 t : Int) (l : List Int) : List Int × Int := if (l.length : Int) > 1586 then ([], 23) else (ebytes a0 a1 a2 a3 a4 a5 a6 a7 a8 a9 a10 a11 t l, 0)
theorem cl0_step {k : Nat} {x0 x9 : List (List Int)} {x3 x10 x11 s i : Int} (h1 : x11 < x10) (h2 : 0 ≤ x11) (h3 : x11 < (x9.length : Int)) (hs : wrap64 (x3 + ((rd_L1 x9 x11).length : Int)) = s) (h4 : ¬ s < 0) (hi : wrap64 (x11 + 1) = i) : slices_Concat_byte_byte.l0 (k + 1) x0 x3 x9 x10 x11 = slices_Concat_byte_byte.l0 k x0 s x9 x10 i := by
 rw [slices_Concat_byte_byte.l0, if_pos h1, if_pos h2, if_pos h3, hs, if_neg h4, hi]
theorem cl1_step {k : Nat} {x6 : List Int} {x25 : List (List Int)} {x26 x27 i : Int} (h1 : x27 < x26) (h2 : 0 ≤ x27) (h3 : x27 < (x25.length : Int)) (h4 : x6.length + (rd_L1 x25 x27).length < 140737488355328) (hi : wrap64 (x27 + 1) = i) : slices_Concat_byte_byte.l1 (k + 1) x6 x25 x26 x27 = slices_Concat_byte_byte.l1 k (x6 ++ rd_L1 x25 x27) x25 x26 i := by
 rw [slices_Concat_byte_byte.l1, if_pos h1, if_pos h2, if_pos h3, if_pos h4, hi]
theorem cl0_end {k : Nat} {x0 x9 : List (List Int)} {x3 x10 x11 : Int} (h1 : ¬ x11 < x10) : slices_Concat_byte_byte.l0 (k + 1) x0 x3 x9 x10 x11 = (slices_Grow_byte_byte.f ([] : List Int) x3).bind fun t => slices_Concat_byte_byte.l1 k t x0 (x0.length : Int) 0 := by
 rw [slices_Concat_byte_byte.l0, if_neg h1]
theorem cl1_end {k : Nat} {x6 : List Int} {x25 : List (List Int)} {x26 x27 : Int} (h1 : ¬ x27 < x26) : slices_Concat_byte_byte.l1 (k + 1) x6 x25 x26 x27 = some x6 := by
 rw [slices_Concat_byte_byte.l1, if_neg h1]
theorem grow_eq {n : Int} (h0 : 0 ≤ n) (h1 : n < 70368744177664) : slices_Grow_byte_byte.f ([] : List Int) n = some [] := by
 unfold slices_Grow_byte_byte.f
 rw [if_pos h0, if_pos h1]
theorem concat4_eq (x y z u : List Int) (hx : x.length ≤ 1000000000) (hy : y.length ≤ 1000000000) (hz : z.length ≤ 1000000000) (hu : u.length ≤ 1000000000) (k : Nat) (hk : 11 ≤ k) : slices_Concat_byte_byte.f k [x, y, z, u] = some (x ++ (y ++ (z ++ u))) := by
 obtain ⟨k, rfl⟩ : ∃ j, k = j + 11 := ⟨k - 11, by omega⟩
 have hlen : (([x, y, z, u] : List (List Int)).length : Int) = 4 := rfl
 have s0 : wrap64 (0 + (x.length : Int)) = (x.length : Int) := by rw [wrap64_id (by omega) (by omega)]; omega
 have s1 : wrap64 ((x.length : Int) + (y.length : Int)) = (x.length : Int) + (y.length : Int) := wrap64_id (by omega) (by omega)
 have s2 : wrap64 ((x.length : Int) + (y.length : Int) + (z.length : Int)) = (x.length : Int) + (y.length : Int) + (z.length : Int) := wrap64_id (by omega) (by omega)
 have s3 : wrap64 ((x.length : Int) + (y.length : Int) + (z.length : Int) + (u.length : Int)) = (x.length : Int) + (y.length : Int) + (z.length : Int) + (u.length : Int) := wrap64_id (by omega) (by omega)
 unfold slices_Concat_byte_byte.f
 rw [hlen]
 refine (cl0_step (k := k + 10) (s := (x.length : Int)) (i := 1) (by omega) (by omega) (by rw [hlen]; omega) s0 (by omega) w01).trans ?_
 refine (cl0_step (k := k + 9) (s := (x.length : Int) + (y.length : Int)) (i := 2) (by omega) (by omega) (by rw [hlen]; omega) s1 (by omega) w12).trans ?_
 refine (cl0_step (k := k + 8) (s := (x.length : Int) + (y.length : Int) + (z.length : Int)) (i := 3) (by omega) (by omega) (by rw [hlen]; omega) s2 (by omega) w23).trans ?_
 refine (cl0_step (k := k + 7) (s := (x.length : Int) + (y.length : Int) + (z.length : Int) + (u.length : Int)) (i := 4) (by omega) (by omega) (by rw [hlen]; omega) s3 (by omega) w34).trans ?_
 refine (cl0_end (k := k + 6) (by omega)).trans ?_
 have h0 : (0 : Int) ≤ (x.length : Int) + (y.length : Int) + (z.length : Int) + (u.length : Int) := by omega
 have h1 : (x.length : Int) + (y.length : Int) + (z.length : Int) + (u.length : Int) < 70368744177664 := by omega
 rw [grow_eq h0 h1, Option.bind_some, hlen]
 have l1 : (([] : List Int) ++ x).length + y.length < 140737488355328 := by rw [List.nil_append]; omega
 have l2 : (([] : List Int) ++ x ++ y).length + z.length < 140737488355328 := by rw [List.nil_append, List.length_append]; omega
 have l3 : (([] : List Int) ++ x ++ y ++ z).length + u.length < 140737488355328 := by rw [List.nil_append, List.length_append, List.length_append]; omega
 refine (cl1_step (k := k + 5) (i := 1) (by omega) (by omega) (by rw [hlen]; omega) (show ([] : List Int).length + x.length < 140737488355328 by rw [List.length_nil]; omega) w01).trans ?_
 refine (cl1_step (k := k + 4) (i := 2) (by omega) (by omega) (by rw [hlen]; omega) l1 w12).trans ?_
 refine (cl1_step (k := k + 3) (i := 3) (by omega) (by omega) (by rw [hlen]; omega) l2 w23).trans ?_
 refine (cl1_step (k := k + 2) (i := 4) (by omega) (by omega) (by rw [hlen]; omega) l3 w34).trans ?_
 refine (cl1_end (k := k + 1) (by omega)).trans ?_
 show some (([] : List Int) ++ x ++ y ++ z ++ u) = some (x ++ (y ++ (z ++ u)))
 rw [List.nil_append, List.append_assoc, List.append_assoc]
section
variable {a0 a1 a2 a3 a4 a5 a6 a7 a8 a9 a10 a11 t : Int} {l : List Int}
theorem ebytes_eq (hl : l.length ≤ 1000000000) (k : Nat) (hk : 20 ≤ k) : eth_Bytes.f k a0 a1 a2 a3 a4 a5 a6 a7 a8 a9 a10 a11 t l = some (eout a0 a1 a2 a3 a4 a5 a6 a7 a8 a9 a10 a11 t l) := by
 unfold eth_Bytes.f eout
 by_cases c1 : (l.length : Int) > 1586
 ·rw [if_pos c1, if_pos c1]
 ·rw [if_neg c1, if_neg c1, concat4_eq _ _ _ _ (by simp) (by simp) (by simp) hl k (by omega), Option.bind_some]
  rfl
theorem ebytes_length : (ebytes a0 a1 a2 a3 a4 a5 a6 a7 a8 a9 a10 a11 t l).length = 14 + l.length := by
 unfold ebytes
 simp only [List.length_append, List.length_cons, List.length_nil]
 omega
theorem eseg_bytes (ht : 0 ≤ t ∧ t ≤ 65535) (h : (l.length : Int) ≤ 1586) : eseg (ebytes a0 a1 a2 a3 a4 a5 a6 a7 a8 a9 a10 a11 t l) = (a0, a1, a2, a3, a4, a5, a6, a7, a8, a9, a10, a11, t, l, 0) := by
 have hL : (ebytes a0 a1 a2 a3 a4 a5 a6 a7 a8 a9 a10 a11 t l).length = 14 + l.length := ebytes_length
 have e12 : g16 (ebytes a0 a1 a2 a3 a4 a5 a6 a7 a8 a9 a10 a11 t l) 12 = t / 256 % 256 * 256 + t % 256 := rfl
 have et : t / 256 % 256 * 256 + t % 256 = t := by omega
 have ed : (ebytes a0 a1 a2 a3 a4 a5 a6 a7 a8 a9 a10 a11 t l).drop 14 = l := rfl
 unfold eseg
 rw [if_neg (by rw [hL]; omega), if_neg (by rw [hL]; omega), e12, et, ed]
 rfl
end
end Go.Proofs.Ytkmimamminddiaa.Pure

-- written by a patched print
namespace Go.Proofs.Ytkmimamminddiaa.PB
open Go.RowKit Go.Proofs.YtkmimamminddiaaW.PrintWords Go.Proofs.YtkmimamminddiaaW.PrintLast Go.Proofs.YtkmimamminddiaaW.PrintMore
attribute [local go_sem] max2_int min2_int max_two min_two max_three min_three max_four min_four   -- for this text's walks alone
set_option linter.unusedVariables false
set_option linter.unusedSimpArgs false

/-! ### lychref1_Vxlan: function 62 -/
end Go.Proofs.Ytkmimamminddiaa.PB

/- Numbers of 32 bits out of bytes. -/
namespace Go.Proofs.Ytkmimamminddiaa.BytesEq
set_option linter.unusedVariables false
set_option linter.unusedSimpArgs false
open Go.RowKit Go.Proofs.Ytkmimamminddiaa.PB Go.Proofs.YtkmimamminddiaaW.PrintWords Go.Proofs.YtkmimamminddiaaW.PrintLast Go.Proofs.Ytkmimamminddiaa.Spec

theorem get32_eq {l : List Int} (h : IsB l) (i : Nat) (hi : i + 4 ≤ l.length) (hl : l.length ≤ 1000000000) : lychref1_Get32.f l (i : Int) = some (g32 l i) := by
 unfold lychref1_Get32.f
 have e : wrap64 ((i : Int) + 2) = ((i + 2 : Nat) : Int) := by rw [wrap64_id (by omega) (by omega)]; omega
 rw [e, get16_eq h i (by omega) hl, get16_eq h (i + 2) (by omega) hl]
 simp only [Option.bind_some]
 rw [word32 (g16_range h i) (g16_range h (i + 2))]
 rfl
end Go.Proofs.Ytkmimamminddiaa.BytesEq

/- VxlanReads, VxlanBits, VxlanBack, VxlanBounds, the plain statements: for all bytes, networks and lengths the printed laws return true. -/
namespace Go.Proofs.Ytkmimamminddiaa.Pure
set_option linter.unusedVariables false
set_option linter.unusedSimpArgs false
open Go.RowKit Go.Proofs.Ytkmimamminddiaa.PB Go.Proofs.YtkmimamminddiaaW.PrintWords Go.Proofs.YtkmimamminddiaaW.PrintLast
open Go.Proofs.Ytkmimamminddiaa.Spec Go.Proofs.Ytkmimamminddiaa.BytesEq

/-- the program's reading -/
theorem vparse_eq {l : List Int} (h : IsB l) (hl : l.length ≤ 1000000000) : vxlan_Parse.f l =
  if l.length < 8 then some (0, [], 20) else if Go.bits .and .u8 (l.getD 0 0) 8 = 0 then some (0, [], 21) else some ((l.getD 4 0 * 256 + l.getD 5 0) * 256 + l.getD 6 0, l.drop 8, 0) := by
 unfold vxlan_Parse.f
 by_cases h8 : l.length < 8
 ·rw [if_pos (by omega), if_pos h8]
 ·have hlen : ((l.take 7).drop 4).length = 3 := by rw [List.length_drop, List.length_take]; omega
  rw [if_neg (by omega), if_neg h8, if_pos (by omega), rd_nat l 0 0 rfl]
  by_cases hb : Go.bits .and .u8 (l.getD 0 0) 8 = 0
  ·rw [if_pos hb, if_pos hb]
  ·have h4 := h.getD 4
   have h5 := h.getD 5
   have h6 := h.getD 6
   rw [if_neg hb, if_neg hb, hlen, if_pos (by omega), if_pos (by omega), if_pos (by omega), if_pos (by omega), if_pos (by omega), clone_eq _ (by rw [List.length_drop]; omega)]
   simp only [Option.bind_some]
   rw [rd_mid l 4 7 0 0 rfl (by omega), rd_mid l 4 7 1 1 rfl (by omega), rd_mid l 4 7 2 2 rfl (by omega)]
   rw [show 4 + 0 = 4 from rfl, show 4 + 1 = 5 from rfl, show 4 + 2 = 6 from rfl, show l.getD 4 0 % 4294967296 = l.getD 4 0 from by omega, show l.getD 5 0 % 4294967296 = l.getD 5 0 from by omega, show l.getD 6 0 % 4294967296 = l.getD 6 0 from by omega]
   rw [show l.getD 4 0 * 65536 % 4294967296 = l.getD 4 0 * 65536 from by omega, show l.getD 5 0 * 256 % 4294967296 = l.getD 5 0 * 256 from by omega]
   rw [or_u32 16 (x := l.getD 4 0 * 65536) (y := l.getD 5 0 * 256) (by omega) (by omega) (by omega) (by omega) (by omega) (by omega)]
   rw [or_u32 8 (x := l.getD 4 0 * 65536 + l.getD 5 0 * 256) (y := l.getD 6 0) (by omega) (by omega) (by omega) (by omega) (by omega) (by omega)]
   congr 2
   omega
theorem vbytes_eq {v : Int} {l : List Int} (hl : l.length ≤ 1000000000) : vxlan_Bytes.f v l =
  if v > 16777215 then some ([], 21) else if (l.length : Int) > 1592 then some ([], 23) else some ([8, 0, 0, 0, v / 65536 % 256, v / 256 % 256, v % 256, 0] ++ l, 0) := by
 unfold vxlan_Bytes.f
 split
 ·rfl
 ·split
  ·rfl
  ·simp only [Option.bind_some, List.length_cons, List.length_nil]
   rw [if_pos (by omega)]
end Go.Proofs.Ytkmimamminddiaa.Pure

-- written by a patched print
namespace Go.Proofs.Ytkmimamminddiaa.PB
open Go.RowKit Go.Proofs.YtkmimamminddiaaW.PrintWords Go.Proofs.YtkmimamminddiaaW.PrintLast Go.Proofs.YtkmimamminddiaaW.PrintMore
attribute [local go_sem] max2_int min2_int max_two min_two max_three min_three max_four min_four   -- for this text's walks alone
set_option linter.unusedVariables false
set_option linter.unusedSimpArgs false

/-! ### lychref1_Pseudo: function 82 -/
end Go.Proofs.Ytkmimamminddiaa.PB

-- written by a patched print
namespace Go.Proofs.Ytkmimamminddiaa.PB
open Go.RowKit Go.Proofs.YtkmimamminddiaaW.PrintWords Go.Proofs.YtkmimamminddiaaW.PrintLast Go.Proofs.YtkmimamminddiaaW.PrintMore
attribute [local go_sem] max2_int min2_int max_two min_two max_three min_three max_four min_four   -- for this text's walks alone
set_option linter.unusedVariables false
set_option linter.unusedSimpArgs false

/-! ### lychref1_UdpRight: function 40 -/
end Go.Proofs.Ytkmimamminddiaa.PB

-- written by a patched print
namespace Go.Proofs.Ytkmimamminddiaa.PB
open Go.RowKit Go.Proofs.YtkmimamminddiaaW.PrintWords Go.Proofs.YtkmimamminddiaaW.PrintLast Go.Proofs.YtkmimamminddiaaW.PrintMore
attribute [local go_sem] max2_int min2_int max_two min_two max_three min_three max_four min_four   -- for this text's walks alone
set_option linter.unusedVariables false
set_option linter.unusedSimpArgs false

/-! ### lychref1_Udp: function 39 -/
end Go.Proofs.Ytkmimamminddiaa.PB

/- What the printed functions of the checksum come to: the plain words, sums and folds. -/
namespace Go.Proofs.Ytkmimamminddiaa.SumEq
set_option linter.unusedVariables false
set_option linter.unusedSimpArgs false
open Go.RowKit Go.Proofs.Ytkmimamminddiaa.PB Go.Proofs.YtkmimamminddiaaW.PrintWords Go.Proofs.YtkmimamminddiaaW.PrintLast Go.Proofs.Ytkmimamminddiaa.Spec

theorem rd_at (l : List Int) (i : Int) (j : Nat) (h : i = (j : Int)) : rd l i = l.getD j 0 := by subst h; simp [rd]
theorem take_words (l : List Int) (j : Nat) (h : 2 * j < l.length) : (words l).take (j + 1) = (words l).take j ++ [l.getD (2 * j) 0 * 256 + l.getD (2 * j + 1) 0] := by
 have hl := words_length l
 have hg := words_get l j h
 have hj : j < (words l).length := by omega
 rw [List.getElem?_eq_getElem hj] at hg
 injection hg with hg
 rw [List.take_succ_eq_append_getElem hj, hg]

theorem words_l0 (l : List Int) (hb : IsB l) (hl : l.length ≤ 1000000000) (d : Nat) : ∀ (k j : Nat), j + d = (l.length + 1) / 2 → d < k →
  sum_Words.l0 k l ((words l).take j) (((l.length + 1) / 2 : Nat) : Int) (j : Int) = some (words l) := by
 induction d with
 | zero =>
  intro k j hj hk
  obtain ⟨k, rfl⟩ : ∃ m, k = m + 1 := ⟨k - 1, by omega⟩
  simp only [sum_Words.l0]
  rw [if_neg (by omega), List.take_of_length_le (by rw [words_length]; omega)]
 | succ d ih =>
  intro k j hj hk
  obtain ⟨k, rfl⟩ : ∃ m, k = m + 1 := ⟨k - 1, by omega⟩
  have e2 : wrap64 (2 * (j : Int)) = ((2 * j : Nat) : Int) := by rw [wrap64_id (by omega) (by omega)]; omega
  have e3 : wrap64 (((2 * j : Nat) : Int) + 1) = ((2 * j + 1 : Nat) : Int) := by rw [wrap64_id (by omega) (by omega)]; omega
  have e1 : wrap64 ((j : Int) + 1) = ((j + 1 : Nat) : Int) := by rw [wrap64_id (by omega) (by omega)]; omega
  have h1 := hb.getD (2 * j)
  have h2 := hb.getD (2 * j + 1)
  have hlen : ((words l).take j).length < 70368744177664 := by rw [List.length_take, words_length]; omega
  have ht := take_words l j (by omega)
  have hi := ih k (j + 1) (by omega) (by omega)
  simp only [sum_Words.l0, e2, e3, e1]
  rw [if_pos (by omega), if_pos (by omega), if_pos (by omega), rd_at l _ (2 * j) rfl, rd_at l _ (2 * j + 1) rfl]
  rw [u16w (by omega) (by omega : l.getD (2 * j) 0 ≤ 65535), u16w (by omega) (by omega : l.getD (2 * j) 0 * 256 ≤ 65535), u16w (by omega) (by omega : l.getD (2 * j + 1) 0 ≤ 65535), join16 h1 h2]
  by_cases hc : 2 * j + 1 < l.length
  ·rw [if_pos (by omega), if_pos (by omega), if_pos hlen, ← ht]
   exact hi
  ·have h0 : l.getD (2 * j + 1) 0 = 0 := by rw [List.getD_eq_getElem?_getD, List.getElem?_eq_none (by omega)]; rfl
   rw [if_neg (by omega), if_pos hlen]
   rw [h0, Int.add_zero] at ht
   rw [← ht]
   exact hi
theorem words_eq (l : List Int) (hb : IsB l) (hl : l.length ≤ 1000000000) (k : Nat) (hk : l.length + 1 < k) : sum_Words.f k l = some (words l) := by
 have h := words_l0 l hb hl ((l.length + 1) / 2) k 0 (by omega) (by omega)
 unfold sum_Words.f
 have e : wrap64 (Int.tdiv (wrap64 ((l.length : Int) + 1)) 2) = (((l.length + 1) / 2 : Nat) : Int) := by
  rw [wrap64_id (n := (l.length : Int) + 1) (by omega) (by omega), Int.tdiv_eq_ediv_of_nonneg (by omega), wrap64_id (by omega) (by omega)]; omega
 rw [e]
 simpa using h

theorem Add32_eq {a b : Int} (ha : 0 ≤ a ∧ a ≤ 4294967295) (hb : 0 ≤ b ∧ b ≤ 65535) : bits_Add32.f a b 0 = some ((a + b) % 4294967296, (a + b) / 4294967296) := by
 unfold bits_Add32.f
 rw [u64w ha.1 (by omega), u64w hb.1 (by omega), u64w (n := a + b) (by omega) (by omega), u64w (n := (0 : Int)) (by omega) (by omega), u64w (n := a + b + 0) (by omega) (by omega)]
 rw [Int.add_zero, show ((a + b) / 4294967296) % 4294967296 = (a + b) / 4294967296 from by omega]
theorem add_l0 (ws : List Int) (hw : IsW ws) (hl : ws.length ≤ 1000000000) (d : Nat) : ∀ (k j : Nat) (s : Int), j + d = ws.length → d < k → 0 ≤ s → s ≤ 4294967295 →
  sum_Add.l0 k s ws (ws.length : Int) (j : Int) = some (addw s (ws.drop j)) := by
 induction d with
 | zero =>
  intro k j s hj hk h0 h1
  obtain ⟨k, rfl⟩ : ∃ m, k = m + 1 := ⟨k - 1, by omega⟩
  simp only [sum_Add.l0]
  rw [if_neg (by omega), List.drop_of_length_le (by omega)]
  rfl
 | succ d ih =>
  intro k j s hj hk h0 h1
  obtain ⟨k, rfl⟩ : ∃ m, k = m + 1 := ⟨k - 1, by omega⟩
  have hjl : j < ws.length := by omega
  have hx := hw _ (List.getElem_mem hjl)
  have e1 : wrap64 ((j : Int) + 1) = ((j + 1 : Nat) : Int) := by rw [wrap64_id (by omega) (by omega)]; omega
  have er : rd ws (j : Int) = ws[j] := by rw [rd_at ws _ j rfl, List.getD_eq_getElem?_getD, List.getElem?_eq_getElem hjl]; rfl
  have ho := oadd_range h0 h1 hx
  have hi := ih k (j + 1) (oadd s ws[j]) (by omega) (by omega) ho.1 ho.2
  simp only [sum_Add.l0, e1, er]
  rw [if_pos (by omega), if_pos (by omega), if_pos (by omega), show ws[j] % 4294967296 = ws[j] from by omega, Add32_eq ⟨h0, h1⟩ hx]
  simp only [Option.bind_some]
  have eo : ((s + ws[j]) % 4294967296 + (s + ws[j]) / 4294967296) % 4294967296 = oadd s ws[j] := by unfold oadd; split <;> omega
  rw [eo, hi, List.drop_eq_getElem_cons hjl]
  rfl
theorem add_eq (s : Int) (l : List Int) (hb : IsB l) (hl : l.length ≤ 1000000000) (h0 : 0 ≤ s) (h1 : s ≤ 4294967295) (k : Nat) (hk : l.length + 1 < k) : sum_Add.f k s l = some (addw s (words l)) := by
 unfold sum_Add.f
 rw [words_eq l hb hl k hk]
 have hwl := words_length l
 have := add_l0 (words l) (words_isW l hb) (by omega) (words l).length k 0 s (by omega) (by omega) h0 h1
 simpa using this
theorem fold_small {k : Nat} {s : Int} (h0 : 0 ≤ s) (h1 : s ≤ 65535) : sum_Fold.l0 (k + 1) s = some s := by
 simp only [sum_Fold.l0]
 rw [if_pos (by omega), u16w h0 h1]
theorem fold_step {k : Nat} {s : Int} (h0 : 65536 ≤ s) (h1 : s ≤ 4294967295) : sum_Fold.l0 (k + 1) s = sum_Fold.l0 k (s % 65536 + s / 65536) := by
 simp only [sum_Fold.l0]
 rw [if_neg (by omega), and_65535 (by omega) h1, show (s % 65536 + s / 65536) % 4294967296 = s % 65536 + s / 65536 from by omega]
theorem fold_eq (s : Int) (h0 : 0 ≤ s) (h1 : s ≤ 4294967295) (k : Nat) (hk : 3 < k) : sum_Fold.f k s = some (norm s) := by
 obtain ⟨k, rfl⟩ : ∃ m, k = m + 3 := ⟨k - 3, by omega⟩
 unfold sum_Fold.f
 by_cases c : s ≤ 65535
 ·rw [fold_small h0 c, norm_small h0 c]
 ·rw [fold_step (by omega) h1]
  by_cases c2 : s % 65536 + s / 65536 ≤ 65535
  ·rw [fold_small (by omega) c2]
   congr 1; unfold norm; rw [if_neg (by omega)]; omega
  ·rw [fold_step (by omega) (by omega), fold_small (by omega) (by omega)]
   congr 1; unfold norm; rw [if_neg (by omega)]; omega
end Go.Proofs.Ytkmimamminddiaa.SumEq

/- Plain laws of the checksum: words changed, swapped, padded. -/
namespace Go.Proofs.Ytkmimamminddiaa.Spec
set_option linter.unusedVariables false
set_option linter.unusedSimpArgs false
open Go.RowKit

theorem words_set2 : ∀ (l : List Int) (t : Nat) (a b : Int), 2 * t + 1 < l.length → words ((l.set (2 * t) a).set (2 * t + 1) b) = (words l).set t (a * 256 + b)
 | [], t, a, b, h => by simp at h
 | [x], t, a, b, h => by simp at h
 | x :: y :: l, 0, a, b, h => by simp [words]
 | x :: y :: l, t + 1, a, b, h => by
  have := words_set2 l t a b (by simp only [List.length_cons] at h; omega)
  rw [show 2 * (t + 1) = 2 * t + 1 + 1 from by omega]
  simp only [List.set_cons_succ, words, this]
theorem isum_set : ∀ (ws : List Int) (t : Nat) (v : Int), t < ws.length → isum (ws.set t v) = isum ws - ws.getD t 0 + v
 | [], t, v, h => by simp at h
 | x :: ws, 0, v, h => by simp [isum]; omega
 | x :: ws, t + 1, v, h => by
  have := isum_set ws t v (by simp only [List.length_cons] at h; omega)
  simp only [List.set_cons_succ, isum, this, List.getD_cons_succ]; omega
/-- word number t of bytes -/
def wordAt (l : List Int) (t : Nat) : Int := l.getD (2 * t) 0 * 256 + l.getD (2 * t + 1) 0
theorem wordAt_eq (l : List Int) (t : Nat) (h : 2 * t < l.length) : (words l).getD t 0 = wordAt l t := by
 rw [List.getD_eq_getElem?_getD, words_get l t h]; rfl
theorem isum_change (l : List Int) (t : Nat) (a b : Int) (h : 2 * t + 1 < l.length) :
  isum (words ((l.set (2 * t) a).set (2 * t + 1) b)) = isum (words l) - wordAt l t + (a * 256 + b) := by
 have hl := words_length l
 rw [words_set2 l t a b h, isum_set _ _ _ (by omega), wordAt_eq l t (by omega)]
/-- a checksum laid into a word that was nought -/
theorem stands {S : Int} (h : 0 ≤ S) : norm (S + (65535 - norm S)) = 65535 := by
 unfold norm
 split
 ·rw [if_neg (by omega)]; omega
 ·rw [if_neg (by omega)]; omega
end Go.Proofs.Ytkmimamminddiaa.Spec

/- UdpReads, UdpBack, UdpSums, UdpGreat, UdpLengths, UdpNone, the plain statements: for all datagrams the printed laws return true. -/
namespace Go.Proofs.Ytkmimamminddiaa.Pure
set_option linter.unusedVariables false
set_option linter.unusedSimpArgs false
open Go.RowKit Go.Proofs.Ytkmimamminddiaa.PB Go.Proofs.YtkmimamminddiaaW.PrintWords Go.Proofs.YtkmimamminddiaaW.PrintLast
open Go.Proofs.Ytkmimamminddiaa.Spec Go.Proofs.Ytkmimamminddiaa.BytesEq

theorem utwo_eq {l : List Int} (h : IsB l) (a b : Nat) (hab : b = a + 2) (hb : b ≤ l.length) : udp_two.f ((l.take b).drop a) = some (g16 l a) := by
 subst hab
 unfold udp_two.f
 have hlen : ((l.take (a + 2)).drop a).length = 2 := by rw [List.length_drop, List.length_take]; omega
 rw [hlen, if_pos (by omega), if_pos (by omega), rd_mid l a (a + 2) 0 0 rfl (by omega), rd_mid l a (a + 2) 1 1 rfl (by omega), word16 (h.getD (a + 0)) (h.getD (a + 1))]
 rfl
/-- a datagram out of bytes -/
def udg (l : List Int) : Int × Int × Int × List Int × Int :=
 if l.length < 8 then (0, 0, 0, [], 20) else if g16 l 4 < 8 then (0, 0, 0, [], 21) else if (l.length : Int) < g16 l 4 then (0, 0, 0, [], 20) else (g16 l 0, g16 l 2, g16 l 6, (l.take (g16 l 4).toNat).drop 8, 0)
theorem uparse_eq {l : List Int} (h : IsB l) (hl : l.length ≤ 1000000000) : udp_Parse.f l = some (udg l) := by
 unfold udp_Parse.f udg
 by_cases h8 : l.length < 8
 ·rw [if_pos (by omega), if_pos h8]
 ·have hg := g16_range h 4
  rw [if_neg (by omega), if_neg h8, if_pos (by omega), utwo_eq h 4 6 rfl (by omega)]
  simp only [Option.bind_some]
  rw [wrap64_id (n := g16 l 4) (by omega) (by omega)]
  by_cases c1 : g16 l 4 < 8
  ·rw [if_pos c1, if_pos c1]
  ·rw [if_neg c1, if_neg c1]
   by_cases c2 : (l.length : Int) < g16 l 4
   ·rw [if_pos c2, if_pos c2]
   ·rw [if_neg c2, if_neg c2, if_pos (by omega), utwo_eq h 0 2 rfl (by omega)]
    simp only [Option.bind_some]
    rw [if_pos (by omega), utwo_eq h 2 4 rfl (by omega)]
    simp only [Option.bind_some]
    rw [if_pos (by omega), utwo_eq h 6 8 rfl (by omega)]
    simp only [Option.bind_some]
    rw [if_pos (by omega), if_pos (by omega), clone_eq _ (by rw [List.length_drop, List.length_take]; omega)]
    simp only [Option.bind_some]
/-- a datagram's bytes -/
def ubytes (s d c : Int) (l : List Int) : List Int := [s / 256 % 256, s % 256, d / 256 % 256, d % 256, (8 + (l.length : Int)) / 256 % 256, (8 + (l.length : Int)) % 256, c / 256 % 256, c % 256] ++ l
theorem ubytes_eq (s d c : Int) {l : List Int} (hl : l.length ≤ 1000000000) : udp_Bytes.f s d c l = if (l.length : Int) > 65527 then some ([], 23) else some (ubytes s d c l, 0) := by
 unfold udp_Bytes.f ubytes
 rw [wrap64_id (by omega) (by omega)]
 by_cases h : (l.length : Int) > 65527
 ·rw [if_pos (by omega), if_pos h]
 ·rw [if_neg (by omega), if_neg h]
  simp only [Option.bind_some, List.length_cons, List.length_nil]
  rw [if_pos (by omega)]
theorem ubytes_isB {s d c : Int} {l : List Int} (h : IsB l) : IsB (ubytes s d c l) :=
 IsB.append (.cons (by omega) (.cons (by omega) (.cons (by omega) (.cons (by omega) (.cons (by omega) (.cons (by omega) (.cons (by omega) (.cons (by omega) .nil)))))))) h
theorem ubytes_length (s d c : Int) (l : List Int) : (ubytes s d c l).length = 8 + l.length := by simp [ubytes]; omega
theorem udg_ubytes {s d c : Int} {l : List Int} (hs : 0 ≤ s ∧ s ≤ 65535) (hd : 0 ≤ d ∧ d ≤ 65535) (hc : 0 ≤ c ∧ c ≤ 65535) (hl : (l.length : Int) ≤ 65527) : udg (ubytes s d c l) = (s, d, c, l, 0) := by
 have hL := ubytes_length s d c l
 have e4 : g16 (ubytes s d c l) 4 = 8 + (l.length : Int) := by
  unfold ubytes g16
  simp only [List.cons_append, List.nil_append, List.getD_cons_zero, List.getD_cons_succ]
  omega
 unfold udg
 rw [e4, if_neg (by omega), if_neg (by omega), if_neg (by omega), List.take_of_length_le (by omega)]
 unfold ubytes g16
 simp only [List.cons_append, List.nil_append, List.getD_cons_zero, List.getD_cons_succ, List.drop_succ_cons, List.drop_zero, Prod.mk.injEq, and_true, true_and]
 refine ⟨?_, ?_, ?_⟩ <;> omega
end Go.Proofs.Ytkmimamminddiaa.Pure

-- written by a patched print
namespace Go.Proofs.Ytkmimamminddiaa.PB
open Go.RowKit Go.Proofs.YtkmimamminddiaaW.PrintWords Go.Proofs.YtkmimamminddiaaW.PrintLast Go.Proofs.YtkmimamminddiaaW.PrintMore
attribute [local go_sem] max2_int min2_int max_two min_two max_three min_three max_four min_four   -- for this text's walks alone
set_option linter.unusedVariables false
set_option linter.unusedSimpArgs false

/-! ### lychref1_Ip: function 38 -/
end Go.Proofs.Ytkmimamminddiaa.PB

/- Packets out of bytes: what the proofs of the laws on packets share. -/
namespace Go.Proofs.Ytkmimamminddiaa.Pure
set_option linter.unusedVariables false
set_option linter.unusedSimpArgs false
open Go.RowKit Go.Proofs.Ytkmimamminddiaa.PB Go.Proofs.YtkmimamminddiaaW.PrintWords Go.Proofs.YtkmimamminddiaaW.PrintLast
open Go.Proofs.Ytkmimamminddiaa.Spec Go.Proofs.Ytkmimamminddiaa.BytesEq Go.Proofs.Ytkmimamminddiaa.SumEq

theorem itwo_eq {l : List Int} (h : IsB l) (i : Nat) (hi : i + 2 ≤ l.length) (hl : l.length ≤ 1000000000) : ip_reader_two.f l (i : Int) = some (g16 l i) := get16_eq h i hi hl
theorem ifour_eq {l : List Int} (h : IsB l) (i : Nat) (hi : i + 4 ≤ l.length) (hl : l.length ≤ 1000000000) : ip_reader_four.f l (i : Int) = some (g32 l i) := get32_eq h i hi hl
theorem iclone_eq (l : List Int) (hl : l.length ≤ 1000000000) : ip_reader_byte.f l = some l := by
 unfold ip_reader_byte.f
 rw [if_pos (by omega)]
theorem must_yes {c : Prop} [Decidable c] (h : c) (e : Int) : ip_must.f (decide c) e = some () := by
 unfold ip_must.f
 rw [decide_eq_true h, if_pos rfl]
theorem and16 (i : Nat) (hi : i ≤ 16) {x : Int} (h₀ : 0 ≤ x) (h₁ : x ≤ 65535) : Go.bits .and .u16 x (2 ^ i - 1) = x % 2 ^ i := bits_mask .u16 16 (by decide) wraps_u16 i hi x h₀ (by omega)
/-- a header's length -/
def ihead (l : List Int) : Int := 4 * (l.getD 0 0 % 16)
theorem ihead_range (l : List Int) : 0 ≤ ihead l ∧ ihead l ≤ 60 := by unfold ihead; omega
theorem ihead_eq {l : List Int} (h : IsB l) : wrap64 (4 * (wrap64 (Go.bits .and .u8 (rd l 0) 15))) = ihead l := by
 have hg := h.getD 0
 have ea : Go.bits .and .u8 (rd l 0) 15 = l.getD 0 0 % 16 := by rw [rd_nat l 0 0 rfl]; exact and_u8 4 (by omega) hg.1 hg.2
 rw [ea, wrap64_id (n := l.getD 0 0 % 16) (by omega) (by omega), wrap64_id (by omega) (by omega)]
 rfl
/-- the sum of a header -/
def isumof (l : List Int) : Int := norm (isum (words (l.take (ihead l).toNat)))
/-- what is not of the form -/
def iodd (l : List Int) : Prop := ¬ (l.getD 0 0 / 16 = 4 ∧ ihead l ≥ 20 ∧ g16 l 2 ≥ ihead l)
instance (l : List Int) : Decidable (iodd l) := inferInstanceAs (Decidable (¬ _))
/-- the parts of a packet -/
def iparts (l : List Int) : Int × Int × Int × Int × Int × Int × Int × Int × List Int × List Int :=
 (l.getD 1 0, l.getD 8 0, l.getD 9 0, g16 l 4, g16 l 6 / 8192, g16 l 6 % 8192, g32 l 12, g32 l 16, (l.take (ihead l).toNat).drop 20, (l.take (g16 l 2).toNat).drop (ihead l).toNat)
/-- a packet out of bytes -/
def iseg (l : List Int) : Int × Int × Int × Int × Int × Int × Int × Int × List Int × List Int × Int :=
 if l.length < 20 then (0, 0, 0, 0, 0, 0, 0, 0, [], [], 20) else if iodd l then (0, 0, 0, 0, 0, 0, 0, 0, [], [], 21) else if (l.length : Int) < g16 l 2 then (0, 0, 0, 0, 0, 0, 0, 0, [], [], 20) else if isumof l ≠ 65535 then (0, 0, 0, 0, 0, 0, 0, 0, [], [], 22) else
 (l.getD 1 0, l.getD 8 0, l.getD 9 0, g16 l 4, g16 l 6 / 8192, g16 l 6 % 8192, g32 l 12, g32 l 16, (l.take (ihead l).toNat).drop 20, (l.take (g16 l 2).toNat).drop (ihead l).toNat, 0)
theorem fold_head {l : List Int} (h : IsB l) (hl : l.length ≤ 1000000000) (k : Nat) (hk : l.length + 4 < k) : ((sum_Add.f k 0 l).bind fun a => sum_Fold.f k a) = some (norm (isum (words l))) := by
 have hr := addw_range (words l) 0 (by omega) (by omega) (words_isW l h)
 have hn := norm_addw (words l) 0 (by omega) (by omega) (words_isW l h)
 rw [add_eq 0 l h hl (by omega) (by omega) k (by omega), Option.bind_some, fold_eq _ hr.1 hr.2 k (by omega), hn, Int.zero_add]
theorem fold_both {l : List Int} (h : IsB l) (hl : l.length ≤ 1000000000) (k : Nat) (hk : l.length + 4 < k) : ∃ a, sum_Add.f k 0 l = some a ∧ sum_Fold.f k a = some (norm (isum (words l))) := Option.bind_eq_some_iff.mp (fold_head h hl k hk)
theorem ipacket_eq {l : List Int} (h : IsB l) (hl : l.length ≤ 1000000000) (h20 : 20 ≤ l.length) (ho : ¬ iodd l) (hs : ¬ (l.length : Int) < g16 l 2) (hx : isumof l = 65535) (k : Nat) (hk : l.length + 5 < k) : ip_reader_packet.f k l = some (iparts l) := by
 obtain ⟨k, rfl⟩ : ∃ j, k = j + 1 := ⟨k - 1, by omega⟩
 have hh := ihead_range l
 have hg := g16_range h 2
 have hb6 := g16_range h 6
 have ho' : l.getD 0 0 / 16 = 4 ∧ ihead l ≥ 20 ∧ g16 l 2 ≥ ihead l := Decidable.not_not.mp ho
 obtain ⟨o1, o2, o3⟩ := ho'
 have p0 : 0 ≤ ihead l := hh.1
 have p1 : ihead l ≤ (l.length : Int) := by omega
 have p2 : (0 : Int) < (l.length : Int) := by omega
 have p3 : (1 : Int) < (l.length : Int) := by omega
 have p4 : (8 : Int) < (l.length : Int) := by omega
 have p5 : (9 : Int) < (l.length : Int) := by omega
 have p6 : g16 l 2 ≤ (l.length : Int) := by omega
 have p7 : ((l.take (ihead l).toNat).drop 20).length ≤ 1000000000 := by rw [List.length_drop, List.length_take]; omega
 have p8 : ((l.take (g16 l 2).toNat).drop (ihead l).toNat).length ≤ 1000000000 := by rw [List.length_drop, List.length_take]; omega
 have p9 : (l.length : Int) ≥ 20 := by omega
 have m1 : ip_must.f (decide ((l.length : Int) ≥ 20)) 20 = some () := must_yes p9 20
 have m2 : ip_must.f (decide (g16 l 2 ≥ ihead l)) 21 = some () := must_yes o3 21
 have m3 : ip_must.f (decide ((l.length : Int) ≥ g16 l 2)) 20 = some () := must_yes p6 20
 have e2 := itwo_eq h 2 (by omega) hl
 have e4 := itwo_eq h 4 (by omega) hl
 have e6 := itwo_eq h 6 (by omega) hl
 have e12 := ifour_eq h 12 (by omega) hl
 have e16 := ifour_eq h 16 (by omega) hl
 rw [show ((2 : Nat) : Int) = 2 from rfl] at e2
 rw [show ((4 : Nat) : Int) = 4 from rfl] at e4
 rw [show ((6 : Nat) : Int) = 6 from rfl] at e6
 rw [show ((12 : Nat) : Int) = 12 from rfl] at e12
 rw [show ((16 : Nat) : Int) = 16 from rfl] at e16
 have r0 : rd l 0 = l.getD 0 0 := rd_nat l 0 0 rfl
 have r1 : rd l 1 = l.getD 1 0 := rd_nat l 1 1 rfl
 have r8 : rd l 8 = l.getD 8 0 := rd_nat l 8 8 rfl
 have r9 : rd l 9 = l.getD 9 0 := rd_nat l 9 9 rfl
 have w2 : wrap64 (g16 l 2) = g16 l 2 := wrap64_id (by omega) (by omega)
 have hd := ihead_eq h
 obtain ⟨a, fa, fb⟩ := fold_both (h.take (ihead l).toNat) (by rw [List.length_take]; omega) k (by rw [List.length_take]; omega)
 have fx : norm (isum (words (l.take (ihead l).toNat))) = 65535 := hx
 rw [fx] at fb
 have m22 : ip_must.f ((65535 : Int) == 65535) 22 = some () := by unfold ip_must.f; rw [if_pos (by decide)]
 have ef : g16 l 6 / 8192 % 256 = g16 l 6 / 8192 := by omega
 have ea : Go.bits .and .u16 (g16 l 6) 8191 = g16 l 6 % 8192 := and16 13 (by omega) hb6.1 hb6.2
 unfold ip_reader_packet.f
 rw [m1, Option.bind_some, if_pos p2, e2, Option.bind_some, hd, w2, r0, if_pos o1, if_pos o2, m2, Option.bind_some, ip_reader_packet.j0, m3, Option.bind_some, if_pos p0, if_pos p1, fa, Option.bind_some, fb, Option.bind_some, m22, Option.bind_some, e6, Option.bind_some, if_pos p3, e4, Option.bind_some, if_pos p4, if_pos p5, e12, Option.bind_some, e16, Option.bind_some, if_pos o2,
  iclone_eq _ p7, Option.bind_some, if_pos o3, if_pos p6, iclone_eq _ p8, Option.bind_some, r1, r8, r9, ef, ea]
 rfl
theorem iparse_eq {l : List Int} (h : IsB l) (hl : l.length ≤ 1000000000) (k : Nat) (hk : l.length + 5 < k) : ip_Parse.f k l = some (iseg l) := by
 have hh := ihead_range l
 have hg := g16_range h 2
 have hd := ihead_eq h
 have r0 : rd l 0 = l.getD 0 0 := rd_nat l 0 0 rfl
 unfold ip_Parse.f iseg
 by_cases c1 : l.length < 20
 ·rw [if_pos (by omega), if_pos c1]
 ·have e2 := itwo_eq h 2 (by omega) hl
  rw [show ((2 : Nat) : Int) = 2 from rfl] at e2
  have w2 : wrap64 (g16 l 2) = g16 l 2 := wrap64_id (by omega) (by omega)
  rw [if_neg (by omega), if_neg c1, e2, Option.bind_some, hd, w2, r0]
  by_cases c2 : iodd l
  ·rw [if_neg c2, if_pos c2]
  ·rw [if_pos (Decidable.not_not.mp c2), if_neg c2]
   by_cases c3 : (l.length : Int) < g16 l 2
   ·rw [if_pos c3, if_pos c3]
   ·rw [if_neg c3, if_neg c3]
    obtain ⟨a, fa, fb⟩ := fold_both (h.take (ihead l).toNat) (by rw [List.length_take]; omega) k (by rw [List.length_take]; omega)
    rw [fa, Option.bind_some, fb, Option.bind_some]
    by_cases c4 : isumof l = 65535
    ·have fx : norm (isum (words (l.take (ihead l).toNat))) = 65535 := c4
     rw [if_pos fx, if_neg (fun hne => hne c4), ipacket_eq h hl (by omega) c2 c3 c4 k hk, Option.bind_some]
     rfl
    ·have fx : ¬ norm (isum (words (l.take (ihead l).toNat))) = 65535 := c4
     rw [if_neg fx, if_pos c4]
end Go.Proofs.Ytkmimamminddiaa.Pure

/- The checksum of bytes. -/
namespace Go.Proofs.Ytkmimamminddiaa.SumEq
set_option linter.unusedVariables false
set_option linter.unusedSimpArgs false
open Go.RowKit Go.Proofs.Ytkmimamminddiaa.PB Go.Proofs.YtkmimamminddiaaW.PrintWords Go.Proofs.YtkmimamminddiaaW.PrintLast Go.Proofs.Ytkmimamminddiaa.Spec

theorem of_eq (l : List Int) (hb : IsB l) (hl : l.length ≤ 1000000000) (k : Nat) (hk : l.length + 1 < k) (hk3 : 3 < k) : sum_Of.f k l = some (ck l) := by
 have hr := addw_range (words l) 0 (by omega) (by omega) (words_isW l hb)
 have hn := norm_addw (words l) 0 (by omega) (by omega) (words_isW l hb)
 have hp := norm_range _ (isum_nonneg _ (words_isW l hb))
 unfold sum_Of.f
 rw [add_eq 0 l hb hl (by omega) (by omega) k hk]
 simp only [Option.bind_some]
 rw [fold_eq _ hr.1 hr.2 k hk3, hn, Int.zero_add]
 simp only [Option.bind_some]
 rw [show (IntKind.u16.max : Int) = 65535 from rfl, not_u16 hp.1 hp.2]
 rfl
end Go.Proofs.Ytkmimamminddiaa.SumEq

/- Bytes of packets: what the proofs of the laws on packets share. -/
namespace Go.Proofs.Ytkmimamminddiaa.Pure
set_option linter.unusedVariables false
set_option linter.unusedSimpArgs false
open Go.RowKit Go.Proofs.Ytkmimamminddiaa.PB Go.Proofs.YtkmimamminddiaaW.PrintWords Go.Proofs.YtkmimamminddiaaW.PrintLast
open Go.Proofs.Ytkmimamminddiaa.Spec Go.Proofs.Ytkmimamminddiaa.BytesEq Go.Proofs.Ytkmimamminddiaa.SumEq

/-- a header's first twenty bytes, with the checksum x -/
def ihd (a t pr i fl of_ s d : Int) (o l : List Int) (x : Int) : List Int := [64 + (20 + (o.length : Int)) / 4, a, (20 + (o.length : Int) + (l.length : Int)) / 256 % 256, (20 + (o.length : Int) + (l.length : Int)) % 256, i / 256 % 256, i % 256, (fl * 8192 + of_) / 256 % 256, (fl * 8192 + of_) % 256, t, pr, x / 256 % 256, x % 256, s / 16777216 % 256, s / 65536 % 256, s / 256 % 256, s % 256, d / 16777216 % 256, d / 65536 % 256, d / 256 % 256, d % 256]
theorem ihd_length (a t pr i fl of_ s d : Int) (o l : List Int) (x : Int) : (ihd a t pr i fl of_ s d o l x).length = 20 := rfl
/-- its checksum -/
def ick (a t pr i fl of_ s d : Int) (o l : List Int) : Int := ck (ihd a t pr i fl of_ s d o l 0 ++ o)
def ibytes (a t pr i fl of_ s d : Int) (o l : List Int) : List Int := ihd a t pr i fl of_ s d o l (ick a t pr i fl of_ s d o l) ++ o ++ l
def iwrong (fl of_ : Int) (o : List Int) : Prop := (o.length : Int) % 4 ≠ 0 ∨ (o.length : Int) > 40 ∨ fl > 7 ∨ of_ > 8191
instance (fl of_ : Int) (o : List Int) : Decidable (iwrong fl of_ o) := inferInstanceAs (Decidable (_ ∨ _))
def iout (a t pr i fl of_ s d : Int) (o l : List Int) : List Int × Int := if iwrong fl of_ o then ([], 21) else if 20 + (o.length : Int) + (l.length : Int) > 65535 then ([], 23) else (ibytes a t pr i fl of_ s d o l, 0)
section
variable {a t pr i fl of_ s d : Int} {o l : List Int}
theorem ihd_isB (ha : 0 ≤ a ∧ a ≤ 255) (ht : 0 ≤ t ∧ t ≤ 255) (hp : 0 ≤ pr ∧ pr ≤ 255) (ho : (o.length : Int) ≤ 40) (x : Int) : IsB (ihd a t pr i fl of_ s d o l x) := by
 unfold ihd
 repeat (first | exact .nil | refine .cons (by omega) ?_)
theorem ibytes_fin (ha : 0 ≤ a ∧ a ≤ 255) (ht : 0 ≤ t ∧ t ≤ 255) (hp : 0 ≤ pr ∧ pr ≤ 255) (ho : IsB o) (h40 : (o.length : Int) ≤ 40) (hl : l.length ≤ 1000000000) (k : Nat) (hk : 100 ≤ k) {H : List Int} (hH : H = ihd a t pr i fl of_ s d o l 0) :
  ip_Bytes.l0 (k + 1) H [s, d] 2 2 a t pr i fl of_ s d o l = some (ibytes a t pr i fl of_ s d o l, 0) := by
 subst hH
 have hn : (ihd a t pr i fl of_ s d o l 0 ++ o).length = 20 + o.length := by rw [List.length_append, ihd_length]
 have hset : ((ihd a t pr i fl of_ s d o l 0 ++ o).set (10 : Int).toNat (ick a t pr i fl of_ s d o l / 256 % 256)).set (11 : Int).toNat (ick a t pr i fl of_ s d o l % 256) = ihd a t pr i fl of_ s d o l (ick a t pr i fl of_ s d o l) ++ o := rfl
 have hof : sum_Of.f k (ihd a t pr i fl of_ s d o l 0 ++ o) = some (ick a t pr i fl of_ s d o l) := of_eq _ ((ihd_isB ha ht hp h40 0).append ho) (by rw [hn]; omega) k (by rw [hn]; omega) (by omega)
 have hn2 : (ihd a t pr i fl of_ s d o l (ick a t pr i fl of_ s d o l) ++ o).length = 20 + o.length := by rw [List.length_append, ihd_length]
 rw [ip_Bytes.l0, if_neg (by omega), if_pos (by rw [ihd_length]; omega), Option.bind_some, hof, Option.bind_some, if_pos (by rw [hn]; omega), if_pos (by rw [hn]; omega), Option.bind_some, hset, if_pos (by rw [hn2]; omega)]
 rfl
theorem ior (h4 : (o.length : Int) % 4 = 0) (h40 : (o.length : Int) ≤ 40) : Go.bits .or .u8 64 ((wrap64 (Int.tdiv (20 + (o.length : Int)) 4)) % 256) = 64 + (20 + (o.length : Int)) / 4 := by
 have e : (wrap64 (Int.tdiv (20 + (o.length : Int)) 4)) % 256 = (20 + (o.length : Int)) / 4 := by
  rw [Int.tdiv_eq_ediv_of_nonneg (by omega), wrap64_id (by omega) (by omega)]; omega
 rw [e]
 exact or_u8 6 (by omega) (by omega) (by omega) (by omega) (by omega) (by omega)
theorem ibits (hf : 0 ≤ fl ∧ fl ≤ 7) (ho : 0 ≤ of_ ∧ of_ ≤ 8191) : Go.bits .or .u16 (IntKind.u16.wrap ((IntKind.u16.wrap fl) * 8192)) of_ = fl * 8192 + of_ := by
 rw [u16w (n := fl) (by omega) (by omega), u16w (n := fl * 8192) (by omega) (by omega)]
 exact or_u16 13 (by omega) (by omega) (by omega) (by omega) (by omega) (by omega)
theorem ibytes_eq (ha : 0 ≤ a ∧ a ≤ 255) (ht : 0 ≤ t ∧ t ≤ 255) (hp : 0 ≤ pr ∧ pr ≤ 255) (hf : 0 ≤ fl) (hg : 0 ≤ of_) (ho : IsB o) (hol : o.length ≤ 1000000000) (hl : l.length ≤ 1000000000) (k : Nat) (hk : 200 ≤ k) : ip_Bytes.f k a t pr i fl of_ s d o l = some (iout a t pr i fl of_ s d o l) := by
 obtain ⟨k, rfl⟩ : ∃ j, k = j + 5 := ⟨k - 5, by omega⟩
 have w1 : wrap64 (20 + (o.length : Int)) = 20 + (o.length : Int) := wrap64_id (by omega) (by omega)
 unfold ip_Bytes.f
 rw [w1]
 by_cases cw : iwrong fl of_ o
 ·have hx : iout a t pr i fl of_ s d o l = ([], 21) := by unfold iout; rw [if_pos cw]
  rw [hx]
  by_cases c1 : (o.length : Int) % 4 = 0
  ·rw [if_pos c1]
   by_cases c2 : (o.length : Int) > 40
   ·rw [if_pos c2, ip_Bytes.j0, if_pos rfl]
   ·rw [if_neg c2]
    by_cases c3 : fl > 7
    ·rw [if_pos c3, ip_Bytes.j0, if_pos rfl]
    ·have c4 : of_ > 8191 := by unfold iwrong at cw; omega
     rw [if_neg c3, decide_eq_true c4, ip_Bytes.j0, if_pos rfl]
  ·rw [if_neg c1, ip_Bytes.j0, if_pos rfl]
 ·have cx : (o.length : Int) % 4 = 0 ∧ (o.length : Int) ≤ 40 ∧ fl ≤ 7 ∧ of_ ≤ 8191 := by unfold iwrong at cw; omega
  obtain ⟨x1, x2, x3, x4⟩ := cx
  have w2 : wrap64 (65535 - (20 + (o.length : Int))) = 65535 - (20 + (o.length : Int)) := wrap64_id (by omega) (by omega)
  rw [if_pos x1, if_neg (by omega), if_neg (by omega), decide_eq_false (by omega), ip_Bytes.j0, if_neg (by decide), w2]
  unfold iout
  rw [if_neg cw]
  by_cases c5 : 20 + (o.length : Int) + (l.length : Int) > 65535
  ·rw [if_pos (by omega), if_pos c5]
  ·rw [if_neg (by omega), if_neg c5, Option.bind_some]
   have w3 : wrap64 (20 + (o.length : Int) + (l.length : Int)) = 20 + (o.length : Int) + (l.length : Int) := wrap64_id (by omega) (by omega)
   have hlen : (([s, d] : List Int).length : Int) = 2 := rfl
   have r0 : rd [s, d] 0 = s := rfl
   have r1 : rd [s, d] 1 = d := rfl
   have n1 : wrap64 (0 + 1) = 1 := wrap64_id (by omega) (by omega)
   have n2 : wrap64 (1 + 1) = 2 := wrap64_id (by omega) (by omega)
   rw [ior x1 x2, ibits ⟨hf, x3⟩ ⟨hg, x4⟩, w3, hlen]
   rw [ip_Bytes.l0, if_pos (by omega), if_pos (by omega), hlen, if_pos (by omega), r0, Option.bind_some, if_pos (by simp), n1]
   rw [ip_Bytes.l0, if_pos (by omega), if_pos (by omega), hlen, if_pos (by omega), r1, Option.bind_some, if_pos (by simp), n2]
   exact ibytes_fin ha ht hp ho x2 hl _ (by omega) rfl
/-- the header's sum, its checksum in it -/
theorem ihd_sum (ha : 0 ≤ a ∧ a ≤ 255) (ht : 0 ≤ t ∧ t ≤ 255) (hp : 0 ≤ pr ∧ pr ≤ 255) (ho : IsB o) (h40 : (o.length : Int) ≤ 40) : norm (isum (words (ihd a t pr i fl of_ s d o l (ick a t pr i fl of_ s d o l) ++ o))) = 65535 := by
 have hB := (ihd_isB (i := i) (fl := fl) (of_ := of_) (s := s) (d := d) (l := l) ha ht hp h40 0).append ho
 have hr := ck_range _ hB
 have hS := isum_nonneg _ (words_isW _ hB)
 have hn : (ihd a t pr i fl of_ s d o l 0 ++ o).length = 20 + o.length := by rw [List.length_append, ihd_length]
 have hc := isum_change (ihd a t pr i fl of_ s d o l 0 ++ o) 5 (ick a t pr i fl of_ s d o l / 256 % 256) (ick a t pr i fl of_ s d o l % 256) (by rw [hn]; omega)
 have hset : ((ihd a t pr i fl of_ s d o l 0 ++ o).set (2 * 5) (ick a t pr i fl of_ s d o l / 256 % 256)).set (2 * 5 + 1) (ick a t pr i fl of_ s d o l % 256) = ihd a t pr i fl of_ s d o l (ick a t pr i fl of_ s d o l) ++ o := rfl
 have hw : wordAt (ihd a t pr i fl of_ s d o l 0 ++ o) 5 = 0 / 256 % 256 * 256 + 0 % 256 := rfl
 rw [hset, hw] at hc
 have hx : ick a t pr i fl of_ s d o l = 65535 - norm (isum (words (ihd a t pr i fl of_ s d o l 0 ++ o))) := rfl
 have hr' : 0 ≤ ick a t pr i fl of_ s d o l ∧ ick a t pr i fl of_ s d o l ≤ 65535 := hr
 have he : ick a t pr i fl of_ s d o l / 256 % 256 * 256 + ick a t pr i fl of_ s d o l % 256 = ick a t pr i fl of_ s d o l := by omega
 rw [hc, he, hx]
 have := stands hS
 rw [show isum (words (ihd a t pr i fl of_ s d o l 0 ++ o)) - (0 / 256 % 256 * 256 + 0 % 256) + (65535 - norm (isum (words (ihd a t pr i fl of_ s d o l 0 ++ o)))) = isum (words (ihd a t pr i fl of_ s d o l 0 ++ o)) + (65535 - norm (isum (words (ihd a t pr i fl of_ s d o l 0 ++ o)))) from by omega]
 exact this
theorem ihead_bytes (x : Int) (m : List Int) (h40 : (o.length : Int) ≤ 40) (h4 : (o.length : Int) % 4 = 0) : ihead (ihd a t pr i fl of_ s d o l x ++ m) = 20 + (o.length : Int) := by
 have e0 : (ihd a t pr i fl of_ s d o l x ++ m).getD 0 0 = 64 + (20 + (o.length : Int)) / 4 := rfl
 unfold ihead
 rw [e0]; omega
theorem g2_bytes (x : Int) (m : List Int) (hn : 20 + (o.length : Int) + (l.length : Int) ≤ 65535) : g16 (ihd a t pr i fl of_ s d o l x ++ m) 2 = 20 + (o.length : Int) + (l.length : Int) := by
 have e2 : g16 (ihd a t pr i fl of_ s d o l x ++ m) 2 = (20 + (o.length : Int) + (l.length : Int)) / 256 % 256 * 256 + (20 + (o.length : Int) + (l.length : Int)) % 256 := rfl
 rw [e2]; omega
theorem iseg_bytes (ha : 0 ≤ a ∧ a ≤ 255) (ht : 0 ≤ t ∧ t ≤ 255) (hp : 0 ≤ pr ∧ pr ≤ 255) (hi : 0 ≤ i ∧ i ≤ 65535) (hf : 0 ≤ fl ∧ fl ≤ 7) (hg : 0 ≤ of_ ∧ of_ ≤ 8191) (hs : 0 ≤ s ∧ s ≤ 4294967295) (hd : 0 ≤ d ∧ d ≤ 4294967295) (ho : IsB o) (h40 : (o.length : Int) ≤ 40) (h4 : (o.length : Int) % 4 = 0) (hn : 20 + (o.length : Int) + (l.length : Int) ≤ 65535) (m : List Int) :
  iseg (ibytes a t pr i fl of_ s d o l ++ m) = (a, t, pr, i, fl, of_, s, d, o, l, 0) := by
 obtain ⟨x, hx⟩ : ∃ x, x = ick a t pr i fl of_ s d o l := ⟨_, rfl⟩
 have hsum := ihd_sum (i := i) (fl := fl) (of_ := of_) (s := s) (d := d) (l := l) ha ht hp ho h40
 unfold ibytes
 rw [← hx] at hsum ⊢
 clear hx
 rw [List.append_assoc, List.append_assoc]
 have hH := ihd_length a t pr i fl of_ s d o l x
 have eh := ihead_bytes (a := a) (t := t) (pr := pr) (i := i) (fl := fl) (of_ := of_) (s := s) (d := d) (l := l) x (o ++ (l ++ m)) h40 h4
 have eg := g2_bytes (a := a) (t := t) (pr := pr) (i := i) (fl := fl) (of_ := of_) (s := s) (d := d) (o := o) (l := l) x (o ++ (l ++ m)) hn
 have e0 : (ihd a t pr i fl of_ s d o l x ++ (o ++ (l ++ m))).getD 0 0 = 64 + (20 + (o.length : Int)) / 4 := rfl
 have hL : (ihd a t pr i fl of_ s d o l x ++ (o ++ (l ++ m))).length = 20 + o.length + l.length + m.length := by rw [List.length_append, List.length_append, List.length_append, hH]; omega
 have t1 : (20 + (o.length : Int)).toNat = (ihd a t pr i fl of_ s d o l x).length + o.length := by rw [hH]; omega
 have t2 : (20 + (o.length : Int) + (l.length : Int)).toNat = (ihd a t pr i fl of_ s d o l x).length + (o.length + l.length) := by rw [hH]; omega
 have k1 : (ihd a t pr i fl of_ s d o l x ++ (o ++ (l ++ m))).take (20 + (o.length : Int)).toNat = ihd a t pr i fl of_ s d o l x ++ o := by
  rw [t1, List.take_append, List.take_of_length_le (by omega), Nat.add_sub_cancel_left, List.take_left]
 have k2 : (ihd a t pr i fl of_ s d o l x ++ (o ++ (l ++ m))).take (20 + (o.length : Int) + (l.length : Int)).toNat = ihd a t pr i fl of_ s d o l x ++ (o ++ l) := by
  rw [t2, List.take_append, List.take_of_length_le (by omega), Nat.add_sub_cancel_left, List.take_append, List.take_of_length_le (by omega), Nat.add_sub_cancel_left, List.take_left]
 have hso : isumof (ihd a t pr i fl of_ s d o l x ++ (o ++ (l ++ m))) = 65535 := by
  unfold isumof
  rw [eh, k1]
  exact hsum
 have hodd : ¬ iodd (ihd a t pr i fl of_ s d o l x ++ (o ++ (l ++ m))) := fun h => h ⟨by rw [e0]; omega, by rw [eh]; omega, by rw [eh, eg]; omega⟩
 unfold iseg
 rw [if_neg (by rw [hL]; omega), if_neg hodd, if_neg (by rw [hL, eg]; omega), if_neg (fun h => h hso), eh, eg, k1, k2]
 have d1 : (ihd a t pr i fl of_ s d o l x ++ o).drop 20 = o := List.drop_left' hH
 have d2 : (ihd a t pr i fl of_ s d o l x ++ (o ++ l)).drop (20 + (o.length : Int)).toNat = l := by
  rw [t1, ← List.append_assoc, List.drop_left' (by rw [List.length_append])]
 rw [d1, d2]
 have b1 : (ihd a t pr i fl of_ s d o l x ++ (o ++ (l ++ m))).getD 1 0 = a := rfl
 have b8 : (ihd a t pr i fl of_ s d o l x ++ (o ++ (l ++ m))).getD 8 0 = t := rfl
 have b9 : (ihd a t pr i fl of_ s d o l x ++ (o ++ (l ++ m))).getD 9 0 = pr := rfl
 have b4 : g16 (ihd a t pr i fl of_ s d o l x ++ (o ++ (l ++ m))) 4 = i / 256 % 256 * 256 + i % 256 := rfl
 have b6 : g16 (ihd a t pr i fl of_ s d o l x ++ (o ++ (l ++ m))) 6 = (fl * 8192 + of_) / 256 % 256 * 256 + (fl * 8192 + of_) % 256 := rfl
 have b12 : g32 (ihd a t pr i fl of_ s d o l x ++ (o ++ (l ++ m))) 12 = (s / 16777216 % 256 * 256 + s / 65536 % 256) * 65536 + (s / 256 % 256 * 256 + s % 256) := rfl
 have b16 : g32 (ihd a t pr i fl of_ s d o l x ++ (o ++ (l ++ m))) 16 = (d / 16777216 % 256 * 256 + d / 65536 % 256) * 65536 + (d / 256 % 256 * 256 + d % 256) := rfl
 rw [b1, b8, b9, b4, b6, b12, b16]
 simp only [Prod.mk.injEq, and_true, true_and]
 refine ⟨?_, ?_, ?_, ?_, ?_⟩ <;> omega
theorem ibytes_isB (ha : 0 ≤ a ∧ a ≤ 255) (ht : 0 ≤ t ∧ t ≤ 255) (hp : 0 ≤ pr ∧ pr ≤ 255) (ho : IsB o) (hl : IsB l) (h40 : (o.length : Int) ≤ 40) : IsB (ibytes a t pr i fl of_ s d o l) := ((ihd_isB ha ht hp h40 _).append ho).append hl
theorem ibytes_length : (ibytes a t pr i fl of_ s d o l).length = 20 + o.length + l.length := by
 unfold ibytes
 rw [List.length_append, List.length_append, ihd_length]
end
end Go.Proofs.Ytkmimamminddiaa.Pure

/- Plain: what goes into a tunnel is read at its other end. -/
namespace Go.Proofs.Ytkmimamminddiaa.Pure
set_option linter.unusedVariables false
set_option linter.unusedSimpArgs false
open Go.RowKit Go.Proofs.Ytkmimamminddiaa.PB Go.Proofs.YtkmimamminddiaaW.PrintWords Go.Proofs.YtkmimamminddiaaW.PrintLast
open Go.Proofs.Ytkmimamminddiaa.Spec Go.Proofs.Ytkmimamminddiaa.BytesEq
theorem ebytes_isB {a0 a1 a2 a3 a4 a5 a6 a7 a8 a9 a10 a11 t : Int} {l : List Int} (h : IsB [a0, a1, a2, a3, a4, a5, a6, a7, a8, a9, a10, a11]) (hl : IsB l) : IsB (ebytes a0 a1 a2 a3 a4 a5 a6 a7 a8 a9 a10 a11 t l) := by
 intro x hx
 unfold ebytes at hx
 have hA : ∀ y, y ∈ [a0, a1, a2, a3, a4, a5, a6, a7, a8, a9, a10, a11] → 0 ≤ y ∧ y ≤ 255 := h
 rcases List.mem_append.1 hx with h1 | h1
 ·exact hA x (List.mem_append_left [a6, a7, a8, a9, a10, a11] h1)
 rcases List.mem_append.1 h1 with h1 | h1
 ·exact hA x (List.mem_append_right [a0, a1, a2, a3, a4, a5] h1)
 rcases List.mem_append.1 h1 with h1 | h1
 ·simp only [List.mem_cons, List.not_mem_nil, or_false] at h1
  rcases h1 with rfl | rfl <;> omega
 ·exact hl x h1
theorem back_pure (K : Nat) (hK : 4000 ≤ K) (V J ip vt : Int) (hV : 0 ≤ V ∧ V ≤ 65535) (hJ : 0 ≤ J ∧ J ≤ 255) (hip : 0 ≤ ip ∧ ip ≤ 4294967295) (hvt : 0 ≤ vt ∧ vt ≤ 4294967295) (p : List Int) (hp : IsB p) (hl : p.length ≤ 1400) :
  ∃ b body, laidF K [FLay.eth 2 7 J 0 0 0 2 1 0 0 0 0 2048, FLay.net V, FLay.udp 50000 4789 0, FLay.ip 0 64 17 0 2 0 ip vt, FLay.eth 2 9 J 0 0 0 2 1 0 0 0 0 2048] p = some (b, 0) ∧ insF K vt 2 9 J 0 0 0 b = some (V, p, -1) ∧ lychref1_Eth.f b = some (2, 9, J, 0, 0, 0, 2, 1, 0, 0, 0, 0, 2048, body, 0) := by
 obtain ⟨b1, hb1⟩ : ∃ b1, b1 = ebytes 2 7 J 0 0 0 2 1 0 0 0 0 2048 p := ⟨_, rfl⟩
 have l1 : b1.length = 14 + p.length := by rw [hb1]; exact ebytes_length
 have i1 : IsB b1 := by
  rw [hb1]
  refine ebytes_isB (fun x hx => ?_) hp
  simp only [List.mem_cons, List.not_mem_nil, or_false] at hx
  omega
 have s1 : frames_ethernet_bytes.f K 2 7 J 0 0 0 2 1 0 0 0 0 2048 [] p = some (b1, 0) := by
  unfold frames_ethernet_bytes.f
  rw [ebytes_eq (by omega) K (by omega), Option.bind_some]
  unfold eout
  rw [if_neg (by omega), hb1]
 obtain ⟨b2, hb2⟩ : ∃ b2, b2 = [8, 0, 0, 0, V / 65536 % 256, V / 256 % 256, V % 256, 0] ++ b1 := ⟨_, rfl⟩
 have l2 : b2.length = 8 + b1.length := by rw [hb2, List.length_append]; rfl
 have i2 : IsB b2 := by
  rw [hb2]
  intro x hx
  rcases List.mem_append.1 hx with h1 | h1
  ·simp only [List.mem_cons, List.not_mem_nil, or_false] at h1
   omega
  ·exact i1 x h1
 have s2 : frames_network_bytes.f V b1 = some (b2, 0) := by
  unfold frames_network_bytes.f
  rw [vbytes_eq (by omega), if_neg (by omega), if_neg (by omega), Option.bind_some, hb2]
 obtain ⟨b3, hb3⟩ : ∃ b3, b3 = ubytes 50000 4789 0 b2 := ⟨_, rfl⟩
 have l3 : b3.length = 8 + b2.length := by rw [hb3]; exact ubytes_length _ _ _ _
 have i3 : IsB b3 := by rw [hb3]; exact ubytes_isB i2
 have s3 : frames_datagram_bytes.f 50000 4789 0 [] b2 = some (b3, 0) := by
  unfold frames_datagram_bytes.f
  rw [ubytes_eq _ _ _ (by omega), if_neg (by omega), Option.bind_some, hb3]
 obtain ⟨b4, hb4⟩ : ∃ b4, b4 = ibytes 0 64 17 0 2 0 ip vt [] b3 := ⟨_, rfl⟩
 have hnil : IsB ([] : List Int) := fun x hx => by cases hx
 have l4 : b4.length = 20 + b3.length := by rw [hb4, ibytes_length]; rfl
 have i4 : IsB b4 := by rw [hb4]; exact ibytes_isB (by omega) (by omega) (by omega) hnil i3 (by decide)
 have s4 : frames_packet_bytes.f K 0 64 17 0 2 0 ip vt [] [] b3 = some (b4, 0) := by
  unfold frames_packet_bytes.f
  rw [ibytes_eq (by omega) (by omega) (by omega) (by omega) (by omega) hnil (by decide) (by omega) K (by omega), Option.bind_some]
  unfold iout
  rw [if_neg (by unfold iwrong; simp), if_neg (by have : (([] : List Int).length : Int) = 0 := rfl; omega), hb4]
 obtain ⟨b5, hb5⟩ : ∃ b5, b5 = ebytes 2 9 J 0 0 0 2 1 0 0 0 0 2048 b4 := ⟨_, rfl⟩
 have l5 : b5.length = 14 + b4.length := by rw [hb5]; exact ebytes_length
 have i5 : IsB b5 := by
  rw [hb5]
  refine ebytes_isB (fun x hx => ?_) i4
  simp only [List.mem_cons, List.not_mem_nil, or_false] at hx
  omega
 have s5 : frames_ethernet_bytes.f K 2 9 J 0 0 0 2 1 0 0 0 0 2048 [] b4 = some (b5, 0) := by
  unfold frames_ethernet_bytes.f
  rw [ebytes_eq (by omega) K (by omega), Option.bind_some]
  unfold eout
  rw [if_neg (by omega), hb5]
 have e5 : eseg b5 = (2, 9, J, 0, 0, 0, 2, 1, 0, 0, 0, 0, 2048, b4, 0) := by rw [hb5]; exact eseg_bytes (by omega) (by omega)
 have e1 : eseg b1 = (2, 7, J, 0, 0, 0, 2, 1, 0, 0, 0, 0, 2048, p, 0) := by rw [hb1]; exact eseg_bytes (by omega) (by omega)
 have g4 : iseg b4 = (0, 64, 17, 0, 2, 0, ip, vt, [], b3, 0) := by
  have h := iseg_bytes (a := 0) (t := 64) (pr := 17) (i := 0) (fl := 2) (of_ := 0) (s := ip) (d := vt) (o := []) (l := b3) (by omega) (by omega) (by omega) (by omega) (by omega) (by omega) hip hvt hnil (by decide) (by decide) (by have : (([] : List Int).length : Int) = 0 := rfl; omega) []
  rw [List.append_nil, ← hb4] at h
  exact h
 have g3 : udg b3 = (50000, 4789, 0, b2, 0) := by rw [hb3]; exact udg_ubytes (by omega) (by omega) (by omega) (by omega)
 refine ⟨b5, b4, ?_, ?_, ?_⟩
 ·show (frames_ethernet_bytes.f K 2 7 J 0 0 0 2 1 0 0 0 0 2048 [] p).bind _ = _
  rw [s1, Option.bind_some, if_pos rfl]
  show (frames_network_bytes.f V b1).bind _ = _
  rw [s2, Option.bind_some, if_pos rfl]
  show (frames_datagram_bytes.f 50000 4789 0 [] b2).bind _ = _
  rw [s3, Option.bind_some, if_pos rfl]
  show (frames_packet_bytes.f K 0 64 17 0 2 0 ip vt [] [] b3).bind _ = _
  rw [s4, Option.bind_some, if_pos rfl]
  show (frames_ethernet_bytes.f K 2 9 J 0 0 0 2 1 0 0 0 0 2048 [] b4).bind _ = _
  rw [s5, Option.bind_some, if_pos rfl]
  rfl
 ·have hb : bodyF b5 2 9 J 0 0 0 = some (b4, -1) := by
   unfold bodyF
   rw [if_neg (by omega), eparse_eq i5 (by omega), Option.bind_some, e5]
   simp
  unfold insF
  rw [hb, Option.bind_some, if_pos rfl, iparse_eq i4 (by omega) K (by omega), Option.bind_some, g4]
  show (if (0 : Int) = 0 ∧ vt = vt ∧ (17 : Int) = 17 ∧ Go.bits .and .u8 2 1 = 0 ∧ (0 : Int) = 0 then _ else _) = _
  rw [if_pos ⟨rfl, rfl, rfl, by decide +kernel, rfl⟩, uparse_eq i3 (by omega), Option.bind_some, g3]
  show (if (0 : Int) = 0 ∧ (4789 : Int) = 4789 then _ else _) = _
  rw [if_pos ⟨rfl, rfl⟩]
  have hr : udp_Right.f K ip vt 50000 4789 0 b2 = some true := by
   unfold udp_Right.f
   rw [if_pos rfl]
  rw [hr, Option.bind_some, if_pos rfl, vparse_eq i2 (by omega), if_neg (by omega)]
  have h0 : b2.getD 0 0 = 8 := by rw [hb2]; rfl
  have h4 : b2.getD 4 0 = V / 65536 % 256 := by rw [hb2]; rfl
  have h5 : b2.getD 5 0 = V / 256 % 256 := by rw [hb2]; rfl
  have h6 : b2.getD 6 0 = V % 256 := by rw [hb2]; rfl
  have h8 : b2.drop 8 = b1 := by rw [hb2]; rfl
  rw [h0, if_neg (by decide +kernel), h4, h5, h6, h8, show (V / 65536 % 256 * 256 + V / 256 % 256) * 256 + V % 256 = V by omega, Option.bind_some]
  show (if (0 : Int) = 0 then _ else _) = _
  rw [if_pos rfl, eparse_eq i1 (by omega), Option.bind_some, e1]
  show (if (0 : Int) = 0 ∧ (2048 : Int) = 2048 then _ else _) = _
  rw [if_pos ⟨rfl, rfl⟩]
 ·rw [reparse_eq i5 (by omega), e5]
end Go.Proofs.Ytkmimamminddiaa.Pure

namespace Go.Proofs.Ytkmimamminddiaa.PB
open Go.RowKit Go.Proofs.YtkmimamminddiaaW.PrintWords Go.Proofs.YtkmimamminddiaaW.PrintLast Go.Proofs.YtkmimamminddiaaW.PrintMore
set_option linter.unusedVariables false
set_option linter.unusedSimpArgs false
open Go.Proofs.Ytkmimamminddiaa.Spec Go.Proofs.Ytkmimamminddiaa.Pure Go.Proofs.Ytkmimamminddiaa.BytesEq
theorem flat_get : ∀ (fs : List (List Value)), (∀ cs ∈ fs, cs.length = 33) → ∀ (j : Nat) (cs : List Value), fs[j]? = some cs → ∀ (i : Nat) (v : Value), cs[i]? = some v → fs.flatten[j * 33 + i]? = some v
 | [], _, j, cs, hj, i, v, hv => by simp at hj
 | c :: fs, h, 0, cs, hj, i, v, hv => by
  simp only [List.getElem?_cons_zero, Option.some.injEq] at hj
  subst hj
  have hi : i < c.length := by
   rcases Nat.lt_or_ge i c.length with h1 | h1
   ·exact h1
   ·rw [List.getElem?_eq_none h1] at hv
    cases hv
  rw [List.flatten_cons, Nat.zero_mul, Nat.zero_add, List.getElem?_append_left hi, hv]
 | c :: fs, h, j + 1, cs, hj, i, v, hv => by
  have hc : c.length = 33 := h c (by simp)
  rw [List.flatten_cons, List.getElem?_append_right (by omega), show (j + 1) * 33 + i - c.length = j * 33 + i by omega]
  exact flat_get fs (fun x hx => h x (by simp [hx])) j cs (by simpa using hj) i v hv
theorem bk_vt : ∀ (j : Nat), j < 4 → ∀ (vt : Int), lychseat_Addr.f 10 9 0 (((j : Int) + 1) % 256) = some vt → 0 ≤ vt ∧ vt ≤ 4294967295
 | 0, _, vt, h => by
  have h1 : lychseat_Addr.f 10 9 0 ((((0 : Nat) : Int) + 1) % 256) = some 168361985 := by kernel_rfl
  rw [h1] at h
  injection h with h
  omega
 | 1, _, vt, h => by
  have h1 : lychseat_Addr.f 10 9 0 ((((1 : Nat) : Int) + 1) % 256) = some 168361986 := by kernel_rfl
  rw [h1] at h
  injection h with h
  omega
 | 2, _, vt, h => by
  have h1 : lychseat_Addr.f 10 9 0 ((((2 : Nat) : Int) + 1) % 256) = some 168361987 := by kernel_rfl
  rw [h1] at h
  injection h with h
  omega
 | 3, _, vt, h => by
  have h1 : lychseat_Addr.f 10 9 0 ((((3 : Nat) : Int) + 1) % 256) = some 168361988 := by kernel_rfl
  rw [h1] at h
  injection h with h
  omega
 | n + 4, h, _, _ => by omega
theorem bk_bits : ∀ (j : Nat), j < 4 → Go.bits .and .u32 ((100 + (j : Int)) % 4294967296) 16777215 = (100 + (j : Int)) % 4294967296
 | 0, _ => by decide +kernel
 | 1, _ => by decide +kernel
 | 2, _ => by decide +kernel
 | 3, _ => by decide +kernel
 | n + 4, h => by omega
def framesBack.R6.T : Bool × List (List Nat × List Nat) := (true, [([], []), ([0], [0]), ([], []), ([2], [2]), ([], []), ([4], [4]), ([5], [5]), ([3, 6], [3, 6]), ([1, 7], [1, 7]), ([8], [8]), ([], []), ([10, 9, 0, 1, 2, 3, 4, 5, 6, 7, 8, 9, 10], [9, 10])])
theorem framesBack.R6.tab : rtab .any (opsOf Try.f5 6) = framesBack.R6.T := by kernel_rfl
theorem framesBack.R6.bits : waitsOk framesBack.R6.T.2 [0, 1, 0, 4, 0, 16, 48, 124, 255, 511, 0, 2047] = true := by kernel_rfl
set_option maxHeartbeats 40000000 in
set_option maxRecDepth 100000 in
theorem framesBack.calls (A0 : Option Addr) (c0 : Nat) (l0 : List Int) (n : Int) (A2 : Option Addr) (c2 : Nat) (l2 : List Int) (w : World) (hr0 : Kd.C (Kd.int .u16) w A0 l0.length l0) (hw0 : ∀ x ∈ l0, 0 ≤ x ∧ x ≤ 65535) (hn : 0 ≤ n ∧ n ≤ 255) (hr2 : Kd.C (Kd.int .u8) w A2 l2.length l2) (hc2 : l2.length ≤ c2) (hb2 : IsB l2) :
  Calls Try.prog 5 #[.slice A0 l0.length c0, .int .u8 n, .slice A2 l2.length c2] w fun e w' => e = .returned (.bool true) ∧ Below w.heap.size w w' := by
 have hu33 := Try.underlying33
 have hu29 := Try.underlying29
 have hu48 := Try.underlying48
 have HR := Aside0.mk hr0
 have HW := Aside0.mk hw0
 have HP := Aside0.mk hr2
 have HC2 := Aside0.mk hc2
 have HIB := Aside0.mk hb2
 have HNN := Aside0.mk hn
 have HB := Aside0.mk (Below.refl w.heap.size w)
 have HI : Aside0 ((Try.prog.info? 33).map (·.size) = some 29) := ⟨by kernel_rfl⟩
 have HI48 : Aside0 ((Try.prog.info? 48).map (·.size) = some 33) := ⟨by kernel_rfl⟩
 clear hr0 hw0 hr2 hc2 hb2 hn
 obtain ⟨nk, hnk⟩ : ∃ nk, nk = l0.length := ⟨_, rfl⟩
 have HNK := Aside0.mk hnk
 rw [← hnk]
 obtain ⟨np, hnp⟩ : ∃ np, np = l2.length := ⟨_, rfl⟩
 have HNP := Aside0.mk hnp
 rw [← hnp]
 clear hnk hnp
 go_enter Try.func5, Try.ntmps5
 go_wp2_with fail
 refine (known22.calls _).mono ?_
 rintro e w2 ⟨rfl, hb⟩
 have n_HB := Aside0.mk (below_step HB.out hb)
 have n_HR := Aside0.mk (Kd.C_below HR.out hb)
 have n_HP := Aside0.mk (Kd.C_below HP.out hb)
 clear HB HR HP
 have HB := n_HB
 have HR := n_HR
 have HP := n_HP
 clear n_HB n_HR n_HP
 clear hb
 by_cases c1 : (1400 : Int) < (np : Int)
 ·have k1a : decide ((1400 : Int) < (np : Int)) = true := decide_eq_true (c1)
  have k1b : ((1400 : Int) < (np : Int)) = True := eq_true (c1)
  (try dsimp only)
  go_wp2
  (try simp only [Exit.inBlock, Exit.then])
  go_ret
  exact ⟨rfl, HB.out⟩
 ·have k1a : decide ((1400 : Int) < (np : Int)) = false := decide_eq_false (c1)
  have k1b : ((1400 : Int) < (np : Int)) = False := eq_false (c1)
  by_cases g2 : (nk : Int) = 0
  ·have k2 : ((nk : Int) == 0) = true := beq_iff_eq.2 g2
   (try dsimp only)
   go_wp2
   (try simp only [Exit.inBlock, Exit.then])
   go_ret
   exact ⟨rfl, HB.out⟩
  ·have k2 : ((nk : Int) == 0) = false := beq_eq_false_iff_ne.2 g2
   by_cases c3 : (4 : Int) < (nk : Int)
   ·have k3a : decide ((4 : Int) < (nk : Int)) = true := decide_eq_true (c3)
    have k3b : ((4 : Int) < (nk : Int)) = True := eq_true (c3)
    (try dsimp only)
    go_wp2
    (try simp only [Exit.inBlock, Exit.then])
    go_ret
    exact ⟨rfl, HB.out⟩
   ·have k3a : decide ((4 : Int) < (nk : Int)) = false := decide_eq_false (c3)
    have k3b : ((4 : Int) < (nk : Int)) = False := eq_false (c3)
    have HN1 : Aside0 (0 < nk) := ⟨by omega⟩
    have HN4 : Aside0 (nk ≤ 4) := ⟨by omega⟩
    have c1 := HNP.out ▸ c1
    go_wp2_with fail
    rw [HNK.out]
    refine (seat_Config.calls A0 c0 l0 168362184 kn_ip _ HR.out HW.out).mono ?_
    rintro e w3 ⟨A, n0_, c, fs, hn0, rfl, ho, hfs, hb⟩
    obtain rfl : nk = n0_ := by have := HNK.out; have := HN4.out; omega
    obtain ⟨tb, cp_, hv, _, _⟩ := ho.form (by have := HN1.out; omega)
    injection hv with h1 h2 h3
    subst h1
    obtain ⟨j, hj⟩ : ∃ j : Nat, (j : Int) = Int.tmod n (nk : Int) := ⟨(Int.tmod n (nk : Int)).toNat, Int.toNat_of_nonneg (Int.tmod_nonneg _ HNN.out.1)⟩
    have hjn : j < nk := by
     have h5 : Int.tmod n (nk : Int) < (nk : Int) := Int.tmod_lt_of_pos _ (by have := HN1.out; omega)
     omega
    have hj4 : j < 4 := by have := HN4.out; omega
    obtain ⟨cs, hcs⟩ : ∃ cs, fs[j]? = some cs := ⟨fs[j]'(by rw [hfs.1]; exact hjn), List.getElem?_eq_getElem _⟩
    have hlen : ∀ x ∈ fs, x.length = 33 := fun x hx => by
     obtain ⟨i, hi, he⟩ := List.getElem_of_mem hx
     exact (hfs.2 i x (by rw [List.getElem?_eq_getElem hi, he])).len
    have RNG0 : Aside0 (w3.rangeAt tb (j * 33) cs) := ⟨fun i v hv => by
     have h4 := ho.cells (g := tb) rfl (j * 33 + i) v (flat_get fs hlen j cs hcs i v hv)
     rw [add_at_] at h4

     exact h4⟩
    obtain ⟨nm, vt, lo, hi, fl, se, qu, ra, bu, A3, A27, A28, n3, c3, n27, c27, n28, c28, hvt, rfl⟩ := hfs.2 j cs hcs
    obtain ⟨V, hV⟩ : ∃ V : Int, V = (100 + (j : Int)) % 4294967296 := ⟨_, rfl⟩
    obtain ⟨K8, hK8⟩ : ∃ K8 : Int, K8 = ((j : Int) + 1) % 256 := ⟨_, rfl⟩
    obtain ⟨J, hJ⟩ : ∃ J : Int, J = (j : Int) % 256 := ⟨_, rfl⟩
    rw [← hV, ← hK8, ← hJ] at RNG0
    have hVb := bk_bits j hj4
    rw [← hV] at hVb
    obtain ⟨b, bd, hb1, hb2, hb3⟩ := back_pure 4000 (Nat.le_refl _) V J 168362184 vt (by omega) (by omega) (by decide) (bk_vt j hj4 vt hvt) l2 HIB.out (by have := c1; omega)
    have HL1 : Aside0 (laidF 4000 [FLay.eth 2 7 J 0 0 0 2 1 0 0 0 0 2048, FLay.net (Go.bits .and .u32 V 16777215), FLay.udp 50000 4789 0, FLay.ip 0 64 17 0 2 0 168362184 vt, FLay.eth 2 9 J 0 0 0 2 1 0 0 0 0 2048] l2 = some (b, 0)) := ⟨by rw [hVb]; exact hb1⟩
    have HL2 := Aside0.mk hb2
    have HL3 := Aside0.mk hb3
    have HJ7 : Aside0 (Value.int .i64 (Int.tmod n (nk : Int)) = .int .i64 (j : Int)) := ⟨by rw [hj]⟩
    have HZ7 : Aside0 (¬ nk = 0) := ⟨by have := HN1.out; omega⟩
    have HWN : Aside0 (wrap64 n = n) := ⟨by have := HNN.out; unfold wrap64; omega⟩
    have HJ8 : Aside0 (((j : Int) < (nk : Int)) = True) := ⟨eq_true (by omega)⟩
    have HJN := Aside0.mk hjn
    have RNG := RNG0
    have n_HB := Aside0.mk (below_step HB.out hb)
    have n_HP := Aside0.mk (Kd.C_below HP.out hb)
    clear HB HP ho hfs hvt hb hn0 hb1 hb2 hb3 hVb hV hK8 hJ hlen hcs RNG0 hj h2 h3 HIB
    have HB := n_HB
    have HP := n_HP
    clear n_HB n_HP
    (try dsimp only)
    go_upto_region 6 with (((refine event_skip rfl rfl (store_new rfl rfl rfl HI.out rfl (by simp [Value.oneCell'])) ?_)))
    obtain ⟨gc, hgc⟩ : ∃ x_, x_ = w3.heap.size := ⟨_, rfl⟩
    have HT : Aside0 ((w3.alloc (.cells #[.int .u32 168362184, .int .u8 2, .int .u8 1, .int .u8 0, .int .u8 0, .int .u8 0, .int .u8 0, .int .u8 2, .int .u8 2, .int .u8 0, .int .u8 0, .int .u8 0, .int .u8 0, .int .u8 2, .int .u8 3, .int .u8 0, .int .u8 0, .int .u8 0, .int .u8 0, .int .u8 200, .int .u8 0, .int .u8 0, .int .u8 0, .int .u8 0, .int .u8 0, .int .u8 0, .int .u8 0, .int .u32 1, .slice (some ⟨tb, 0, none⟩) nk c] 33)).heap[gc]? = some (.cells #[.int .u32 168362184, .int .u8 2, .int .u8 1, .int .u8 0, .int .u8 0, .int .u8 0, .int .u8 0, .int .u8 2, .int .u8 2, .int .u8 0, .int .u8 0, .int .u8 0, .int .u8 0, .int .u8 2, .int .u8 3, .int .u8 0, .int .u8 0, .int .u8 0, .int .u8 0, .int .u8 200, .int .u8 0, .int .u8 0, .int .u8 0, .int .u8 0, .int .u8 0, .int .u8 0, .int .u8 0, .int .u32 1, .slice (some ⟨tb, 0, none⟩) nk c] 33 (0, 0))) := ⟨by rw [hgc]; exact blk_new' _ _⟩
    rw [← hgc]
    clear hgc
    have hb := below_alloc (Below.refl w3.heap.size w3) (.cells #[.int .u32 168362184, .int .u8 2, .int .u8 1, .int .u8 0, .int .u8 0, .int .u8 0, .int .u8 0, .int .u8 2, .int .u8 2, .int .u8 0, .int .u8 0, .int .u8 0, .int .u8 0, .int .u8 2, .int .u8 3, .int .u8 0, .int .u8 0, .int .u8 0, .int .u8 0, .int .u8 200, .int .u8 0, .int .u8 0, .int .u8 0, .int .u8 0, .int .u8 0, .int .u8 0, .int .u8 0, .int .u32 1, .slice (some ⟨tb, 0, none⟩) nk c] 33)
    have n_HB := Aside0.mk (below_step HB.out hb)
    have n_HP := Aside0.mk (Kd.C_below HP.out hb)
    have n_RNG := Aside0.mk (rng_bl RNG.out hb)
    clear HB HP RNG
    have HB := n_HB
    have HP := n_HP
    have RNG := n_RNG
    clear n_HB n_HP n_RNG
    clear hb
    generalize (w3.alloc (.cells #[.int .u32 168362184, .int .u8 2, .int .u8 1, .int .u8 0, .int .u8 0, .int .u8 0, .int .u8 0, .int .u8 2, .int .u8 2, .int .u8 0, .int .u8 0, .int .u8 0, .int .u8 0, .int .u8 2, .int .u8 3, .int .u8 0, .int .u8 0, .int .u8 0, .int .u8 0, .int .u8 200, .int .u8 0, .int .u8 0, .int .u8 0, .int .u8 0, .int .u8 0, .int .u8 0, .int .u8 0, .int .u32 1, .slice (some ⟨tb, 0, none⟩) nk c] 33)) = w4 at HT HB HP RNG ⊢
    refine start_ (n := 12) (S := fun w' => w'.heap[gc]? = some (.cells #[.int .u32 168362184, .int .u8 2, .int .u8 1, .int .u8 0, .int .u8 0, .int .u8 0, .int .u8 0, .int .u8 2, .int .u8 2, .int .u8 0, .int .u8 0, .int .u8 0, .int .u8 0, .int .u8 2, .int .u8 3, .int .u8 0, .int .u8 0, .int .u8 0, .int .u8 0, .int .u8 200, .int .u8 0, .int .u8 0, .int .u8 0, .int .u8 0, .int .u8 0, .int .u8 0, .int .u8 0, .int .u32 1, .slice (some ⟨tb, 0, none⟩) nk c] 33 (0, 0)) ∧ w'.rangeAt tb (j * 33) (tenC nm V K8 vt J (.slice A3 n3 c3) lo hi fl (.slice A27 n27 c27) (.slice A28 n28 c28) se qu ra bu).toList) (ds := [11]) #[false, false, false, false, false, false, false, false, false, false, false, false] (by kernel_rfl) rfl rfl ⟨HT.out, RNG.out⟩ (fun hHeld => ?_)
    refine with_tabW framesBack.R6.tab framesBack.R6.bits (fun HT_ HW_ => ?_)
    have hb := below_drew1 (Below.refl w4.heap.size w4)
    have n_HB := Aside0.mk (below_step HB.out hb)
    have n_HP := Aside0.mk (Kd.C_below HP.out hb)
    have n_HT := Aside0.mk (blk_below HT.out hb)
    have n_RNG := Aside0.mk (rng_bl RNG.out hb)
    clear HB HP HT RNG
    have HB := n_HB
    have HP := n_HP
    have HT := n_HT
    have RNG := n_RNG
    clear n_HB n_HP n_HT n_RNG
    clear hb
    generalize w4.drew = w4 at HB HP HT RNG hHeld ⊢
    refine pure_ (i := 0) (N := some 34) (v := ?_) (a' := ?_) #[true, false, false, false, false, false, false, false, false, false, false, false] rfl rfl (any_of HT_.out (by kernel_rfl)) (fun _ _ _ h => h) (Or.inl ⟨by rfl, ?_⟩) ?_ ?_
    rotate_left
    ·intro w'
     go_simp
     with_reducible rfl
    rotate_left
    ·simp only [Act.put, List.setIfInBounds_toArray, List.set_cons_zero, List.set_cons_succ, i64_w, i32_w]
     rfl
    refine pure_ (i := 2) (N := some 36) (v := ?_) (a' := ?_) #[true, false, true, false, false, false, false, false, false, false, false, false] rfl rfl (any_of HT_.out (by kernel_rfl)) (fun _ _ _ h => h) (Or.inl ⟨by rfl, ?_⟩) ?_ ?_
    rotate_left
    ·intro w'
     go_simp
     with_reducible rfl
    rotate_left
    ·simp only [Act.put, List.setIfInBounds_toArray, List.set_cons_zero, List.set_cons_succ, i64_w, i32_w]
     rfl
    refine pure_ (i := 3) (N := some 37) (v := ?_) (a' := ?_) #[true, false, true, true, false, false, false, false, false, false, false, false] rfl rfl (any_of HT_.out (by kernel_rfl)) (fun _ _ _ h => h) (Or.inl ⟨by rfl, ?_⟩) ?_ ?_
    rotate_left
    ·intro w'
     go_simp
     with_reducible rfl
    rotate_left
    ·simp only [Act.put, List.setIfInBounds_toArray, List.set_cons_zero, List.set_cons_succ, i64_w, i32_w]
     rfl
    refine pure_ (i := 4) (N := some 38) (v := ?_) (a' := ?_) #[true, false, true, true, true, false, false, false, false, false, false, false] rfl rfl (any_of HT_.out (by kernel_rfl)) (fun _ _ _ h => h) (Or.inl ⟨by rfl, ?_⟩) ?_ ?_
    rotate_left
    ·intro w'
     go_simp
     with_reducible rfl
    rotate_left
    ·simp only [Act.put, List.setIfInBounds_toArray, List.set_cons_zero, List.set_cons_succ, i64_w, i32_w]
     rfl
    refine take_ (i := 1) (N := some 35) (v := ?_) (a' := ?_) #[true, true, true, true, true, false, false, false, false, false, false, false] rfl rfl (take_ofW HT_.out HW_.out (by kernel_rfl)) (fun _ _ _ h => h) (Or.inl ⟨by rfl, ?_⟩) hHeld ?_ ?_
    rotate_left
    ·intro w' s0
     obtain ⟨s0, s1⟩ := s0
     have c28 := (blk_cell s0 28).trans (rfl : _ = some (Value.slice (some ⟨tb, 0, none⟩) nk c))
     go_simp
     with_reducible rfl
    rotate_left
    ·simp only [Act.put, List.setIfInBounds_toArray, List.set_cons_zero, List.set_cons_succ, i64_w, i32_w]
     rfl
    refine take_ (i := 5) (N := some 39) (v := ?_) (a' := ?_) #[true, true, true, true, true, true, false, false, false, false, false, false] rfl rfl (take_ofW HT_.out HW_.out (by kernel_rfl)) (fun _ _ _ h => h) (Or.inl ⟨by rfl, ?_⟩) hHeld ?_ ?_
    rotate_left
    ·intro w' s0
     obtain ⟨s0, s1⟩ := s0
     have c28 := (blk_cell s0 28).trans (rfl : _ = some (Value.slice (some ⟨tb, 0, none⟩) nk c))
     go_simp
     with_reducible rfl
    rotate_left
    ·simp only [Act.put, List.setIfInBounds_toArray, List.set_cons_zero, List.set_cons_succ, i64_w, i32_w]
     rfl
    refine pure_ (i := 6) (N := some 40) (v := ?_) (a' := ?_) #[true, true, true, true, true, true, true, false, false, false, false, false] rfl rfl (any_of HT_.out (by kernel_rfl)) (fun _ _ _ h => h) (Or.inl ⟨by rfl, ?_⟩) ?_ ?_
    rotate_left
    ·intro w'
     go_simp
     with_reducible rfl
    rotate_left
    ·simp only [Act.put, List.setIfInBounds_toArray, List.set_cons_zero, List.set_cons_succ, i64_w, i32_w]
     rfl
    refine pure_ (i := 7) (N := some 41) (v := ?_) (a' := ?_) #[true, true, true, true, true, true, true, true, false, false, false, false] rfl rfl (any_of HT_.out (by kernel_rfl)) (fun _ _ _ h => h) (Or.inl ⟨by rfl, ?_⟩) ?_ ?_
    rotate_left
    ·intro w'
     have z7 := HZ7.out
     have z8 := HWN.out
     go_simp
     exact HJ7.out
    rotate_left
    ·simp only [Act.put, List.setIfInBounds_toArray, List.set_cons_zero, List.set_cons_succ, i64_w, i32_w]
     rfl
    refine pure_ (i := 8) (N := some 42) (v := ?_) (a' := ?_) #[true, true, true, true, true, true, true, true, true, false, false, false] rfl rfl (any_of HT_.out (by kernel_rfl)) (fun _ _ _ h => h) (Or.inl ⟨by rfl, ?_⟩) ?_ ?_
    rotate_left
    ·intro w'
     have z7 := HJ8.out
     go_simp
     with_reducible rfl
    rotate_left
    ·simp only [Act.put, List.setIfInBounds_toArray, List.set_cons_zero, List.set_cons_succ, i64_w, i32_w]
     rfl
    refine take_ (i := 9) (N := some 43) (v := (.agg (tenC nm V K8 vt J (.slice A3 n3 c3) lo hi fl (.slice A27 n27 c27) (.slice A28 n28 c28) se qu ra bu))) #[true, true, true, true, true, true, true, true, true, true, false, false] rfl rfl (take_ofW HT_.out HW_.out (by kernel_rfl)) (fun _ _ _ h => h) (Or.inl ⟨by rfl, fun w' s0 => ?_⟩) hHeld rfl ?_
    ·obtain ⟨s0, s1⟩ := s0
     exact load_mid_ (p := .tmp 42) (ty := 48) (cs := (tenC nm V K8 vt J (.slice A3 n3 c3) lo hi fl (.slice A27 n27 c27) (.slice A28 n28 c28) se qu ra bu).toList) (by rfl) (by rfl) s1 hu48 (by rfl) HI48.out
    refine norm_ (a' := ?_) ?_ ?_
    rotate_left
    ·show Act.put _ (some 43) _ = _
     simp only [Act.put, List.setIfInBounds_toArray, List.set_cons_zero, List.set_cons_succ, i64_w, i32_w]
     rfl
    refine one_ (i := 10) (N := some 8) #[true, true, true, true, true, true, true, true, true, true, true, false] rfl rfl (one_of HT_.out (by kernel_rfl)) (by decide) (fun K hK => ?_)
    refine value_ (v := .pointer (some ⟨w4.heap.size, 0, none⟩)) (w1 := w4.alloc (.cells #[.string ⟨#[]⟩, .int .u32 0, .int .u8 0, .int .u8 0, .int .u8 0, .int .u8 0, .int .u8 0, .int .u8 0, .int .u8 0, .int .u8 0, .int .u32 0, .int .u8 0, .int .u8 0, .int .u8 0, .int .u8 0, .int .u8 0, .int .u8 0, .int .u8 0, .int .u8 0, .int .u8 0, .int .u8 0, .int .u8 0, .int .u8 0, .slice none 0 0, .int .u16 0, .int .u16 0, .int .i64 0, .slice none 0 0, .slice none 0 0, .int .i64 0, .int .i64 0, .int .u32 0, .int .u32 0] 48)) (by rfl) rfl (by go_simp) ?_
    obtain ⟨gt, hgt⟩ : ∃ x_, x_ = w4.heap.size := ⟨_, rfl⟩
    have HU0 : Aside0 ((w4.alloc (.cells #[.string ⟨#[]⟩, .int .u32 0, .int .u8 0, .int .u8 0, .int .u8 0, .int .u8 0, .int .u8 0, .int .u8 0, .int .u8 0, .int .u8 0, .int .u32 0, .int .u8 0, .int .u8 0, .int .u8 0, .int .u8 0, .int .u8 0, .int .u8 0, .int .u8 0, .int .u8 0, .int .u8 0, .int .u8 0, .int .u8 0, .int .u8 0, .slice none 0 0, .int .u16 0, .int .u16 0, .int .i64 0, .slice none 0 0, .slice none 0 0, .int .i64 0, .int .i64 0, .int .u32 0, .int .u32 0] 48)).heap[gt]? = some (.cells #[.string ⟨#[]⟩, .int .u32 0, .int .u8 0, .int .u8 0, .int .u8 0, .int .u8 0, .int .u8 0, .int .u8 0, .int .u8 0, .int .u8 0, .int .u32 0, .int .u8 0, .int .u8 0, .int .u8 0, .int .u8 0, .int .u8 0, .int .u8 0, .int .u8 0, .int .u8 0, .int .u8 0, .int .u8 0, .int .u8 0, .int .u8 0, .slice none 0 0, .int .u16 0, .int .u16 0, .int .i64 0, .slice none 0 0, .slice none 0 0, .int .i64 0, .int .i64 0, .int .u32 0, .int .u32 0] 48 (0, 0))) := ⟨by rw [hgt]; exact blk_new' _ _⟩
    rw [← hgt]
    have HGT := Aside0.mk hgt
    clear hgt
    have hb := below_alloc (Below.refl w4.heap.size w4) (.cells #[.string ⟨#[]⟩, .int .u32 0, .int .u8 0, .int .u8 0, .int .u8 0, .int .u8 0, .int .u8 0, .int .u8 0, .int .u8 0, .int .u8 0, .int .u32 0, .int .u8 0, .int .u8 0, .int .u8 0, .int .u8 0, .int .u8 0, .int .u8 0, .int .u8 0, .int .u8 0, .int .u8 0, .int .u8 0, .int .u8 0, .int .u8 0, .slice none 0 0, .int .u16 0, .int .u16 0, .int .i64 0, .slice none 0 0, .slice none 0 0, .int .i64 0, .int .i64 0, .int .u32 0, .int .u32 0] 48)
    have HBX := Aside0.mk hb
    have HT4 := HT
    have HP4 := HP
    have HB4 := HB
    have n_HB := Aside0.mk (below_step HB.out hb)
    have n_HP := Aside0.mk (Kd.C_below HP.out hb)
    have n_HT := Aside0.mk (blk_below HT.out hb)
    have n_RNG := Aside0.mk (rng_bl RNG.out hb)
    clear HB HP HT RNG
    have HB := n_HB
    have HP := n_HP
    have HT := n_HT
    have RNG := n_RNG
    clear n_HB n_HP n_HT n_RNG
    clear hb
    generalize w4.alloc (.cells #[.string ⟨#[]⟩, .int .u32 0, .int .u8 0, .int .u8 0, .int .u8 0, .int .u8 0, .int .u8 0, .int .u8 0, .int .u8 0, .int .u8 0, .int .u32 0, .int .u8 0, .int .u8 0, .int .u8 0, .int .u8 0, .int .u8 0, .int .u8 0, .int .u8 0, .int .u8 0, .int .u8 0, .int .u8 0, .int .u8 0, .int .u8 0, .slice none 0 0, .int .u16 0, .int .u16 0, .int .i64 0, .slice none 0 0, .slice none 0 0, .int .i64 0, .int .i64 0, .int .u32 0, .int .u32 0] 48) = w5 at HU0 HBX HB HP HT RNG ⊢
    refine hK.out _ _ ⟨HT.out, RNG.out⟩ (fun hHeld => ?_)
    clear hK K
    refine norm_ (a' := ?_) ?_ ?_
    rotate_left
    ·show Act.put _ (some 8) _ = _
     simp only [Act.put, List.setIfInBounds_toArray, List.set_cons_zero, List.set_cons_succ, i64_w, i32_w]
     rfl
    refine last_ (i := 11) (N := none) #[true, true, true, true, true, true, true, true, true, true, true, true] rfl rfl (one_of HT_.out (by kernel_rfl)) (by decide) (fun K hK => ?_)
    refine skip_ (w1 := w5.setRow gt (tenC nm V K8 vt J (.slice A3 n3 c3) lo hi fl (.slice A27 n27 c27) (.slice A28 n28 c28) se qu ra bu)) (by rfl) rfl (store_row (p := .tmp 8) (by rfl) (by rfl) (by rfl) HU0.out HI48.out (by rfl) (by simp [tenC, Value.oneCell'])) ?_
    have HU : Aside0 ((w5.setRow gt (tenC nm V K8 vt J (.slice A3 n3 c3) lo hi fl (.slice A27 n27 c27) (.slice A28 n28 c28) se qu ra bu)).heap[gt]? = some (.cells (tenC nm V K8 vt J (.slice A3 n3 c3) lo hi fl (.slice A27 n27 c27) (.slice A28 n28 c28) se qu ra bu) 48 (0, 0))) := ⟨setRow_heap _ gt _ _ 48 (0, 0) HU0.out⟩
    have hb := below_setRow (g := gt) HBX.out (by have := HGT.out; omega) (tenC nm V K8 vt J (.slice A3 n3 c3) lo hi fl (.slice A27 n27 c27) (.slice A28 n28 c28) se qu ra bu)
    clear HT HP HB RNG HU0 HBX HGT
    have HT := HT4
    have HP := HP4
    have HB := HB4
    clear HT4 HP4 HB4
    have n_HB := Aside0.mk (below_step HB.out hb)
    have n_HT := Aside0.mk (blk_below HT.out hb)
    have n_HP := Aside0.mk (Kd.C_below HP.out hb)
    clear HB HT HP
    have HB := n_HB
    have HT := n_HT
    have HP := n_HP
    clear n_HB n_HT n_HP
    clear hb
    generalize w5.setRow gt (tenC nm V K8 vt J (.slice A3 n3 c3) lo hi fl (.slice A27 n27 c27) (.slice A28 n28 c28) se qu ra bu) = w6 at HU HB HT HP ⊢
    refine hK.out _ _ ?_
    clear hK K
    refine done_ (done_of HT_.out (by kernel_rfl)) ?_
    clear HT_ HW_ hHeld
    (try dsimp only)
    go_wp2_with (first | (refine Kd.event_run rfl (load_row rfl rfl HT.out hu33 rfl HI.out) ?_) | (refine Kd.event_run rfl (load_row rfl rfl HU.out hu48 rfl HI48.out) ?_))
    rw [HNP.out]
    refine (frames_ToInside.calls 4000 _ _ _ _ _ _ _ _ _ _ _ _ _ _ _ _ _ _ _ _ _ _ _ _ _ _ _ _ _ _ _ _ _ _ _ _ _ _ _ _ _ _ _ _ _ _ _ _ _ _ _ _ _ _ _ _ _ _ _ _ _ _ _ _ _ _ _ _ _ _ _ _  l2 b 0 _ HP.out HC2.out HL1.out).mono ?_
    rintro e w7 ⟨v_, rfl, ho, hb⟩
    obtain ⟨Ab, cb, rfl, hcb, hkb⟩ := Kd.R_reads ho
    have HKb := Aside0.mk hkb
    have HCb := Aside0.mk hcb
    clear ho hkb hcb
    have n_HB := Aside0.mk (below_step HB.out hb)
    have n_HT := Aside0.mk (blk_below HT.out hb)
    have n_HU := Aside0.mk (blk_below HU.out hb)
    have n_HP := Aside0.mk (Kd.C_below HP.out hb)
    clear HB HT HU HP
    have HB := n_HB
    have HT := n_HT
    have HU := n_HU
    have HP := n_HP
    clear n_HB n_HT n_HU n_HP
    clear hb
    (try dsimp only)
    go_upto_region 8 with (fail)
    have gt10 : w7.cell? ⟨gt, 10, none⟩ = some (.int .u32 vt) := (blk_cell HU.out 10).trans rfl
    have gt11 : w7.cell? ⟨gt, 11, none⟩ = some (.int .u8 2) := (blk_cell HU.out 11).trans rfl
    have gt12 : w7.cell? ⟨gt, 12, none⟩ = some (.int .u8 9) := (blk_cell HU.out 12).trans rfl
    have gt13 : w7.cell? ⟨gt, 13, none⟩ = some (.int .u8 J) := (blk_cell HU.out 13).trans rfl
    have gt14 : w7.cell? ⟨gt, 14, none⟩ = some (.int .u8 0) := (blk_cell HU.out 14).trans rfl
    have gt15 : w7.cell? ⟨gt, 15, none⟩ = some (.int .u8 0) := (blk_cell HU.out 15).trans rfl
    have gt16 : w7.cell? ⟨gt, 16, none⟩ = some (.int .u8 0) := (blk_cell HU.out 16).trans rfl
    go_upto_region 9 with (((refine event_skip rfl rfl (store_new rfl rfl rfl HI.out rfl (by simp [Value.oneCell'])) ?_)))
    clear gt10 gt11 gt12 gt13 gt14 gt15 gt16
    obtain ⟨go, hgo⟩ : ∃ x_, x_ = w7.heap.size := ⟨_, rfl⟩
    have HO : Aside0 ((w7.alloc (.cells #[.int .u32 vt, .int .u8 2, .int .u8 9, .int .u8 J, .int .u8 0, .int .u8 0, .int .u8 0, .int .u8 0, .int .u8 0, .int .u8 0, .int .u8 0, .int .u8 0, .int .u8 0, .int .u8 0, .int .u8 0, .int .u8 0, .int .u8 0, .int .u8 0, .int .u8 0, .int .u8 0, .int .u8 0, .int .u8 0, .int .u8 0, .int .u8 0, .int .u8 0, .int .u8 0, .int .u8 0, .int .u32 0, .slice none 0 0] 33)).heap[go]? = some (.cells #[.int .u32 vt, .int .u8 2, .int .u8 9, .int .u8 J, .int .u8 0, .int .u8 0, .int .u8 0, .int .u8 0, .int .u8 0, .int .u8 0, .int .u8 0, .int .u8 0, .int .u8 0, .int .u8 0, .int .u8 0, .int .u8 0, .int .u8 0, .int .u8 0, .int .u8 0, .int .u8 0, .int .u8 0, .int .u8 0, .int .u8 0, .int .u8 0, .int .u8 0, .int .u8 0, .int .u8 0, .int .u32 0, .slice none 0 0] 33 (0, 0))) := ⟨by rw [hgo]; exact blk_new' _ _⟩
    rw [← hgo]
    clear hgo
    have hb := below_alloc (Below.refl w7.heap.size w7) (.cells #[.int .u32 vt, .int .u8 2, .int .u8 9, .int .u8 J, .int .u8 0, .int .u8 0, .int .u8 0, .int .u8 0, .int .u8 0, .int .u8 0, .int .u8 0, .int .u8 0, .int .u8 0, .int .u8 0, .int .u8 0, .int .u8 0, .int .u8 0, .int .u8 0, .int .u8 0, .int .u8 0, .int .u8 0, .int .u8 0, .int .u8 0, .int .u8 0, .int .u8 0, .int .u8 0, .int .u8 0, .int .u32 0, .slice none 0 0] 33)
    have n_HB := Aside0.mk (below_step HB.out hb)
    have n_HT := Aside0.mk (blk_below HT.out hb)
    have n_HU := Aside0.mk (blk_below HU.out hb)
    have n_HP := Aside0.mk (Kd.C_below HP.out hb)
    have n_HKb := Aside0.mk (Kd.C_below HKb.out hb)
    clear HB HT HU HP HKb
    have HB := n_HB
    have HT := n_HT
    have HU := n_HU
    have HP := n_HP
    have HKb := n_HKb
    clear n_HB n_HT n_HU n_HP n_HKb
    clear hb
    generalize (w7.alloc (.cells #[.int .u32 vt, .int .u8 2, .int .u8 9, .int .u8 J, .int .u8 0, .int .u8 0, .int .u8 0, .int .u8 0, .int .u8 0, .int .u8 0, .int .u8 0, .int .u8 0, .int .u8 0, .int .u8 0, .int .u8 0, .int .u8 0, .int .u8 0, .int .u8 0, .int .u8 0, .int .u8 0, .int .u8 0, .int .u8 0, .int .u8 0, .int .u8 0, .int .u8 0, .int .u8 0, .int .u8 0, .int .u32 0, .slice none 0 0] 33)) = w8 at HO HB HT HU HP HKb ⊢
    go_wp2_with (first | (refine Kd.event_run rfl (load_row rfl rfl HO.out hu33 rfl HI.out) ?_))
    refine (frames_Inside.calls 4000 _ _ _ _ _ _ _ _ _ _ _ _ _ _ _ _ _ _ _ _ _ _ _ _ _ _ _ _ _ _ _ _ _  b V l2 (-1) _ HKb.out HCb.out HL2.out).mono ?_
    rintro e w9 ⟨v_, rfl, ho, hb⟩
    obtain ⟨Aq, cq, rfl, hcq, hkq⟩ := Kd.R_reads ho
    have HKq := Aside0.mk hkq
    have HCq := Aside0.mk hcq
    clear ho hkq hcq HO
    have n_HB := Aside0.mk (below_step HB.out hb)
    have n_HT := Aside0.mk (blk_below HT.out hb)
    have n_HU := Aside0.mk (blk_below HU.out hb)
    have n_HP := Aside0.mk (Kd.C_below HP.out hb)
    have n_HKb := Aside0.mk (Kd.C_below HKb.out hb)
    clear HB HT HU HP HKb
    have HB := n_HB
    have HT := n_HT
    have HU := n_HU
    have HP := n_HP
    have HKb := n_HKb
    clear n_HB n_HT n_HU n_HP n_HKb
    clear hb
    (try dsimp only)
    go_wp2_with fail
    refine (lychref1_Eth.calls Ab cb b 2 9 J 0 0 0 2 1 0 0 0 0 2048 bd 0 _ HKb.out HCb.out HL3.out).mono ?_
    rintro e w10 ⟨v_, rfl, ho, hb⟩
    obtain ⟨Ax, cx, rfl, _, _⟩ := Kd.R_reads ho
    clear ho HKb HCb
    have n_HB := Aside0.mk (below_step HB.out hb)
    have n_HT := Aside0.mk (blk_below HT.out hb)
    have n_HU := Aside0.mk (blk_below HU.out hb)
    have n_HP := Aside0.mk (Kd.C_below HP.out hb)
    have n_HKq := Aside0.mk (Kd.C_below HKq.out hb)
    clear HB HT HU HP HKq
    have HB := n_HB
    have HT := n_HT
    have HU := n_HU
    have HP := n_HP
    have HKq := n_HKq
    clear n_HB n_HT n_HU n_HP n_HKq
    clear hb
    (try dsimp only)
    go_upto_region 11 with (((refine event_skip rfl rfl (store_new rfl rfl rfl (by kernel_rfl) rfl (by simp [Value.oneCell'])) ?_)))
    obtain ⟨ge, hge⟩ : ∃ x_, x_ = w10.heap.size := ⟨_, rfl⟩
    have HE : Aside0 ((w10.alloc (.cells #[.int .u8 2, .int .u8 9, .int .u8 J, .int .u8 0, .int .u8 0, .int .u8 0, .int .u8 2, .int .u8 1, .int .u8 0, .int .u8 0, .int .u8 0, .int .u8 0, .int .u16 2048, .slice Ax bd.length cx] 58)).heap[ge]? = some (.cells #[.int .u8 2, .int .u8 9, .int .u8 J, .int .u8 0, .int .u8 0, .int .u8 0, .int .u8 2, .int .u8 1, .int .u8 0, .int .u8 0, .int .u8 0, .int .u8 0, .int .u16 2048, .slice Ax bd.length cx] 58 (0, 0))) := ⟨by rw [hge]; exact blk_new' _ _⟩
    rw [← hge]
    clear hge
    have hb := below_alloc (Below.refl w10.heap.size w10) (.cells #[.int .u8 2, .int .u8 9, .int .u8 J, .int .u8 0, .int .u8 0, .int .u8 0, .int .u8 2, .int .u8 1, .int .u8 0, .int .u8 0, .int .u8 0, .int .u8 0, .int .u16 2048, .slice Ax bd.length cx] 58)
    have n_HB := Aside0.mk (below_step HB.out hb)
    have n_HT := Aside0.mk (blk_below HT.out hb)
    have n_HU := Aside0.mk (blk_below HU.out hb)
    have n_HP := Aside0.mk (Kd.C_below HP.out hb)
    have n_HKq := Aside0.mk (Kd.C_below HKq.out hb)
    clear HB HT HU HP HKq
    have HB := n_HB
    have HT := n_HT
    have HU := n_HU
    have HP := n_HP
    have HKq := n_HKq
    clear n_HB n_HT n_HU n_HP n_HKq
    clear hb
    generalize (w10.alloc (.cells #[.int .u8 2, .int .u8 9, .int .u8 J, .int .u8 0, .int .u8 0, .int .u8 0, .int .u8 2, .int .u8 1, .int .u8 0, .int .u8 0, .int .u8 0, .int .u8 0, .int .u16 2048, .slice Ax bd.length cx] 58)) = w11 at HE HB HT HU HP HKq ⊢
    have gt1 : w11.cell? ⟨gt, 1, none⟩ = some (.int .u32 V) := (blk_cell HU.out 1).trans rfl
    go_wp2_with fail
    refine (lychhelp_Bytes.calls Aq cq l2 A2 c2 l2 true _ HKq.out HCq.out HP.out HC2.out (bytes_refl l2)).mono ?_
    rintro e w12 ⟨rfl, ⟨nd, rfl⟩⟩
    have hb := pw_below_drewN (Below.refl w11.heap.size w11) nd
    clear gt1
    have n_HB := Aside0.mk (below_step HB.out hb)
    have n_HT := Aside0.mk (blk_below HT.out hb)
    have n_HE := Aside0.mk (blk_below HE.out hb)
    clear HB HT HE
    have HB := n_HB
    have HT := n_HT
    have HE := n_HE
    clear n_HB n_HT n_HE
    clear hb
    generalize w11.drewN nd = w12 at HB HT HE ⊢
    have ge6 : w12.cell? ⟨ge, 6, none⟩ = some (.int .u8 2) := (blk_cell HE.out 6).trans rfl
    have ge7 : w12.cell? ⟨ge, 7, none⟩ = some (.int .u8 1) := (blk_cell HE.out 7).trans rfl
    have ge8 : w12.cell? ⟨ge, 8, none⟩ = some (.int .u8 0) := (blk_cell HE.out 8).trans rfl
    have ge9 : w12.cell? ⟨ge, 9, none⟩ = some (.int .u8 0) := (blk_cell HE.out 9).trans rfl
    have ge10 : w12.cell? ⟨ge, 10, none⟩ = some (.int .u8 0) := (blk_cell HE.out 10).trans rfl
    have ge11 : w12.cell? ⟨ge, 11, none⟩ = some (.int .u8 0) := (blk_cell HE.out 11).trans rfl
    have gc1 : w12.cell? ⟨gc, 1, none⟩ = some (.int .u8 2) := (blk_cell HT.out 1).trans rfl
    have gc2 : w12.cell? ⟨gc, 2, none⟩ = some (.int .u8 1) := (blk_cell HT.out 2).trans rfl
    have gc3 : w12.cell? ⟨gc, 3, none⟩ = some (.int .u8 0) := (blk_cell HT.out 3).trans rfl
    have gc4 : w12.cell? ⟨gc, 4, none⟩ = some (.int .u8 0) := (blk_cell HT.out 4).trans rfl
    have gc5 : w12.cell? ⟨gc, 5, none⟩ = some (.int .u8 0) := (blk_cell HT.out 5).trans rfl
    have gc6 : w12.cell? ⟨gc, 6, none⟩ = some (.int .u8 0) := (blk_cell HT.out 6).trans rfl
    have heq6 : ∀ W : World, (Op.equalIn 10000 29 (.agg #[.int .u8 2, .int .u8 1, .int .u8 0, .int .u8 0, .int .u8 0, .int .u8 0]) (.agg #[.int .u8 2, .int .u8 1, .int .u8 0, .int .u8 0, .int .u8 0, .int .u8 0])).run Try.prog W = .ok true W := fun W => eth_Parse.eqi6 2 1 0 0 0 0 2 1 0 0 0 0 W
    (try dsimp only)
    go_wp2
    (try simp only [Exit.inBlock, Exit.then])
    go_ret
    exact ⟨rfl, HB.out⟩
end Go.Proofs.Ytkmimamminddiaa.PB

