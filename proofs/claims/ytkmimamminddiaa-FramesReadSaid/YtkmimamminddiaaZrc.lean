/- Texts of this claim, merged: PBx17, PBx18, PBx6, PBx19, PBx20, PBx21, FrIn, FrOut, PBx22, PBx23, PBx25, FrSeat. -/
import Derived.Test.YtkmimamminddiaaZrb
import Derived.Deep.Cut
import Derived.Deep.CutRange
import Derived.Deep.CutBlock
import Derived.Deep.WholeRow
set_option maxHeartbeats 40000000
set_option maxRecDepth 100000
namespace Go.Proofs.Ytkmimamminddiaa.PB
open Go.RowKit Go.Proofs.YtkmimamminddiaaW.PrintWords Go.Proofs.YtkmimamminddiaaW.PrintLast Go.Proofs.YtkmimamminddiaaW.PrintMore
attribute [local go_sem] max2_int min2_int max_two min_two max_three min_three max_four min_four   -- for this text's walks alone
set_option linter.unusedVariables false
set_option linter.unusedSimpArgs false
def udp_two.f (l0 : List Int) : Option (Int) := if 0 < (l0.length : Int) then (if 1 < (l0.length : Int) then (some (Go.bits .or .u16 (IntKind.u16.wrap ((IntKind.u16.wrap (rd l0 0)) * 256)) (IntKind.u16.wrap (rd l0 1)))) else (none)) else (none)
theorem udp_two.calls (A0 : Option Addr) (c0 : Nat) (l0 : List Int) (r : Int) (w : World) (hr0 : Kd.C (Kd.int .u8) w A0 l0.length l0) (hc0 : l0.length ≤ c0) (h : udp_two.f l0 = some r) :
  Calls Try.prog 96 #[.slice A0 l0.length c0] w fun e w' => e = .returned (.int .u16 r) ∧ Drawn0 w w' := by
 have HR0 := Aside0.mk hr0
 have HC0 := Aside0.mk hc0
 clear hr0 hc0
 have H : (if 0 < (l0.length : Int) then (if 1 < (l0.length : Int) then (some (Go.bits .or .u16 (IntKind.u16.wrap ((IntKind.u16.wrap (rd l0 0)) * 256)) (IntKind.u16.wrap (rd l0 1)))) else (none)) else (none)) = some r := h
 clear h
 by_cases c2 : 0 < (l0.length : Int)
 ·rw [if_pos c2] at H
  have c2b0 : decide (0 < (l0.length : Int)) = true := decide_eq_true c2
  have c2b1 : decide (0 < l0.length) = true := decide_eq_true (by omega)
  clear c2
  by_cases c3 : 1 < (l0.length : Int)
  ·rw [if_pos c3] at H
   have c3b0 : decide (1 < (l0.length : Int)) = true := decide_eq_true c3
   have c3b1 : decide (1 < l0.length) = true := decide_eq_true (by omega)
   clear c3
   obtain rfl := Option.some.inj H
   have p246 : 0 ≤ (0 : Int) := (by omega)
   have q246 : 0 < (l0.length : Int) := of_decide_eq_true (by first | (with_reducible assumption) | assumption)
   obtain ⟨ad246, e246, hx246_0⟩ := Kd.at_int HR0.out 0 p246 q246
   cases e246
   have qi246 : (0 < l0.length) = True := eq_true (by omega)
   (try rw [show ((0 : Int)).toNat = 0 from rfl] at hx246_0)
   (try rw [Addr.add_zero'] at hx246_0)
   replace p246 := eq_true p246
   replace q246 := eq_true q246
   have p247 : 0 ≤ (1 : Int) := (by omega)
   have q247 : 1 < (l0.length : Int) := of_decide_eq_true (by first | (with_reducible assumption) | assumption)
   obtain ⟨ad247, e247, hx247_0⟩ := Kd.at_int HR0.out 1 p247 q247
   obtain rfl : ad246 = ad247 := (by injection e247)
   (try simp only [show (1 : Int).toNat = 1 from rfl, Nat.reduceMul, Nat.reduceEqDiff, Go.Addr.add, ↓reduceIte] at hx247_0)
   have qi247 : (1 < l0.length) = True := eq_true (by omega)
   (try rw [show ((1 : Int)).toNat = 1 from rfl] at hx247_0)
   replace p247 := eq_true p247
   replace q247 := eq_true q247
   go_enter Try.func96, Try.ntmps96
   go_wp2
   repeat (go_quiet (fail); try go_wp2)
   go_ret
   exact ⟨by first | rfl | (simp; done) | (simp [*]; done), by repeat (first | exact Drawn0.refl _ | apply Drawn0.step)⟩
  ·rw [if_neg c3] at H
   exact absurd H (by simp)
 ·rw [if_neg c2] at H
  exact absurd H (by simp)
def udp_Parse.f (l0 : List Int) : Option (Int × Int × Int × List Int × Int) := if (l0.length : Int) < 8 then (some (0, 0, 0, ([] : List Int), 20)) else (if 6 ≤ (l0.length : Int) then ((udp_two.f ((l0.take 6).drop 4)).bind fun t250 => (if (wrap64 (t250)) < 8 then (some (0, 0, 0, ([] : List Int), 21)) else (if (l0.length : Int) < (wrap64 (t250)) then (some (0, 0, 0, ([] : List Int), 20)) else (if 2 ≤ (l0.length : Int) then ((udp_two.f ((l0.take 2).drop 0)).bind fun t252 => (if 4 ≤ (l0.length : Int) then ((udp_two.f ((l0.take 4).drop 2)).bind fun t254 => (if 8 ≤ (l0.length : Int) then ((udp_two.f ((l0.take 8).drop 6)).bind fun t256 => (if 8 ≤ (wrap64 (t250)) then (if (wrap64 (t250)) ≤ (l0.length : Int) then ((slices_Clone_byte_byte.f ((l0.take ((wrap64 (t250)) : Int).toNat).drop 8)).bind fun t258 => (some (t252, t254, t256, t258, 0))) else (none)) else (none))) else (none))) else (none))) else (none))))) else (none))
def udp_Parse.T8 : Bool × List (List Nat × List Nat) := (true, [([], []), ([0], [0]), ([1], [1]), ([], []), ([3], [3]), ([4, 2], [4]), ([], []), ([6], [6]), ([7, 5], [7]), ([], []), ([], []), ([], []), ([9, 10, 11], [9, 10, 11]), ([12, 8], [12]), ([2, 5, 8, 13], [2, 5, 8, 13]), ([14, 13, 0, 1, 2, 3, 4, 5, 6, 7, 8, 9, 10, 11, 12, 13, 14], [14]), ([15, 0, 1, 2, 3, 4, 5, 6, 7, 8, 9, 10, 11, 12, 13, 14, 15], [])])
def udp_Parse.B8 : List Nat := [0, 1, 3, 0, 8, 31, 0, 64, 255, 0, 0, 0, 3584, 8191, 16383, 32767, 65535]
theorem udp_Parse.tab8 : rtab .any (opsOf Try.f58 8) = udp_Parse.T8 := by kernel_rfl
theorem udp_Parse.bits8 : waitsOk udp_Parse.T8.2 udp_Parse.B8 = true := by kernel_rfl
theorem udp_Parse.calls (A0 : Option Addr) (c0 : Nat) (l0 : List Int) (r1 : Int) (r2 : Int) (r3 : Int) (r4 : List Int) (r5 : Int) (w : World) (hr0 : Kd.C (Kd.int .u8) w A0 l0.length l0) (hc0 : l0.length ≤ c0) (h : udp_Parse.f l0 = some (r1, r2, r3, r4, r5)) :
  Calls Try.prog 58 #[.slice A0 l0.length c0] w fun e w' => ∃ v3_ : Value, e = .returned (.tuple #[.agg #[.int .u16 r1, .int .u16 r2, .int .u16 r3, v3_], .int .i64 r5]) ∧ Kd.R (Kd.int .u8) 5 w' w.heap.size (fun _ => True) v3_ r4 ∧ Below w.heap.size w w' := by
 have hu83 := Try.underlying83
 have HR0 := Aside0.mk hr0
 have HC0 := Aside0.mk hc0
 clear hr0 hc0
 have HB := Aside0.mk (Below.refl w.heap.size w)
 have H : (if (l0.length : Int) < 8 then (some (0, 0, 0, ([] : List Int), 20)) else (if 6 ≤ (l0.length : Int) then ((udp_two.f ((l0.take 6).drop 4)).bind fun t250 => (if (wrap64 (t250)) < 8 then (some (0, 0, 0, ([] : List Int), 21)) else (if (l0.length : Int) < (wrap64 (t250)) then (some (0, 0, 0, ([] : List Int), 20)) else (if 2 ≤ (l0.length : Int) then ((udp_two.f ((l0.take 2).drop 0)).bind fun t252 => (if 4 ≤ (l0.length : Int) then ((udp_two.f ((l0.take 4).drop 2)).bind fun t254 => (if 8 ≤ (l0.length : Int) then ((udp_two.f ((l0.take 8).drop 6)).bind fun t256 => (if 8 ≤ (wrap64 (t250)) then (if (wrap64 (t250)) ≤ (l0.length : Int) then ((slices_Clone_byte_byte.f ((l0.take ((wrap64 (t250)) : Int).toNat).drop 8)).bind fun t258 => (some (t252, t254, t256, t258, 0))) else (none)) else (none))) else (none))) else (none))) else (none))))) else (none))) = some (r1, r2, r3, r4, r5) := h
 clear h
 by_cases c2 : (l0.length : Int) < 8
 ·rw [if_pos c2] at H
  have c2b0 : decide ((l0.length : Int) < 8) = true := decide_eq_true c2
  have c2b1 : decide (l0.length < 8) = true := decide_eq_true (by omega)
  clear c2
  simp only [Option.some.injEq, Prod.mk.injEq] at H
  obtain ⟨rfl, rfl, rfl, rfl, rfl⟩ := H
  go_enter Try.func58, Try.ntmps58
  go_wp2_with (first | ((with_reducible refine gate_dst (N := 2) rfl ?_); refine box_event ?hg (N := 2) ?hd (cs := #[.int .u16 0, .int .u16 0, .int .u16 0, .slice none 0 0]) (t := 83) ?hr ?_; (case hd => rfl); (case hg => rfl); (case hr => first | (go_simp; done) | (go_simp; rfl)); intro gb248 hg w3 hbox hb; have n0_ := Aside0.mk (below_step (bz HB) hb); have n1_ := Aside0.mk (hbox); have n2_ := Aside0.mk ((by rw [hg]; exact (below_size (bz HB)) : w.heap.size ≤ gb248)); have n3_ := Aside0.mk ((by rw [hg]; exact (below_size (bz HB)) : w.heap.size ≤ gb248)); clear HB; have HB := n0_; have BK248 := n1_; have GW248 := n2_; have GE248 := n3_; clear n0_ n1_ n2_ n3_; clear hb hbox hg; have hcz4_0 : w3.cell? ⟨gb248, 0, none⟩ = some (.int .u16 0) := cz BK248.out 0 rfl; have hcz4_1 : w3.cell? ⟨gb248, 1, none⟩ = some (.int .u16 0) := cz BK248.out 1 rfl; have hcz4_2 : w3.cell? ⟨gb248, 2, none⟩ = some (.int .u16 0) := cz BK248.out 2 rfl; have hcz4_3 : w3.cell? ⟨gb248, 3, none⟩ = some (.slice none 0 0) := cz BK248.out 3 rfl; have hfz4_0 := blk_frozen BK248.out 0; have hfz4_1 := blk_frozen BK248.out 1; have hfz4_2 := blk_frozen BK248.out 2; have hfz4_3 := blk_frozen BK248.out 3))
  refine bodyPost_ret (results_ct rfl _ _ gb248 83 #[.int .u16 0, .int .u16 0, .int .u16 0, .slice none 0 0] (0, 0) _ rfl (by (repeat (first | with_reducible refine blk_drewN ?_ _ | with_reducible refine blk_drew ?_ | with_reducible refine blk_alloc ?_ _ | refine blk_put (cs := #[.int .u16 0, .int .u16 0, .int .u16 0, .slice none 0 0]) ?_ _ _ rfl)); (with_reducible repeat (first | refine blk_drewN ?_ _ | refine blk_drew ?_ | refine blk_alloc ?_ _)); exact BK248.out) Try.underlying83 rfl (by kernel_rfl)) rfl ?_
  exact ⟨_, by first | rfl | (simp [errW_none, errW_some] <;> rfl) | (simp [*, errW_none, errW_some] <;> rfl), by first | exact Kd.R_nil _ _ _ _ _ | exact Kd.N_nil _ _ _ _ _ | exact Kd.V_nil _ _ _ _ _ | exact Kd.Q_nil _ _ _ _ _ | exact Kd.S_nil _ _ _ _ _, bz HB⟩
 ·rw [if_neg c2] at H
  have c2b0 : decide ((l0.length : Int) < 8) = false := decide_eq_false c2
  have c2b1 : decide (l0.length < 8) = false := decide_eq_false (by omega)
  clear c2
  by_cases c5 : 6 ≤ (l0.length : Int)
  ·rw [if_pos c5] at H
   have c5b0 := eq_true c5
   have c5b1 : decide (6 ≤ (l0.length : Int)) = true := decide_eq_true c5
   clear c5
   replace H := Option.bind_eq_some_iff.mp H
   obtain ⟨t250, A60, H⟩ := H
   replace H : (if (wrap64 (t250)) < 8 then (some (0, 0, 0, ([] : List Int), 21)) else (if (l0.length : Int) < (wrap64 (t250)) then (some (0, 0, 0, ([] : List Int), 20)) else (if 2 ≤ (l0.length : Int) then ((udp_two.f ((l0.take 2).drop 0)).bind fun t252 => (if 4 ≤ (l0.length : Int) then ((udp_two.f ((l0.take 4).drop 2)).bind fun t254 => (if 8 ≤ (l0.length : Int) then ((udp_two.f ((l0.take 8).drop 6)).bind fun t256 => (if 8 ≤ (wrap64 (t250)) then (if (wrap64 (t250)) ≤ (l0.length : Int) then ((slices_Clone_byte_byte.f ((l0.take ((wrap64 (t250)) : Int).toNat).drop 8)).bind fun t258 => (some (t252, t254, t256, t258, 0))) else (none)) else (none))) else (none))) else (none))) else (none)))) = some (r1, r2, r3, r4, r5) := H
   have A6 := Aside0.mk A60
   clear A60
   by_cases c7 : (wrap64 (t250)) < 8
   ·rw [if_pos c7] at H
    have c7b0 : decide ((wrap64 (t250)) < 8) = true := decide_eq_true c7
    clear c7
    simp only [Option.some.injEq, Prod.mk.injEq] at H
    obtain ⟨rfl, rfl, rfl, rfl, rfl⟩ := H
    go_enter Try.func58, Try.ntmps58
    go_wp2_with (first | ((with_reducible refine gate_dst (N := 2) rfl ?_); refine box_event ?hg (N := 2) ?hd (cs := #[.int .u16 0, .int .u16 0, .int .u16 0, .slice none 0 0]) (t := 83) ?hr ?_; (case hd => rfl); (case hg => rfl); (case hr => first | (go_simp; done) | (go_simp; rfl)); intro gb248 hg w8 hbox hb; have n0_ := Aside0.mk (below_step (bz HB) hb); have n1_ := Aside0.mk (hbox); have n2_ := Aside0.mk ((by rw [hg]; exact (below_size (bz HB)) : w.heap.size ≤ gb248)); have n3_ := Aside0.mk ((by rw [hg]; exact (below_size (bz HB)) : w.heap.size ≤ gb248)); clear HB; have HB := n0_; have BK248 := n1_; have GW248 := n2_; have GE248 := n3_; clear n0_ n1_ n2_ n3_; clear hb hbox hg; obtain ⟨i09, hi09, _, hsz9, _⟩ := info_parts info5; obtain ⟨A9, hcut9, hA9, hC9⟩ := print_mid3_of (P := Try.prog) (Value.int .u8) 0 23 5 .i64 .i64 .i64 Try.underlying23 hi09 hsz9 A0 c0 l0 4 6 (by omega) (by first | omega | exact of_decide_eq_true (by first | (with_reducible assumption) | assumption)) (of_decide_eq_true (by first | (with_reducible assumption) | assumption)) HC0.out; have HR249 := Aside0.mk (Kd.C_of_reads (h1 := fun _ => rfl) (hA9 _ (Kd.reads_of_C HR0.out))); have HC249 := Aside0.mk hC9; clear hA9 hC9 hi09 hsz9; have hmn9 : min 6 l0.length - 4 = 2 := (by have h_ : (6 : Int) ≤ (l0.length : Int) := of_decide_eq_true (by first | (with_reducible assumption) | assumption); omega)) | ((with_reducible refine gate_callee (f := 96) rfl ?_); refine goesL_ (some 11) rfl rfl Try.func96 (by kernel_rfl) rfl #[.slice A9 ((l0.take 6).drop 4).length 2] rfl (by (try simp only [List.map_toArray, List.map_cons, List.map_nil]); first | done | (rw [show ((l0.take 6).drop 4).length = 2 from (by rw [List.length_drop, List.length_take]; have h_ : (6 : Int) ≤ (l0.length : Int) := of_decide_eq_true (by first | (with_reducible assumption) | assumption); omega)] <;> rfl) | rfl | (simp only [List.length_drop, List.length_take]; rfl) | (go_simp; done) | (simp [Act.eval, IntKind.signed]; done) | (simp [Act.eval, IntKind.signed]; rfl)) ?_; (with_reducible refine (udp_two.calls _ _ ((l0.take 6).drop 4) t250 _ ?side1 ?side2 A6.out).mono ?_); (case side1 => exact Kd.C_below HR249.out (bz HB)); (case side2 => exact HC249.out); rintro e w' ⟨rfl, ⟨nd, rfl⟩⟩; refine ⟨_, rfl, ?_⟩; (try (rw [drewN_self w8]; generalize hq_ : World.drewN w8 _ = w8; have n0_ : Aside0 (w8.heap[gb248]? = some (.cells #[.int .u16 0, .int .u16 0, .int .u16 0, .slice none 0 0] 83 (0, 0))) := ⟨by rw [← hq_]; exact (kz BK248)⟩; have n1_ : Aside0 (Below w.heap.size w w8) := ⟨by rw [← hq_]; exact bz HB⟩; clear BK248 HB hq_; have BK248 := n0_; have HB := n1_; clear n0_ n1_)); have hcz10_0 : w8.cell? ⟨gb248, 0, none⟩ = some (.int .u16 0) := cz BK248.out 0 rfl; have hcz10_1 : w8.cell? ⟨gb248, 1, none⟩ = some (.int .u16 0) := cz BK248.out 1 rfl; have hcz10_2 : w8.cell? ⟨gb248, 2, none⟩ = some (.int .u16 0) := cz BK248.out 2 rfl; have hcz10_3 : w8.cell? ⟨gb248, 3, none⟩ = some (.slice none 0 0) := cz BK248.out 3 rfl; have hfz10_0 := blk_frozen BK248.out 0; have hfz10_1 := blk_frozen BK248.out 1; have hfz10_2 := blk_frozen BK248.out 2; have hfz10_3 := blk_frozen BK248.out 3))
    refine bodyPost_ret (results_ct rfl _ _ gb248 83 #[.int .u16 0, .int .u16 0, .int .u16 0, .slice none 0 0] (0, 0) _ rfl (by (repeat (first | with_reducible refine blk_drewN ?_ _ | with_reducible refine blk_drew ?_ | with_reducible refine blk_alloc ?_ _ | refine blk_put (cs := #[.int .u16 0, .int .u16 0, .int .u16 0, .slice none 0 0]) ?_ _ _ rfl)); (with_reducible repeat (first | refine blk_drewN ?_ _ | refine blk_drew ?_ | refine blk_alloc ?_ _)); exact BK248.out) Try.underlying83 rfl (by kernel_rfl)) rfl ?_
    exact ⟨_, by first | rfl | (simp [errW_none, errW_some] <;> rfl) | (simp [*, errW_none, errW_some] <;> rfl), by first | exact Kd.R_nil _ _ _ _ _ | exact Kd.N_nil _ _ _ _ _ | exact Kd.V_nil _ _ _ _ _ | exact Kd.Q_nil _ _ _ _ _ | exact Kd.S_nil _ _ _ _ _, bz HB⟩
   ·rw [if_neg c7] at H
    have c7b0 : decide ((wrap64 (t250)) < 8) = false := decide_eq_false c7
    clear c7
    by_cases c11 : (l0.length : Int) < (wrap64 (t250))
    ·rw [if_pos c11] at H
     have c11b0 : decide ((l0.length : Int) < (wrap64 (t250))) = true := decide_eq_true c11
     clear c11
     simp only [Option.some.injEq, Prod.mk.injEq] at H
     obtain ⟨rfl, rfl, rfl, rfl, rfl⟩ := H
     go_enter Try.func58, Try.ntmps58
     go_wp2_with (first | ((with_reducible refine gate_dst (N := 2) rfl ?_); refine box_event ?hg (N := 2) ?hd (cs := #[.int .u16 0, .int .u16 0, .int .u16 0, .slice none 0 0]) (t := 83) ?hr ?_; (case hd => rfl); (case hg => rfl); (case hr => first | (go_simp; done) | (go_simp; rfl)); intro gb248 hg w12 hbox hb; have n0_ := Aside0.mk (below_step (bz HB) hb); have n1_ := Aside0.mk (hbox); have n2_ := Aside0.mk ((by rw [hg]; exact (below_size (bz HB)) : w.heap.size ≤ gb248)); have n3_ := Aside0.mk ((by rw [hg]; exact (below_size (bz HB)) : w.heap.size ≤ gb248)); clear HB; have HB := n0_; have BK248 := n1_; have GW248 := n2_; have GE248 := n3_; clear n0_ n1_ n2_ n3_; clear hb hbox hg; obtain ⟨i013, hi013, _, hsz13, _⟩ := info_parts info5; obtain ⟨A13, hcut13, hA13, hC13⟩ := print_mid3_of (P := Try.prog) (Value.int .u8) 0 23 5 .i64 .i64 .i64 Try.underlying23 hi013 hsz13 A0 c0 l0 4 6 (by omega) (by first | omega | exact of_decide_eq_true (by first | (with_reducible assumption) | assumption)) (of_decide_eq_true (by first | (with_reducible assumption) | assumption)) HC0.out; have HR249 := Aside0.mk (Kd.C_of_reads (h1 := fun _ => rfl) (hA13 _ (Kd.reads_of_C HR0.out))); have HC249 := Aside0.mk hC13; clear hA13 hC13 hi013 hsz13; have hmn13 : min 6 l0.length - 4 = 2 := (by have h_ : (6 : Int) ≤ (l0.length : Int) := of_decide_eq_true (by first | (with_reducible assumption) | assumption); omega)) | ((with_reducible refine gate_callee (f := 96) rfl ?_); refine goesL_ (some 11) rfl rfl Try.func96 (by kernel_rfl) rfl #[.slice A13 ((l0.take 6).drop 4).length 2] rfl (by (try simp only [List.map_toArray, List.map_cons, List.map_nil]); first | done | (rw [show ((l0.take 6).drop 4).length = 2 from (by rw [List.length_drop, List.length_take]; have h_ : (6 : Int) ≤ (l0.length : Int) := of_decide_eq_true (by first | (with_reducible assumption) | assumption); omega)] <;> rfl) | rfl | (simp only [List.length_drop, List.length_take]; rfl) | (go_simp; done) | (simp [Act.eval, IntKind.signed]; done) | (simp [Act.eval, IntKind.signed]; rfl)) ?_; (with_reducible refine (udp_two.calls _ _ ((l0.take 6).drop 4) t250 _ ?side1 ?side2 A6.out).mono ?_); (case side1 => exact Kd.C_below HR249.out (bz HB)); (case side2 => exact HC249.out); rintro e w' ⟨rfl, ⟨nd, rfl⟩⟩; refine ⟨_, rfl, ?_⟩; (try (rw [drewN_self w12]; generalize hq_ : World.drewN w12 _ = w12; have n0_ : Aside0 (w12.heap[gb248]? = some (.cells #[.int .u16 0, .int .u16 0, .int .u16 0, .slice none 0 0] 83 (0, 0))) := ⟨by rw [← hq_]; exact (kz BK248)⟩; have n1_ : Aside0 (Below w.heap.size w w12) := ⟨by rw [← hq_]; exact bz HB⟩; clear BK248 HB hq_; have BK248 := n0_; have HB := n1_; clear n0_ n1_)); have hcz14_0 : w12.cell? ⟨gb248, 0, none⟩ = some (.int .u16 0) := cz BK248.out 0 rfl; have hcz14_1 : w12.cell? ⟨gb248, 1, none⟩ = some (.int .u16 0) := cz BK248.out 1 rfl; have hcz14_2 : w12.cell? ⟨gb248, 2, none⟩ = some (.int .u16 0) := cz BK248.out 2 rfl; have hcz14_3 : w12.cell? ⟨gb248, 3, none⟩ = some (.slice none 0 0) := cz BK248.out 3 rfl; have hfz14_0 := blk_frozen BK248.out 0; have hfz14_1 := blk_frozen BK248.out 1; have hfz14_2 := blk_frozen BK248.out 2; have hfz14_3 := blk_frozen BK248.out 3))
     refine bodyPost_ret (results_ct rfl _ _ gb248 83 #[.int .u16 0, .int .u16 0, .int .u16 0, .slice none 0 0] (0, 0) _ rfl (by (repeat (first | with_reducible refine blk_drewN ?_ _ | with_reducible refine blk_drew ?_ | with_reducible refine blk_alloc ?_ _ | refine blk_put (cs := #[.int .u16 0, .int .u16 0, .int .u16 0, .slice none 0 0]) ?_ _ _ rfl)); (with_reducible repeat (first | refine blk_drewN ?_ _ | refine blk_drew ?_ | refine blk_alloc ?_ _)); exact BK248.out) Try.underlying83 rfl (by kernel_rfl)) rfl ?_
     exact ⟨_, by first | rfl | (simp [errW_none, errW_some] <;> rfl) | (simp [*, errW_none, errW_some] <;> rfl), by first | exact Kd.R_nil _ _ _ _ _ | exact Kd.N_nil _ _ _ _ _ | exact Kd.V_nil _ _ _ _ _ | exact Kd.Q_nil _ _ _ _ _ | exact Kd.S_nil _ _ _ _ _, bz HB⟩
    ·rw [if_neg c11] at H
     have c11b0 : decide ((l0.length : Int) < (wrap64 (t250))) = false := decide_eq_false c11
     clear c11
     by_cases c15 : 2 ≤ (l0.length : Int)
     ·rw [if_pos c15] at H
      have c15b0 := eq_true c15
      have c15b1 : decide (2 ≤ (l0.length : Int)) = true := decide_eq_true c15
      clear c15
      replace H := Option.bind_eq_some_iff.mp H
      obtain ⟨t252, A160, H⟩ := H
      replace H : (if 4 ≤ (l0.length : Int) then ((udp_two.f ((l0.take 4).drop 2)).bind fun t254 => (if 8 ≤ (l0.length : Int) then ((udp_two.f ((l0.take 8).drop 6)).bind fun t256 => (if 8 ≤ (wrap64 (t250)) then (if (wrap64 (t250)) ≤ (l0.length : Int) then ((slices_Clone_byte_byte.f ((l0.take ((wrap64 (t250)) : Int).toNat).drop 8)).bind fun t258 => (some (t252, t254, t256, t258, 0))) else (none)) else (none))) else (none))) else (none)) = some (r1, r2, r3, r4, r5) := H
      have A16 := Aside0.mk A160
      clear A160
      by_cases c17 : 4 ≤ (l0.length : Int)
      ·rw [if_pos c17] at H
       have c17b0 := eq_true c17
       have c17b1 : decide (4 ≤ (l0.length : Int)) = true := decide_eq_true c17
       clear c17
       replace H := Option.bind_eq_some_iff.mp H
       obtain ⟨t254, A180, H⟩ := H
       replace H : (if 8 ≤ (l0.length : Int) then ((udp_two.f ((l0.take 8).drop 6)).bind fun t256 => (if 8 ≤ (wrap64 (t250)) then (if (wrap64 (t250)) ≤ (l0.length : Int) then ((slices_Clone_byte_byte.f ((l0.take ((wrap64 (t250)) : Int).toNat).drop 8)).bind fun t258 => (some (t252, t254, t256, t258, 0))) else (none)) else (none))) else (none)) = some (r1, r2, r3, r4, r5) := H
       have A18 := Aside0.mk A180
       clear A180
       by_cases c19 : 8 ≤ (l0.length : Int)
       ·rw [if_pos c19] at H
        have c19b0 := eq_true c19
        have c19b1 : decide (8 ≤ (l0.length : Int)) = true := decide_eq_true c19
        clear c19
        replace H := Option.bind_eq_some_iff.mp H
        obtain ⟨t256, A200, H⟩ := H
        replace H : (if 8 ≤ (wrap64 (t250)) then (if (wrap64 (t250)) ≤ (l0.length : Int) then ((slices_Clone_byte_byte.f ((l0.take ((wrap64 (t250)) : Int).toNat).drop 8)).bind fun t258 => (some (t252, t254, t256, t258, 0))) else (none)) else (none)) = some (r1, r2, r3, r4, r5) := H
        have A20 := Aside0.mk A200
        clear A200
        by_cases c21 : 8 ≤ (wrap64 (t250))
        ·rw [if_pos c21] at H
         have c21b0 := eq_true c21
         have c21b1 : decide (8 ≤ (wrap64 (t250))) = true := decide_eq_true c21
         clear c21
         by_cases c22 : (wrap64 (t250)) ≤ (l0.length : Int)
         ·rw [if_pos c22] at H
          have c22b0 := eq_true c22
          have c22b1 : decide ((wrap64 (t250)) ≤ (l0.length : Int)) = true := decide_eq_true c22
          clear c22
          replace H := Option.bind_eq_some_iff.mp H
          obtain ⟨t258, A230, H⟩ := H
          replace H : (some (t252, t254, t256, t258, 0)) = some (r1, r2, r3, r4, r5) := H
          have A23 := Aside0.mk A230
          clear A230
          simp only [Option.some.injEq, Prod.mk.injEq] at H
          obtain ⟨rfl, rfl, rfl, rfl, rfl⟩ := H
          go_enter Try.func58, Try.ntmps58
          try go_wp2_with (first | ((with_reducible refine gate_dst (N := 2) rfl ?_); refine box_event ?hg (N := 2) ?hd (cs := #[.int .u16 0, .int .u16 0, .int .u16 0, .slice none 0 0]) (t := 83) ?hr ?_; (case hd => rfl); (case hg => rfl); (case hr => first | (go_simp; done) | (go_simp; rfl)); intro gb248 hg w24 hbox hb; have n0_ := Aside0.mk (below_step (bz HB) hb); have n1_ := Aside0.mk (hbox); have n2_ := Aside0.mk ((by rw [hg]; exact (below_size (bz HB)) : w.heap.size ≤ gb248)); have n3_ := Aside0.mk ((by rw [hg]; exact (below_size (bz HB)) : w.heap.size ≤ gb248)); clear HB; have HB := n0_; have BK248 := n1_; have GW248 := n2_; have GE248 := n3_; clear n0_ n1_ n2_ n3_; clear hb hbox hg; obtain ⟨i025, hi025, _, hsz25, _⟩ := info_parts info5; obtain ⟨A25, hcut25, hA25, hC25⟩ := print_mid3_of (P := Try.prog) (Value.int .u8) 0 23 5 .i64 .i64 .i64 Try.underlying23 hi025 hsz25 A0 c0 l0 4 6 (by omega) (by first | omega | exact of_decide_eq_true (by first | (with_reducible assumption) | assumption)) (of_decide_eq_true (by first | (with_reducible assumption) | assumption)) HC0.out; have HR249 := Aside0.mk (Kd.C_of_reads (h1 := fun _ => rfl) (hA25 _ (Kd.reads_of_C HR0.out))); have HC249 := Aside0.mk hC25; clear hA25 hC25 hi025 hsz25; have hmn25 : min 6 l0.length - 4 = 2 := (by have h_ : (6 : Int) ≤ (l0.length : Int) := of_decide_eq_true (by first | (with_reducible assumption) | assumption); omega)) | ((with_reducible refine gate_callee (f := 96) rfl ?_); refine goesL_ (some 11) rfl rfl Try.func96 (by kernel_rfl) rfl #[.slice A25 ((l0.take 6).drop 4).length 2] rfl (by (try simp only [List.map_toArray, List.map_cons, List.map_nil]); first | done | (rw [show ((l0.take 6).drop 4).length = 2 from (by rw [List.length_drop, List.length_take]; have h_ : (6 : Int) ≤ (l0.length : Int) := of_decide_eq_true (by first | (with_reducible assumption) | assumption); omega)] <;> rfl) | rfl | (simp only [List.length_drop, List.length_take]; rfl) | (go_simp; done) | (simp [Act.eval, IntKind.signed]; done) | (simp [Act.eval, IntKind.signed]; rfl)) ?_; (with_reducible refine (udp_two.calls _ _ ((l0.take 6).drop 4) t250 _ ?side1 ?side2 A6.out).mono ?_); (case side1 => exact Kd.C_below HR249.out (bz HB)); (case side2 => exact HC249.out); rintro e w' ⟨rfl, ⟨nd, rfl⟩⟩; refine ⟨_, rfl, ?_⟩; (try (rw [drewN_self w24]; generalize hq_ : World.drewN w24 _ = w24; have n0_ : Aside0 (w24.heap[gb248]? = some (.cells #[.int .u16 0, .int .u16 0, .int .u16 0, .slice none 0 0] 83 (0, 0))) := ⟨by rw [← hq_]; exact (kz BK248)⟩; have n1_ : Aside0 (Below w.heap.size w w24) := ⟨by rw [← hq_]; exact bz HB⟩; clear BK248 HB hq_; have BK248 := n0_; have HB := n1_; clear n0_ n1_))))
          have n0_ := Aside0.mk (blk_drew BK248.out)
          have n1_ := Aside0.mk (below_drew1 HB.out)
          clear BK248
          clear HB
          have BK248 := n0_
          have HB := n1_
          clear n0_ n1_
          obtain ⟨i027, hi027, _, hsz27, _⟩ := info_parts info5
          obtain ⟨A27, hcut27, hA27, hC27⟩ := print_mid3_of (P := Try.prog) (Value.int .u8) 0 23 5 .i64 .i64 .i64 Try.underlying23 hi027 hsz27 A0 c0 l0 0 2 (by omega) (by first | omega | exact of_decide_eq_true (by first | (with_reducible assumption) | assumption)) (of_decide_eq_true (by first | (with_reducible assumption) | assumption)) HC0.out
          have HR251 := Aside0.mk (Kd.C_of_reads (h1 := fun _ => rfl) (hA27 _ (Kd.reads_of_C HR0.out)))
          have HC251 := Aside0.mk hC27
          clear hA27 hC27 hi027 hsz27
          have hmn27 : min 2 l0.length = 2 := (by have h_ : (2 : Int) ≤ (l0.length : Int) := of_decide_eq_true (by first | (with_reducible assumption) | assumption); omega)
          obtain ⟨i028, hi028, _, hsz28, _⟩ := info_parts info5
          obtain ⟨A28, hcut28, hA28, hC28⟩ := print_mid3_of (P := Try.prog) (Value.int .u8) 0 23 5 .i64 .i64 .i64 Try.underlying23 hi028 hsz28 A0 c0 l0 2 4 (by omega) (by first | omega | exact of_decide_eq_true (by first | (with_reducible assumption) | assumption)) (of_decide_eq_true (by first | (with_reducible assumption) | assumption)) HC0.out
          have HR253 := Aside0.mk (Kd.C_of_reads (h1 := fun _ => rfl) (hA28 _ (Kd.reads_of_C HR0.out)))
          have HC253 := Aside0.mk hC28
          clear hA28 hC28 hi028 hsz28
          have hmn28 : min 4 l0.length - 2 = 2 := (by have h_ : (4 : Int) ≤ (l0.length : Int) := of_decide_eq_true (by first | (with_reducible assumption) | assumption); omega)
          obtain ⟨i029, hi029, _, hsz29, _⟩ := info_parts info5
          obtain ⟨A29, hcut29, hA29, hC29⟩ := print_mid3_of (P := Try.prog) (Value.int .u8) 0 23 5 .i64 .i64 .i64 Try.underlying23 hi029 hsz29 A0 c0 l0 6 8 (by omega) (by first | omega | exact of_decide_eq_true (by first | (with_reducible assumption) | assumption)) (of_decide_eq_true (by first | (with_reducible assumption) | assumption)) HC0.out
          have HR255 := Aside0.mk (Kd.C_of_reads (h1 := fun _ => rfl) (hA29 _ (Kd.reads_of_C HR0.out)))
          have HC255 := Aside0.mk hC29
          clear hA29 hC29 hi029 hsz29
          have hmn29 : min 8 l0.length - 6 = 2 := (by have h_ : (8 : Int) ≤ (l0.length : Int) := of_decide_eq_true (by first | (with_reducible assumption) | assumption); omega)
          obtain ⟨i030, hi030, _, hsz30, _⟩ := info_parts info5
          obtain ⟨A30, hcut30, hA30, hC30⟩ := print_mid3_of (P := Try.prog) (Value.int .u8) 0 23 5 .i64 .i64 .i64 Try.underlying23 hi030 hsz30 A0 c0 l0 8 (wrap64 (t250)) (by omega) (by first | omega | exact of_decide_eq_true (by first | (with_reducible assumption) | assumption)) (of_decide_eq_true (by first | (with_reducible assumption) | assumption)) HC0.out
          have HR257 := Aside0.mk (Kd.C_of_reads (h1 := fun _ => rfl) (hA30 _ (Kd.reads_of_C HR0.out)))
          have HC257 := Aside0.mk hC30
          clear hA30 hC30 hi030 hsz30
          refine start_ (n := 17) (S := fun w' => True) (ds := []) #[false, false, false, false, false, false, false, false, false, false, false, false, false, false, false, false, false] (by kernel_rfl) rfl rfl trivial (fun hHeld => ?_); refine with_tabW udp_Parse.tab8 udp_Parse.bits8 (fun HT_ HW_ => ?_)
          generalize w24.drew = w26 at BK248 HB HR251 HR253 HR255 HR257 hHeld ⊢
          refine pz 0 23 HT_ ?_
          refine pz 1 24 HT_ ?_
          refine pz 3 26 HT_ ?_
          refine pz 4 27 HT_ ?_
          refine pz 6 29 HT_ ?_
          refine pz 7 30 HT_ ?_
          refine pz 9 32 HT_ ?_
          refine pz 10 33 HT_ ?_
          refine pz 11 34 HT_ ?_
          refine pz 12 35 HT_ ?_
          refine oz 2 (some 25) HT_ (fun K hK => ?_)
          refine goes_ Try.func96 (by kernel_rfl) rfl #[.slice A27 ((l0.take 2).drop 0).length 2] (by rfl) rfl rfl (by (try simp only [List.map_toArray, List.map_cons, List.map_nil]); first | done | (rw [show ((l0.take 2).drop 0).length = 2 from (by rw [List.length_drop, List.length_take]; have h_ : (2 : Int) ≤ (l0.length : Int) := of_decide_eq_true (by first | (with_reducible assumption) | assumption); omega)] <;> rfl) | rfl | (simp only [List.length_drop, List.length_take]; rfl) | (go_simp; done) | (simp [Act.eval, IntKind.signed]; done) | (simp [Act.eval, IntKind.signed]; rfl)) ?_
          with_reducible refine (udp_two.calls _ _ ((l0.take 2).drop 0) t252 _ ?side1 ?side2 A16.out).mono ?_
          (case side1 => exact Kd.C_below HR251.out (bz HB))
          (case side2 => exact HC251.out)
          rintro e w' ⟨rfl, ⟨nd, rfl⟩⟩
          refine ⟨_, rfl, ?_⟩
          refine hK.out _ _ trivial (fun hHeld => ?_)
          clear hK K
          refine nz 25 ?_
          refine oz 5 (some 28) HT_ (fun K hK => ?_)
          refine goes_ Try.func96 (by kernel_rfl) rfl #[.slice A28 ((l0.take 4).drop 2).length 2] (by rfl) rfl rfl (by (try simp only [List.map_toArray, List.map_cons, List.map_nil]); first | done | (rw [show ((l0.take 4).drop 2).length = 2 from (by rw [List.length_drop, List.length_take]; have h_ : (4 : Int) ≤ (l0.length : Int) := of_decide_eq_true (by first | (with_reducible assumption) | assumption); omega)] <;> rfl) | rfl | (simp only [List.length_drop, List.length_take]; rfl) | (go_simp; done) | (simp [Act.eval, IntKind.signed]; done) | (simp [Act.eval, IntKind.signed]; rfl)) ?_
          with_reducible refine (udp_two.calls _ _ ((l0.take 4).drop 2) t254 _ ?side1 ?side2 A18.out).mono ?_
          (case side1 => exact Kd.C_below HR253.out (bz HB))
          (case side2 => exact HC253.out)
          rintro e w' ⟨rfl, ⟨nd, rfl⟩⟩
          refine ⟨_, rfl, ?_⟩
          refine hK.out _ _ trivial (fun hHeld => ?_)
          clear hK K
          refine nz 28 ?_
          refine oz 8 (some 31) HT_ (fun K hK => ?_)
          refine goes_ Try.func96 (by kernel_rfl) rfl #[.slice A29 ((l0.take 8).drop 6).length 2] (by rfl) rfl rfl (by (try simp only [List.map_toArray, List.map_cons, List.map_nil]); first | done | (rw [show ((l0.take 8).drop 6).length = 2 from (by rw [List.length_drop, List.length_take]; have h_ : (8 : Int) ≤ (l0.length : Int) := of_decide_eq_true (by first | (with_reducible assumption) | assumption); omega)] <;> rfl) | rfl | (simp only [List.length_drop, List.length_take]; rfl) | (go_simp; done) | (simp [Act.eval, IntKind.signed]; done) | (simp [Act.eval, IntKind.signed]; rfl)) ?_
          with_reducible refine (udp_two.calls _ _ ((l0.take 8).drop 6) t256 _ ?side1 ?side2 A20.out).mono ?_
          (case side1 => exact Kd.C_below HR255.out (bz HB))
          (case side2 => exact HC255.out)
          rintro e w' ⟨rfl, ⟨nd, rfl⟩⟩
          refine ⟨_, rfl, ?_⟩
          refine hK.out _ _ trivial (fun hHeld => ?_)
          clear hK K
          refine nz 31 ?_
          refine oz 13 (some 36) HT_ (fun K hK => ?_)
          refine goes_ Try.func97 (by kernel_rfl) rfl #[.slice A30 ((l0.take ((wrap64 (t250)) : Int).toNat).drop 8).length ((wrap64 (t250)).toNat - 8)] (by rfl) rfl rfl (by (try simp only [List.map_toArray, List.map_cons, List.map_nil]); first | done | (rw [show ((l0.take ((wrap64 (t250)) : Int).toNat).drop 8).length = ((wrap64 (t250)).toNat - 8) from (by rw [List.length_drop, List.length_take]; have h_ : ((wrap64 (t250)) : Int) ≤ (l0.length : Int) := of_decide_eq_true (by first | (with_reducible assumption) | assumption); omega)] <;> rfl) | rfl | (simp only [List.length_drop, List.length_take]; rfl) | (go_simp; done) | (simp [Act.eval, IntKind.signed]; done) | (simp [Act.eval, IntKind.signed]; rfl)) ?_
          with_reducible refine (slices_Clone_byte_byte.calls _ _ ((l0.take ((wrap64 (t250)) : Int).toNat).drop 8) t258 _ ?side1 ?side2 A23.out).mono ?_
          (case side1 => exact Kd.C_below HR257.out (bz HB))
          (case side2 => exact HC257.out)
          rintro e w31 ⟨v259, rfl, ho0, hb⟩
          refine ⟨_, rfl, ?_⟩
          have n0_ := Aside0.mk (Kd.R_lower ho0 (below_size (bz HB)))
          have n1_ := Aside0.mk (blk_below (kz BK248) hb)
          have n2_ := Aside0.mk (below_step (bz HB) hb)
          clear BK248
          clear HB
          have HO260 := n0_
          have BK248 := n1_
          have HB := n2_
          clear n0_ n1_ n2_
          (try clear hb)
          (try clear hb2)
          (try clear hk)
          (try clear hi)
          (try clear ho0)
          obtain ⟨Ao32, co32, eo32⟩ := Kd.R_slice HO260.out
          (first | subst eo32 | (injection eo32 with f1_ f2_ f3_; have f4_ := f1_.symm; have f5_ := f3_.symm; clear f1_ f2_ f3_; subst f4_; subst f5_))
          refine hK.out _ _ trivial (fun hHeld => ?_)
          clear hK K
          refine nz 36 ?_
          refine pz 14 37 HT_ ?_
          refine oz 15 (none) HT_ (fun K hK => ?_)
          have hs33_ := cs4 BK248.out
          have hfs33_ := blk_frozen BK248.out
          refine skip_ (w1 := ?_) (by rfl) rfl ?_ ?_
          rotate_left
          ·go_simp
           rfl
          refine hK.out _ _ trivial (fun hHeld => ?_)
          clear hK K
          refine pz 16 3 HT_ ?_
          refine dz HT_ ?_
          try go_wp2
          refine bodyPost_ret (results_ct rfl _ _ gb248 83 #[.int .u16 t252, .int .u16 t254, .int .u16 t256, .slice Ao32 t258.length co32] (0, 0) _ rfl (by (with_reducible repeat (first | refine blk_drewN ?_ _ | refine blk_drew ?_ | refine blk_alloc ?_ _)); refine blk_put (cs := #[.int .u16 t252, .int .u16 t254, .int .u16 t256, .slice none 0 0]) ?_ 3 _ rfl; (with_reducible repeat (first | refine blk_drewN ?_ _ | refine blk_drew ?_ | refine blk_alloc ?_ _)); refine blk_put (cs := #[.int .u16 t252, .int .u16 t254, .int .u16 0, .slice none 0 0]) ?_ 2 _ rfl; (with_reducible repeat (first | refine blk_drewN ?_ _ | refine blk_drew ?_ | refine blk_alloc ?_ _)); refine blk_put (cs := #[.int .u16 t252, .int .u16 0, .int .u16 0, .slice none 0 0]) ?_ 1 _ rfl; (with_reducible repeat (first | refine blk_drewN ?_ _ | refine blk_drew ?_ | refine blk_alloc ?_ _)); refine blk_put (cs := #[.int .u16 0, .int .u16 0, .int .u16 0, .slice none 0 0]) ?_ 0 _ rfl; (with_reducible repeat (first | refine blk_drewN ?_ _ | refine blk_drew ?_ | refine blk_alloc ?_ _)); exact BK248.out) Try.underlying83 rfl (by kernel_rfl)) rfl ?_
          exact ⟨_, by first | rfl | (simp [errW_none, errW_some] <;> rfl) | (simp [*, errW_none, errW_some] <;> rfl), by (with_reducible repeat (first | apply Kd.R_alloc | apply Kd.R_drewN | apply Kd.R_drew)); exact Kd.R_mono (Kd.R_far (p := ⟨gb248, 3, none⟩) (Kd.R_far (p := ⟨gb248, 2, none⟩) (Kd.R_far (p := ⟨gb248, 1, none⟩) (Kd.R_far (p := ⟨gb248, 0, none⟩) (Kd.R_types HO260.out BK248.out (by decide)) (fun _ hk => hk.2) (.int .u16 t252)) (fun _ hk => hk.2) (.int .u16 t254)) (fun _ hk => hk.2) (.int .u16 t256)) (fun _ hk => hk.2) (.slice Ao32 t258.length co32)) (fun _ hk => trivial), bz HB⟩
         ·rw [if_neg c22] at H
          exact absurd H (by simp)
        ·rw [if_neg c21] at H
         exact absurd H (by simp)
       ·rw [if_neg c19] at H
        exact absurd H (by simp)
      ·rw [if_neg c17] at H
       exact absurd H (by simp)
     ·rw [if_neg c15] at H
      exact absurd H (by simp)
  ·rw [if_neg c5] at H
   exact absurd H (by simp)
def udp_Bytes.f (a0_0 : Int) (a0_1 : Int) (a0_2 : Int) (l0_3 : List Int) : Option (List Int × Int) := if (wrap64 (8 + (l0_3.length : Int))) > 65535 then (some (([] : List Int), 23)) else ((some (([(a0_0 / 256) % 256, (a0_0) % 256, (a0_1 / 256) % 256, (a0_1) % 256, ((wrap64 (8 + (l0_3.length : Int))) / 256) % 256, (wrap64 (8 + (l0_3.length : Int))) % 256, (a0_2 / 256) % 256, (a0_2) % 256] : List Int) : List Int)).bind fun y125 => (if y125.length + l0_3.length < 140737488355328 then (some ((y125 ++ l0_3), 0)) else (none)))
theorem udp_Bytes.calls (a0_0 : Int) (a0_1 : Int) (a0_2 : Int) (A0_3 : Option Addr) (c0_3 : Nat) (l0_3 : List Int) (r1 : List Int) (r2 : Int) (w : World) (hr0_3 : Kd.C (Kd.int .u8) w A0_3 l0_3.length l0_3) (hc0_3 : l0_3.length ≤ c0_3) (h : udp_Bytes.f a0_0 a0_1 a0_2 l0_3 = some (r1, r2)) :
  Calls Try.prog 108 #[.agg #[.int .u16 a0_0, .int .u16 a0_1, .int .u16 a0_2, .slice A0_3 l0_3.length c0_3]] w fun e w' => ∃ v0_ : Value, e = .returned (.tuple #[v0_, .int .i64 r2]) ∧ Kd.R (Kd.int .u8) 5 w' w.heap.size (fun _ => True) v0_ r1 ∧ Below w.heap.size w w' := by
 have hu83 := Try.underlying83
 have HR0_3 := Aside0.mk hr0_3
 have HC0_3 := Aside0.mk hc0_3
 clear hr0_3 hc0_3
 have HB := Aside0.mk (Below.refl w.heap.size w)
 have H : (if (wrap64 (8 + (l0_3.length : Int))) > 65535 then (some (([] : List Int), 23)) else ((some (([(a0_0 / 256) % 256, (a0_0) % 256, (a0_1 / 256) % 256, (a0_1) % 256, ((wrap64 (8 + (l0_3.length : Int))) / 256) % 256, (wrap64 (8 + (l0_3.length : Int))) % 256, (a0_2 / 256) % 256, (a0_2) % 256] : List Int) : List Int)).bind fun y125 => (if y125.length + l0_3.length < 140737488355328 then (some ((y125 ++ l0_3), 0)) else (none)))) = some (r1, r2) := h
 clear h
 by_cases c2 : (wrap64 (8 + (l0_3.length : Int))) > 65535
 ·rw [if_pos c2] at H
  have c2b0 : decide (65535 < (wrap64 (8 + (l0_3.length : Int)))) = true := decide_eq_true c2
  clear c2
  simp only [Option.some.injEq, Prod.mk.injEq] at H
  obtain ⟨rfl, rfl⟩ := H
  go_enter Try.func108, Try.ntmps108
  go_wp2_with (first | ((with_reducible refine gate_dst (N := 1) rfl ?_); refine box_event ?hg (N := 1) ?hd (cs := #[.int .u16 a0_0, .int .u16 a0_1, .int .u16 a0_2, .slice A0_3 l0_3.length c0_3]) (t := 83) ?hr ?_; (case hd => rfl); (case hg => rfl); (case hr => first | (go_simp; done) | (go_simp; rfl)); intro gb124 hg w3 hbox hb; have n0_ := Aside0.mk (below_step (by repeat (first | exact HB.out | apply below_alloc | apply pw_below_drewN | apply below_drew1)) hb); have n1_ := Aside0.mk (hbox); have n2_ := Aside0.mk ((by rw [hg]; exact (below_size (by repeat (first | exact HB.out | apply below_alloc | apply pw_below_drewN | apply below_drew1))) : w.heap.size ≤ gb124)); have n3_ := Aside0.mk ((by rw [hg]; exact (below_size (by repeat (first | exact HB.out | apply below_alloc | apply pw_below_drewN | apply below_drew1))) : w.heap.size ≤ gb124)); clear HB; have HB := n0_; have BK124 := n1_; have GW124 := n2_; have GE124 := n3_; clear n0_ n1_ n2_ n3_; clear hb hbox hg; have hcz4_0 : w3.cell? ⟨gb124, 0, none⟩ = some (.int .u16 a0_0) := (blk_cell BK124.out 0).trans rfl; have hcz4_1 : w3.cell? ⟨gb124, 1, none⟩ = some (.int .u16 a0_1) := (blk_cell BK124.out 1).trans rfl; have hcz4_2 : w3.cell? ⟨gb124, 2, none⟩ = some (.int .u16 a0_2) := (blk_cell BK124.out 2).trans rfl; have hcz4_3 : w3.cell? ⟨gb124, 3, none⟩ = some (.slice A0_3 l0_3.length c0_3) := (blk_cell BK124.out 3).trans rfl; have hfz4_0 := blk_frozen BK124.out 0; have hfz4_1 := blk_frozen BK124.out 1; have hfz4_2 := blk_frozen BK124.out 2; have hfz4_3 := blk_frozen BK124.out 3))
  go_ret2
  exact ⟨_, by first | rfl | (simp [errW_none, errW_some] <;> rfl) | (simp [*, errW_none, errW_some] <;> rfl), by first | exact Kd.R_nil _ _ _ _ _ | exact Kd.N_nil _ _ _ _ _ | exact Kd.V_nil _ _ _ _ _ | exact Kd.Q_nil _ _ _ _ _ | exact Kd.S_nil _ _ _ _ _, by repeat (first | (with_reducible first | exact HB.out | apply below_alloc | apply pw_below_drewN | apply below_drew1 | refine below_set ?_ GE124.out) | exact HB.out)⟩
 ·rw [if_neg c2] at H
  have c2b0 : decide (65535 < (wrap64 (8 + (l0_3.length : Int)))) = false := decide_eq_false c2
  clear c2
  obtain ⟨y125, hy125⟩ : ∃ y_ : List Int, y_ = (([(a0_0 / 256) % 256, (a0_0) % 256, (a0_1 / 256) % 256, (a0_1) % 256, ((wrap64 (8 + (l0_3.length : Int))) / 256) % 256, (wrap64 (8 + (l0_3.length : Int))) % 256, (a0_2 / 256) % 256, (a0_2) % 256] : List Int)) := ⟨_, rfl⟩
  replace H : (if y125.length + l0_3.length < 140737488355328 then (some ((y125 ++ l0_3), 0)) else (none)) = some (r1, r2) := by first | (rw [hy125]; with_reducible exact H) | (have H2_ := (Option.bind_some _ _).symm.trans H; rw [hy125]; with_reducible exact H2_) | (have H2_ := (Option.bind_some _ _).symm.trans H; with_reducible exact H2_) | with_reducible exact H | (rw [hy125]; exact H) | exact H
  have Ny125 := Aside0.mk hy125
  clear hy125
  by_cases c5 : y125.length + l0_3.length < 140737488355328
  ·rw [if_pos c5] at H
   have LMc5 := Aside0.mk c5
   clear c5
   obtain ⟨y128, hy128⟩ : ∃ y_ : List Int, y_ = (y125 ++ l0_3) := ⟨_, rfl⟩
   replace H : (some (y128, 0)) = some (r1, r2) := by first | (rw [hy128]; with_reducible exact H) | (have H2_ := (Option.bind_some _ _).symm.trans H; rw [hy128]; with_reducible exact H2_) | (have H2_ := (Option.bind_some _ _).symm.trans H; with_reducible exact H2_) | with_reducible exact H | (rw [hy128]; exact H) | exact H
   have Ny128 := Aside0.mk hy128
   clear hy128
   simp only [Option.some.injEq, Prod.mk.injEq] at H
   obtain ⟨rfl, rfl⟩ := H
   go_enter Try.func108, Try.ntmps108
   go_wp2_with (first | ((with_reducible refine gate_dst (N := 1) rfl ?_); refine box_event ?hg (N := 1) ?hd (cs := #[.int .u16 a0_0, .int .u16 a0_1, .int .u16 a0_2, .slice A0_3 l0_3.length c0_3]) (t := 83) ?hr ?_; (case hd => rfl); (case hg => rfl); (case hr => first | (go_simp; done) | (go_simp; rfl)); intro gb124 hg w6 hbox hb; have n0_ := Aside0.mk (below_step (by repeat (first | exact HB.out | apply below_alloc | apply pw_below_drewN | apply below_drew1)) hb); have n1_ := Aside0.mk (hbox); have n2_ := Aside0.mk ((by rw [hg]; exact (below_size (by repeat (first | exact HB.out | apply below_alloc | apply pw_below_drewN | apply below_drew1))) : w.heap.size ≤ gb124)); have n3_ := Aside0.mk ((by rw [hg]; exact (below_size (by repeat (first | exact HB.out | apply below_alloc | apply pw_below_drewN | apply below_drew1))) : w.heap.size ≤ gb124)); clear HB; have HB := n0_; have BK124 := n1_; have GW124 := n2_; have GE124 := n3_; clear n0_ n1_ n2_ n3_; clear hb hbox hg; have hcz7_0 : w6.cell? ⟨gb124, 0, none⟩ = some (.int .u16 a0_0) := (blk_cell BK124.out 0).trans rfl; have hcz7_1 : w6.cell? ⟨gb124, 1, none⟩ = some (.int .u16 a0_1) := (blk_cell BK124.out 1).trans rfl; have hcz7_2 : w6.cell? ⟨gb124, 2, none⟩ = some (.int .u16 a0_2) := (blk_cell BK124.out 2).trans rfl; have hcz7_3 : w6.cell? ⟨gb124, 3, none⟩ = some (.slice A0_3 l0_3.length c0_3) := (blk_cell BK124.out 3).trans rfl; have hfz7_0 := blk_frozen BK124.out 0; have hfz7_1 := blk_frozen BK124.out 1; have hfz7_2 := blk_frozen BK124.out 2; have hfz7_3 := blk_frozen BK124.out 3) | ((with_reducible refine gate_dst (N := 37) rfl ?_); refine Kd.R_lit (Kd.int .u8) _ 5 ?hg (N := 37) ?hd (xs := ([(a0_0 / 256) % 256, (a0_0) % 256, (a0_1 / 256) % 256, (a0_1) % 256, ((wrap64 (8 + (l0_3.length : Int))) / 256) % 256, (wrap64 (8 + (l0_3.length : Int))) % 256, (a0_2 / 256) % 256, (a0_2) % 256] : List Int)) (inner := [.int .u8 ((a0_0 / 256) % 256), .int .u8 ((a0_0) % 256), .int .u8 ((a0_1 / 256) % 256), .int .u8 ((a0_1) % 256), .int .u8 (((wrap64 (8 + (l0_3.length : Int))) / 256) % 256), .int .u8 ((wrap64 (8 + (l0_3.length : Int))) % 256), .int .u8 ((a0_2 / 256) % 256), .int .u8 ((a0_2) % 256)]) (ok := fun _ => True) (okp := fun _ => True) ?hr ?hp (fun _ hk => hk) trivial (Below.refl _ _) (Nat.le_refl _) (by simp) ?_; (case hd => rfl); (case hg => rfl); (case hr => first | (go_simp; done) | (go_simp; simp only [IntKind.wrap_u8, IntKind.wrap_u16, IntKind.wrap_u32]; done) | (go_simp; rfl)); (case hp => exact (Reps.one (show Kd.M (Kd.int .u8) _ _ _ ((a0_0 / 256) % 256) [.int .u8 ((a0_0 / 256) % 256)] from rfl) (Reps.one (show Kd.M (Kd.int .u8) _ _ _ ((a0_0) % 256) [.int .u8 ((a0_0) % 256)] from rfl) (Reps.one (show Kd.M (Kd.int .u8) _ _ _ ((a0_1 / 256) % 256) [.int .u8 ((a0_1 / 256) % 256)] from rfl) (Reps.one (show Kd.M (Kd.int .u8) _ _ _ ((a0_1) % 256) [.int .u8 ((a0_1) % 256)] from rfl) (Reps.one (show Kd.M (Kd.int .u8) _ _ _ (((wrap64 (8 + (l0_3.length : Int))) / 256) % 256) [.int .u8 (((wrap64 (8 + (l0_3.length : Int))) / 256) % 256)] from rfl) (Reps.one (show Kd.M (Kd.int .u8) _ _ _ ((wrap64 (8 + (l0_3.length : Int))) % 256) [.int .u8 ((wrap64 (8 + (l0_3.length : Int))) % 256)] from rfl) (Reps.one (show Kd.M (Kd.int .u8) _ _ _ ((a0_2 / 256) % 256) [.int .u8 ((a0_2 / 256) % 256)] from rfl) (Reps.one (show Kd.M (Kd.int .u8) _ _ _ ((a0_2) % 256) [.int .u8 ((a0_2) % 256)] from rfl) (Reps.none _ _)))))))))); intro v126 w8 ho9 hb hg_ hnew_; clear hg_ hnew_; (first | rw [← Ny125.out] at ho9 | (simp only [Int.reduceToNat] at ho9; rw [← Ny125.out] at ho9)); have n0_ := Aside0.mk (Kd.R_lower ho9 (below_size (by repeat (first | (with_reducible first | exact HB.out | apply below_alloc | apply pw_below_drewN | apply below_drew1 | refine below_set ?_ GE124.out) | exact HB.out)))); have n1_ := Aside0.mk (blk_below (g := gb124) (o := .cells #[.int .u16 a0_0, .int .u16 a0_1, .int .u16 a0_2, .slice A0_3 l0_3.length c0_3] 83 (0, 0)) (by (with_reducible repeat (first | refine blk_drewN ?_ _ | refine blk_drew ?_ | refine blk_alloc ?_ _)); exact BK124.out) hb); have n2_ := Aside0.mk (below_step (by repeat (first | (with_reducible first | exact HB.out | apply below_alloc | apply pw_below_drewN | apply below_drew1 | refine below_set ?_ GE124.out) | exact HB.out)) hb); clear BK124; clear HB; have HO127 := n0_; have BK124 := n1_; have HB := n2_; clear n0_ n1_ n2_; clear hb ho9; have hcz10_0 : w8.cell? ⟨gb124, 0, none⟩ = some (.int .u16 a0_0) := (blk_cell BK124.out 0).trans rfl; have hcz10_1 : w8.cell? ⟨gb124, 1, none⟩ = some (.int .u16 a0_1) := (blk_cell BK124.out 1).trans rfl; have hcz10_2 : w8.cell? ⟨gb124, 2, none⟩ = some (.int .u16 a0_2) := (blk_cell BK124.out 2).trans rfl; have hcz10_3 : w8.cell? ⟨gb124, 3, none⟩ = some (.slice A0_3 l0_3.length c0_3) := (blk_cell BK124.out 3).trans rfl; have hfz10_0 := blk_frozen BK124.out 0; have hfz10_1 := blk_frozen BK124.out 1; have hfz10_2 := blk_frozen BK124.out 2; have hfz10_3 := blk_frozen BK124.out 3) | ((with_reducible refine gate_builtin (b := .append) (xs := #[.tmp 37, .tmp 39]) rfl ?_); at_builtin; refine Kd.R_append_rows (Kd.int .u8) (w0 := w) w.heap.size rfl (.tmp 37) (.tmp 39) 23 5 (.int .u8 0) 1 rfl Try.underlying23 info5 rfl (by decide) (by omega) v126 y125 l0_3 _ _ _ (fun _ => True) (fun _ => False) rfl rfl ?aO ?aR (fun _ _ h => h) (fun _ h => h.elim) ?aF ?aB ?aS ?aL ?_; (case aR => repeat (first | exact (Kd.C_below HR0_3.out HB.out) | (with_reducible refine Kd.C_alloc ?_ _) | (with_reducible refine Kd.C_drewN ?_ _) | (with_reducible refine Kd.C_drew ?_))); (case aB => exact (by repeat (first | (with_reducible first | exact HB.out | apply below_alloc | apply pw_below_drewN | apply below_drew1 | refine below_set ?_ GE124.out) | exact HB.out))); (case aF => exact (fun _ _ => trivial)); (case aO => exact (by (with_reducible repeat (first | apply Kd.R_alloc | apply Kd.R_drewN | apply Kd.R_drew)); exact HO127.out)); (case aS => exact (below_size (by repeat (first | (with_reducible first | exact HB.out | apply below_alloc | apply pw_below_drewN | apply below_drew1 | refine below_set ?_ GE124.out) | exact HB.out)))); (case aL => have := LMc5.out; omega); intro v129 w11 ho hb hg hat; rw [← Ny128.out] at ho; have n0_ := Aside0.mk (blk_grown (g := gb124) (o := .cells #[.int .u16 a0_0, .int .u16 a0_1, .int .u16 a0_2, .slice A0_3 l0_3.length c0_3] 83 (0, 0)) (by (with_reducible repeat (first | refine blk_drewN ?_ _ | refine blk_drew ?_ | refine blk_alloc ?_ _)); exact BK124.out) hg (Kd.R_ne HO127.out BK124.out (by decide))); have n1_ := Aside0.mk (hb); have n2_ := Aside0.mk (ho); clear BK124; clear HB; clear HO127; have BK124 := n0_; have HB := n1_; have HO130 := n2_; clear n0_ n1_ n2_; clear ho hb hg hat))
   go_ret2
   exact ⟨_, by first | rfl | (simp [errW_none, errW_some] <;> rfl) | (simp [*, errW_none, errW_some] <;> rfl), by (with_reducible repeat (first | apply Kd.R_alloc | apply Kd.R_drewN | apply Kd.R_drew)); exact HO130.out, by repeat (first | (with_reducible first | exact HB.out | apply below_alloc | apply pw_below_drewN | apply below_drew1 | refine below_set ?_ GE124.out) | exact HB.out)⟩
  ·rw [if_neg c5] at H
   exact absurd H (by simp)
def sum_Pseudo.f (k : Nat) (a0 : Int) (a1 : Int) (a2 : Int) (a3 : Int) : Option (Int) := (sum_Fold.f k (((a0 / 65536) + (Go.bits .and .u32 a0 65535) + (a1 / 65536) + (Go.bits .and .u32 a1 65535) + (a2) + (IntKind.u16.wrap (a3))) % 4294967296)).bind fun t261 => (some ((t261) % 4294967296))
theorem sum_Pseudo.calls (k : Nat) (a0 : Int) (a1 : Int) (a2 : Int) (a3 : Int) (r : Int) (w : World) (h : sum_Pseudo.f k a0 a1 a2 a3 = some r) :
  Calls Try.prog 121 #[.int .u32 a0, .int .u32 a1, .int .u8 a2, .int .i64 a3] w fun e w' => e = .returned (.int .u32 r) ∧ Drawn0 w w' := by
 have H : ((sum_Fold.f k (((a0 / 65536) + (Go.bits .and .u32 a0 65535) + (a1 / 65536) + (Go.bits .and .u32 a1 65535) + (a2) + (IntKind.u16.wrap (a3))) % 4294967296)).bind fun t261 => (some ((t261) % 4294967296))) = some r := h
 clear h
 replace H := Option.bind_eq_some_iff.mp H
 obtain ⟨t261, A50, H⟩ := H
 replace H : (some ((t261) % 4294967296)) = some r := H
 have A5 := Aside0.mk A50
 clear A50
 obtain rfl := Option.some.inj H
 go_enter Try.func121, Try.ntmps121
 go_wp2_with (first | ((with_reducible refine gate_callee (f := 115) rfl ?_); refine gL 27 Try.func115 #[.int .u32 (((a0 / 65536) + (Go.bits .and .u32 a0 65535) + (a1 / 65536) + (Go.bits .and .u32 a1 65535) + (a2) + (IntKind.u16.wrap (a3))) % 4294967296)] ?_; (with_reducible refine (sum_Fold.calls k (((a0 / 65536) + (Go.bits .and .u32 a0 65535) + (a1 / 65536) + (Go.bits .and .u32 a1 65535) + (a2) + (IntKind.u16.wrap (a3))) % 4294967296) t261 _ A5.out).mono ?_); rintro e w' ⟨rfl, ⟨nd, rfl⟩⟩; refine ⟨_, rfl, ?_⟩))
 go_ret
 exact ⟨by first | rfl | (simp; done) | (simp [*]; done), by repeat (first | exact Drawn0.refl _ | apply Drawn0.step)⟩
def udp_total.f (k : Nat) (a0 : Int) (a1 : Int) (a2_0 : Int) (a2_1 : Int) (a2_2 : Int) (l2_3 : List Int) : Option (Int × Bool) := (udp_Bytes.f a2_0 a2_1 a2_2 l2_3).bind fun bt263 => ((sum_Pseudo.f k a0 a1 17 (bt263.1.length : Int)).bind fun t267 => ((sum_Add.f k t267 bt263.1).bind fun t268 => ((sum_Fold.f k t268).bind fun t269 => (some (t269, (bt263.2 == 0))))))
theorem udp_total.calls (k : Nat) (a0 : Int) (a1 : Int) (a2_0 : Int) (a2_1 : Int) (a2_2 : Int) (A2_3 : Option Addr) (c2_3 : Nat) (l2_3 : List Int) (r1 : Int) (r2 : Bool) (w : World) (hr2_3 : Kd.C (Kd.int .u8) w A2_3 l2_3.length l2_3) (hc2_3 : l2_3.length ≤ c2_3) (h : udp_total.f k a0 a1 a2_0 a2_1 a2_2 l2_3 = some (r1, r2)) :
  Calls Try.prog 98 #[.int .u32 a0, .int .u32 a1, .agg #[.int .u16 a2_0, .int .u16 a2_1, .int .u16 a2_2, .slice A2_3 l2_3.length c2_3]] w fun e w' => e = .returned (.tuple #[.int .u16 r1, .bool r2]) ∧ Below w.heap.size w w' := by
 have hu83 := Try.underlying83
 have HR2_3 := Aside0.mk hr2_3
 have HC2_3 := Aside0.mk hc2_3
 clear hr2_3 hc2_3
 have HB := Aside0.mk (Below.refl w.heap.size w)
 have H : ((udp_Bytes.f a2_0 a2_1 a2_2 l2_3).bind fun bt263 => ((sum_Pseudo.f k a0 a1 17 (bt263.1.length : Int)).bind fun t267 => ((sum_Add.f k t267 bt263.1).bind fun t268 => ((sum_Fold.f k t268).bind fun t269 => (some (t269, (bt263.2 == 0))))))) = some (r1, r2) := h
 clear h
 replace H := Option.bind_eq_some_iff.mp H
 obtain ⟨⟨t263, t266⟩, A40, H⟩ := H
 replace H : ((sum_Pseudo.f k a0 a1 17 (t263.length : Int)).bind fun t267 => ((sum_Add.f k t267 t263).bind fun t268 => ((sum_Fold.f k t268).bind fun t269 => (some (t269, (t266 == 0)))))) = some (r1, r2) := H
 have A4 := Aside0.mk A40
 clear A40
 replace H := Option.bind_eq_some_iff.mp H
 obtain ⟨t267, A50, H⟩ := H
 replace H : ((sum_Add.f k t267 t263).bind fun t268 => ((sum_Fold.f k t268).bind fun t269 => (some (t269, (t266 == 0))))) = some (r1, r2) := H
 have A5 := Aside0.mk A50
 clear A50
 replace H := Option.bind_eq_some_iff.mp H
 obtain ⟨t268, A60, H⟩ := H
 replace H : ((sum_Fold.f k t268).bind fun t269 => (some (t269, (t266 == 0)))) = some (r1, r2) := H
 have A6 := Aside0.mk A60
 clear A60
 replace H := Option.bind_eq_some_iff.mp H
 obtain ⟨t269, A70, H⟩ := H
 replace H : (some (t269, (t266 == 0))) = some (r1, r2) := H
 have A7 := Aside0.mk A70
 clear A70
 simp only [Option.some.injEq, Prod.mk.injEq] at H
 obtain ⟨rfl, rfl⟩ := H
 go_enter Try.func98, Try.ntmps98
 go_wp2_with (first | ((with_reducible refine gate_dst (N := 5) rfl ?_); refine box_event ?hg (N := 5) ?hd (cs := #[.int .u16 a2_0, .int .u16 a2_1, .int .u16 a2_2, .slice A2_3 l2_3.length c2_3]) (t := 83) ?hr ?_; (case hd => rfl); (case hg => rfl); (case hr => first | (go_simp; done) | (go_simp; rfl)); intro gb262 hg w8 hbox hb; have n0_ := Aside0.mk (below_step (bz HB) hb); have n1_ := Aside0.mk (hbox); have n2_ := Aside0.mk ((by rw [hg]; exact (below_size (bz HB)) : w.heap.size ≤ gb262)); have n3_ := Aside0.mk ((by rw [hg]; exact (below_size (bz HB)) : w.heap.size ≤ gb262)); clear HB; have HB := n0_; have BK262 := n1_; have GW262 := n2_; have GE262 := n3_; clear n0_ n1_ n2_ n3_; clear hb hbox hg; have hcz9_0 : w8.cell? ⟨gb262, 0, none⟩ = some (.int .u16 a2_0) := cz BK262.out 0 rfl; have hcz9_1 : w8.cell? ⟨gb262, 1, none⟩ = some (.int .u16 a2_1) := cz BK262.out 1 rfl; have hcz9_2 : w8.cell? ⟨gb262, 2, none⟩ = some (.int .u16 a2_2) := cz BK262.out 2 rfl; have hcz9_3 : w8.cell? ⟨gb262, 3, none⟩ = some (.slice A2_3 l2_3.length c2_3) := cz BK262.out 3 rfl; have hfz9_0 := blk_frozen BK262.out 0; have hfz9_1 := blk_frozen BK262.out 1; have hfz9_2 := blk_frozen BK262.out 2; have hfz9_3 := blk_frozen BK262.out 3) | ((with_reducible refine gate_callee (f := 108) rfl ?_); refine gL 12 Try.func108 #[.agg #[.int .u16 a2_0, .int .u16 a2_1, .int .u16 a2_2, .slice A2_3 l2_3.length c2_3]] ?_; (with_reducible refine (udp_Bytes.calls a2_0 a2_1 a2_2 _ _ l2_3 t263 t266 _ ?side1 ?side2 A4.out).mono ?_); (case side1 => exact Kd.C_below HR2_3.out (bz HB)); (case side2 => exact HC2_3.out); rintro e w10 ⟨v264, rfl, ho0, hb⟩; refine ⟨_, rfl, ?_⟩; have n0_ := Aside0.mk (Kd.R_lower ho0 (below_size (bz HB))); have n1_ := Aside0.mk (blk_below (kz BK262) hb); have n2_ := Aside0.mk (below_step (bz HB) hb); clear BK262; clear HB; have HO265 := n0_; have BK262 := n1_; have HB := n2_; clear n0_ n1_ n2_; (try clear hb); (try clear hb2); (try clear hk); (try clear hi); (try clear ho0); obtain ⟨Ao11, co11, eo11⟩ := Kd.R_slice HO265.out; subst eo11) | ((with_reducible refine gate_callee (f := 121) rfl ?_); refine gL 19 Try.func121 #[.int .u32 a0, .int .u32 a1, .int .u8 17, .int .i64 (t263.length : Int)] ?_; (with_reducible refine (sum_Pseudo.calls k a0 a1 17 (t263.length : Int) t267 _ A5.out).mono ?_); rintro e w' ⟨rfl, ⟨nd, rfl⟩⟩; refine ⟨_, rfl, ?_⟩) | ((with_reducible refine gate_callee (f := 116) rfl ?_); refine gL 21 Try.func116 #[.int .u32 t267, .slice Ao11 t263.length co11] ?_; (with_reducible refine (sum_Add.calls k t267 _ _ t263 t268 _ ?side1 ?side2 A6.out).mono ?_); (case side1 => repeat (first | exact (Kd.R_reads' HO265.out).2.2 | (with_reducible refine Kd.C_alloc ?_ _) | (with_reducible refine Kd.C_drewN ?_ _) | (with_reducible refine Kd.C_drew ?_))); (case side2 => exact (Kd.R_reads' HO265.out).2.1); rintro e w12 ⟨rfl, hb⟩; refine ⟨_, rfl, ?_⟩; have n0_ := Aside0.mk (Kd.R_below (Kd.rz HO265) hb); have n1_ := Aside0.mk (blk_below (kz BK262) hb); have n2_ := Aside0.mk (below_step (bz HB) hb); clear HO265; clear BK262; clear HB; have HO265 := n0_; have BK262 := n1_; have HB := n2_; clear n0_ n1_ n2_; (try clear hb); (try clear hb2); (try clear hk); (try clear hi)) | ((with_reducible refine gate_callee (f := 115) rfl ?_); refine gL 22 Try.func115 #[.int .u32 t268] ?_; (with_reducible refine (sum_Fold.calls k t268 t269 _ A7.out).mono ?_); rintro e w' ⟨rfl, ⟨nd, rfl⟩⟩; refine ⟨_, rfl, ?_⟩))
 go_ret2
 exact ⟨by first | rfl | (simp [errW_none, errW_some] <;> rfl) | (simp [*, errW_none, errW_some] <;> rfl), bz HB⟩
def udp_Right.f (k : Nat) (a0 : Int) (a1 : Int) (a2_0 : Int) (a2_1 : Int) (a2_2 : Int) (l2_3 : List Int) : Option (Bool) := if a2_2 = 0 then (some true) else ((udp_total.f k a0 a1 a2_0 a2_1 a2_2 l2_3).bind fun bt271 => (if bt271.2 = true then (some (bt271.1 == 65535)) else (some false)))
theorem udp_Right.calls (k : Nat) (a0 : Int) (a1 : Int) (a2_0 : Int) (a2_1 : Int) (a2_2 : Int) (A2_3 : Option Addr) (c2_3 : Nat) (l2_3 : List Int) (r : Bool) (w : World) (hr2_3 : Kd.C (Kd.int .u8) w A2_3 l2_3.length l2_3) (hc2_3 : l2_3.length ≤ c2_3) (h : udp_Right.f k a0 a1 a2_0 a2_1 a2_2 l2_3 = some r) :
  Calls Try.prog 59 #[.int .u32 a0, .int .u32 a1, .agg #[.int .u16 a2_0, .int .u16 a2_1, .int .u16 a2_2, .slice A2_3 l2_3.length c2_3]] w fun e w' => e = .returned (.bool r) ∧ Below w.heap.size w w' := by
 have hu83 := Try.underlying83
 have HR2_3 := Aside0.mk hr2_3
 have HC2_3 := Aside0.mk hc2_3
 clear hr2_3 hc2_3
 have HB := Aside0.mk (Below.refl w.heap.size w)
 have H : (if a2_2 = 0 then (some true) else ((udp_total.f k a0 a1 a2_0 a2_1 a2_2 l2_3).bind fun bt271 => (if bt271.2 = true then (some (bt271.1 == 65535)) else (some false)))) = some r := h
 clear h
 by_cases c4 : a2_2 = 0
 ·rw [if_pos c4] at H
  have c4b0 : (a2_2 == 0) = true := beq_iff_eq.mpr c4
  have c4b1 : (a2_2 != 0) = false := bne_eq_false_iff_eq.mpr c4
  clear c4
  obtain rfl := Option.some.inj H
  go_enter Try.func59, Try.ntmps59
  go_wp2_with (first | ((with_reducible refine gate_dst (N := 5) rfl ?_); refine box_event ?hg (N := 5) ?hd (cs := #[.int .u16 a2_0, .int .u16 a2_1, .int .u16 a2_2, .slice A2_3 l2_3.length c2_3]) (t := 83) ?hr ?_; (case hd => rfl); (case hg => rfl); (case hr => first | (go_simp; done) | (go_simp; rfl)); intro gb270 hg w5 hbox hb; have n0_ := Aside0.mk (below_step (bz HB) hb); have n1_ := Aside0.mk (hbox); have n2_ := Aside0.mk ((by rw [hg]; exact (below_size (bz HB)) : w.heap.size ≤ gb270)); have n3_ := Aside0.mk ((by rw [hg]; exact (below_size (bz HB)) : w.heap.size ≤ gb270)); clear HB; have HB := n0_; have BK270 := n1_; have GW270 := n2_; have GE270 := n3_; clear n0_ n1_ n2_ n3_; clear hb hbox hg; have hcz6_0 : w5.cell? ⟨gb270, 0, none⟩ = some (.int .u16 a2_0) := cz BK270.out 0 rfl; have hcz6_1 : w5.cell? ⟨gb270, 1, none⟩ = some (.int .u16 a2_1) := cz BK270.out 1 rfl; have hcz6_2 : w5.cell? ⟨gb270, 2, none⟩ = some (.int .u16 a2_2) := cz BK270.out 2 rfl; have hcz6_3 : w5.cell? ⟨gb270, 3, none⟩ = some (.slice A2_3 l2_3.length c2_3) := cz BK270.out 3 rfl; have hfz6_0 := blk_frozen BK270.out 0; have hfz6_1 := blk_frozen BK270.out 1; have hfz6_2 := blk_frozen BK270.out 2; have hfz6_3 := blk_frozen BK270.out 3))
  go_ret
  exact ⟨by first | rfl | (simp [errW_none, errW_some] <;> rfl) | (simp [*, errW_none, errW_some] <;> rfl), bz HB⟩
 ·rw [if_neg c4] at H
  have c4b0 : (a2_2 == 0) = false := beq_eq_false_iff_ne.mpr c4
  have c4b1 : (a2_2 != 0) = true := bne_iff_ne.mpr c4
  replace H := Option.bind_eq_some_iff.mp H
  obtain ⟨⟨t271, t272⟩, A70, H⟩ := H
  replace H : (if t272 = true then (some (t271 == 65535)) else (some false)) = some r := H
  have A7 := Aside0.mk A70
  clear A70
  by_cases c8 : t272 = true
  ·subst c8
   have H1 : (some (t271 == 65535)) = some r := by rw [if_pos rfl] at H; exact H
   clear H
   have H := H1
   clear H1
   obtain rfl := Option.some.inj H
   go_enter Try.func59, Try.ntmps59
   go_wp2_with (first | ((with_reducible refine gate_dst (N := 5) rfl ?_); refine box_event ?hg (N := 5) ?hd (cs := #[.int .u16 a2_0, .int .u16 a2_1, .int .u16 a2_2, .slice A2_3 l2_3.length c2_3]) (t := 83) ?hr ?_; (case hd => rfl); (case hg => rfl); (case hr => first | (go_simp; done) | (go_simp; rfl)); intro gb270 hg w9 hbox hb; have n0_ := Aside0.mk (below_step (bz HB) hb); have n1_ := Aside0.mk (hbox); have n2_ := Aside0.mk ((by rw [hg]; exact (below_size (bz HB)) : w.heap.size ≤ gb270)); have n3_ := Aside0.mk ((by rw [hg]; exact (below_size (bz HB)) : w.heap.size ≤ gb270)); clear HB; have HB := n0_; have BK270 := n1_; have GW270 := n2_; have GE270 := n3_; clear n0_ n1_ n2_ n3_; clear hb hbox hg; have hcz10_0 : w9.cell? ⟨gb270, 0, none⟩ = some (.int .u16 a2_0) := cz BK270.out 0 rfl; have hcz10_1 : w9.cell? ⟨gb270, 1, none⟩ = some (.int .u16 a2_1) := cz BK270.out 1 rfl; have hcz10_2 : w9.cell? ⟨gb270, 2, none⟩ = some (.int .u16 a2_2) := cz BK270.out 2 rfl; have hcz10_3 : w9.cell? ⟨gb270, 3, none⟩ = some (.slice A2_3 l2_3.length c2_3) := cz BK270.out 3 rfl; have hfz10_0 := blk_frozen BK270.out 0; have hfz10_1 := blk_frozen BK270.out 1; have hfz10_2 := blk_frozen BK270.out 2; have hfz10_3 := blk_frozen BK270.out 3) | ((with_reducible refine gate_callee (f := 98) rfl ?_); refine gL 16 Try.func98 #[.int .u32 a0, .int .u32 a1, .agg #[.int .u16 a2_0, .int .u16 a2_1, .int .u16 a2_2, .slice A2_3 l2_3.length c2_3]] ?_; (with_reducible refine (udp_total.calls k a0 a1 a2_0 a2_1 a2_2 _ _ l2_3 t271 true _ ?side1 ?side2 A7.out).mono ?_); (case side1 => exact Kd.C_below HR2_3.out (bz HB)); (case side2 => exact HC2_3.out); rintro e w11 ⟨rfl, hb⟩; refine ⟨_, rfl, ?_⟩; have n0_ := Aside0.mk (blk_below (kz BK270) hb); have n1_ := Aside0.mk (below_step (bz HB) hb); clear BK270; clear HB; have BK270 := n0_; have HB := n1_; clear n0_ n1_; (try clear hb); (try clear hb2); (try clear hk); (try clear hi)))
   go_ret
   exact ⟨by first | rfl | (simp [errW_none, errW_some] <;> rfl) | (simp [*, errW_none, errW_some] <;> rfl), bz HB⟩
  ·replace c8 := Bool.eq_false_iff.mpr c8
   subst c8
   have H1 : (some false) = some r := by rw [if_neg (show ¬ (false = true) by decide)] at H; exact H
   clear H
   have H := H1
   clear H1
   obtain rfl := Option.some.inj H
   go_enter Try.func59, Try.ntmps59
   go_wp2_with (first | ((with_reducible refine gate_dst (N := 5) rfl ?_); refine box_event ?hg (N := 5) ?hd (cs := #[.int .u16 a2_0, .int .u16 a2_1, .int .u16 a2_2, .slice A2_3 l2_3.length c2_3]) (t := 83) ?hr ?_; (case hd => rfl); (case hg => rfl); (case hr => first | (go_simp; done) | (go_simp; rfl)); intro gb270 hg w12 hbox hb; have n0_ := Aside0.mk (below_step (bz HB) hb); have n1_ := Aside0.mk (hbox); have n2_ := Aside0.mk ((by rw [hg]; exact (below_size (bz HB)) : w.heap.size ≤ gb270)); have n3_ := Aside0.mk ((by rw [hg]; exact (below_size (bz HB)) : w.heap.size ≤ gb270)); clear HB; have HB := n0_; have BK270 := n1_; have GW270 := n2_; have GE270 := n3_; clear n0_ n1_ n2_ n3_; clear hb hbox hg; have hcz13_0 : w12.cell? ⟨gb270, 0, none⟩ = some (.int .u16 a2_0) := cz BK270.out 0 rfl; have hcz13_1 : w12.cell? ⟨gb270, 1, none⟩ = some (.int .u16 a2_1) := cz BK270.out 1 rfl; have hcz13_2 : w12.cell? ⟨gb270, 2, none⟩ = some (.int .u16 a2_2) := cz BK270.out 2 rfl; have hcz13_3 : w12.cell? ⟨gb270, 3, none⟩ = some (.slice A2_3 l2_3.length c2_3) := cz BK270.out 3 rfl; have hfz13_0 := blk_frozen BK270.out 0; have hfz13_1 := blk_frozen BK270.out 1; have hfz13_2 := blk_frozen BK270.out 2; have hfz13_3 := blk_frozen BK270.out 3) | ((with_reducible refine gate_callee (f := 98) rfl ?_); refine gL 16 Try.func98 #[.int .u32 a0, .int .u32 a1, .agg #[.int .u16 a2_0, .int .u16 a2_1, .int .u16 a2_2, .slice A2_3 l2_3.length c2_3]] ?_; (with_reducible refine (udp_total.calls k a0 a1 a2_0 a2_1 a2_2 _ _ l2_3 t271 false _ ?side1 ?side2 A7.out).mono ?_); (case side1 => exact Kd.C_below HR2_3.out (bz HB)); (case side2 => exact HC2_3.out); rintro e w14 ⟨rfl, hb⟩; refine ⟨_, rfl, ?_⟩; have n0_ := Aside0.mk (blk_below (kz BK270) hb); have n1_ := Aside0.mk (below_step (bz HB) hb); clear BK270; clear HB; have BK270 := n0_; have HB := n1_; clear n0_ n1_; (try clear hb); (try clear hb2); (try clear hk); (try clear hi)))
   go_ret
   exact ⟨by first | rfl | (simp [errW_none, errW_some] <;> rfl) | (simp [*, errW_none, errW_some] <;> rfl), bz HB⟩
def vxlan_Parse.f (l0 : List Int) : Option (Int × List Int × Int) := if (l0.length : Int) < 8 then (some (0, ([] : List Int), 20)) else (if 0 < (l0.length : Int) then (if (Go.bits .and .u8 (rd l0 0) 8) = 0 then (some (0, ([] : List Int), 21)) else (if 7 ≤ (l0.length : Int) then (if 0 < (((l0.take 7).drop 4).length : Int) then (if 1 < (((l0.take 7).drop 4).length : Int) then (if 2 < (((l0.take 7).drop 4).length : Int) then (if 8 ≤ (l0.length : Int) then ((slices_Clone_byte_byte.f (l0.drop 8)).bind fun t279 => (some (Go.bits .or .u32 (Go.bits .or .u32 ((((rd ((l0.take 7).drop 4) 0) % 4294967296) * 65536) % 4294967296) ((((rd ((l0.take 7).drop 4) 1) % 4294967296) * 256) % 4294967296)) ((rd ((l0.take 7).drop 4) 2) % 4294967296), t279, 0))) else (none)) else (none)) else (none)) else (none)) else (none))) else (none))
def vxlan_Parse.T6 : Bool × List (List Nat × List Nat) := (true, [([], []), ([0], [0]), ([1], [1]), ([2], [2]), ([3], [3]), ([], []), ([5], [5]), ([6], [6]), ([7], [7]), ([8], [8]), ([4, 9], [4, 9]), ([], []), ([11], [11]), ([12], [12]), ([13], [13]), ([10, 14], [10, 14]), ([], []), ([16], [16]), ([17], [17]), ([15, 18, 0, 1, 2, 3, 4, 5, 6, 7, 8, 9, 10, 11, 12, 13, 14, 15], [15]), ([18, 19, 0, 1, 2, 3, 4, 5, 6, 7, 8, 9, 10, 11, 12, 13, 14, 15, 16, 17, 18, 19], [18]), ([20, 0, 1, 2, 3, 4, 5, 6, 7, 8, 9, 10, 11, 12, 13, 14, 15, 16, 17, 18, 19, 20], [])])
def vxlan_Parse.B6 : List Nat := [0, 1, 3, 7, 15, 0, 32, 96, 224, 480, 1023, 0, 2048, 6144, 14336, 32767, 0, 65536, 196608, 524287, 1048575, 2097151]
theorem vxlan_Parse.tab6 : rtab .any (opsOf Try.f60 6) = vxlan_Parse.T6 := by kernel_rfl
theorem vxlan_Parse.bits6 : waitsOk vxlan_Parse.T6.2 vxlan_Parse.B6 = true := by kernel_rfl
theorem vxlan_Parse.calls (A0 : Option Addr) (c0 : Nat) (l0 : List Int) (r1 : Int) (r2 : List Int) (r3 : Int) (w : World) (hr0 : Kd.C (Kd.int .u8) w A0 l0.length l0) (hc0 : l0.length ≤ c0) (h : vxlan_Parse.f l0 = some (r1, r2, r3)) :
  Calls Try.prog 60 #[.slice A0 l0.length c0] w fun e w' => ∃ v1_ : Value, e = .returned (.tuple #[.int .u32 r1, v1_, .int .i64 r3]) ∧ Kd.R (Kd.int .u8) 5 w' w.heap.size (fun _ => True) v1_ r2 ∧ Below w.heap.size w w' := by
 have HR0 := Aside0.mk hr0
 have HC0 := Aside0.mk hc0
 clear hr0 hc0
 have HB := Aside0.mk (Below.refl w.heap.size w)
 have H : (if (l0.length : Int) < 8 then (some (0, ([] : List Int), 20)) else (if 0 < (l0.length : Int) then (if (Go.bits .and .u8 (rd l0 0) 8) = 0 then (some (0, ([] : List Int), 21)) else (if 7 ≤ (l0.length : Int) then (if 0 < (((l0.take 7).drop 4).length : Int) then (if 1 < (((l0.take 7).drop 4).length : Int) then (if 2 < (((l0.take 7).drop 4).length : Int) then (if 8 ≤ (l0.length : Int) then ((slices_Clone_byte_byte.f (l0.drop 8)).bind fun t279 => (some (Go.bits .or .u32 (Go.bits .or .u32 ((((rd ((l0.take 7).drop 4) 0) % 4294967296) * 65536) % 4294967296) ((((rd ((l0.take 7).drop 4) 1) % 4294967296) * 256) % 4294967296)) ((rd ((l0.take 7).drop 4) 2) % 4294967296), t279, 0))) else (none)) else (none)) else (none)) else (none)) else (none))) else (none))) = some (r1, r2, r3) := h
 clear h
 by_cases c2 : (l0.length : Int) < 8
 ·rw [if_pos c2] at H
  have c2b0 : decide ((l0.length : Int) < 8) = true := decide_eq_true c2
  have c2b1 : decide (l0.length < 8) = true := decide_eq_true (by omega)
  clear c2
  simp only [Option.some.injEq, Prod.mk.injEq] at H
  obtain ⟨rfl, rfl, rfl⟩ := H
  go_enter Try.func60, Try.ntmps60
  go_wp2
  go_ret3
  exact ⟨_, by first | rfl | (simp [errW_none, errW_some] <;> rfl) | (simp [*, errW_none, errW_some] <;> rfl), by first | exact Kd.R_nil _ _ _ _ _ | exact Kd.N_nil _ _ _ _ _ | exact Kd.V_nil _ _ _ _ _ | exact Kd.Q_nil _ _ _ _ _ | exact Kd.S_nil _ _ _ _ _, bz HB⟩
 ·rw [if_neg c2] at H
  have c2b0 : decide ((l0.length : Int) < 8) = false := decide_eq_false c2
  have c2b1 : decide (l0.length < 8) = false := decide_eq_false (by omega)
  clear c2
  by_cases c3 : 0 < (l0.length : Int)
  ·rw [if_pos c3] at H
   have c3b0 : decide (0 < (l0.length : Int)) = true := decide_eq_true c3
   have c3b1 : decide (0 < l0.length) = true := decide_eq_true (by omega)
   clear c3
   by_cases c4 : (Go.bits .and .u8 (rd l0 0) 8) = 0
   ·rw [if_pos c4] at H
    have c4b0 : ((Go.bits .and .u8 (rd l0 0) 8) == 0) = true := beq_iff_eq.mpr c4
    have c4b1 : ((Go.bits .and .u8 (rd l0 0) 8) != 0) = false := bne_eq_false_iff_eq.mpr c4
    clear c4
    simp only [Option.some.injEq, Prod.mk.injEq] at H
    obtain ⟨rfl, rfl, rfl⟩ := H
    have p273 : 0 ≤ (0 : Int) := (by omega)
    have q273 : 0 < (l0.length : Int) := of_decide_eq_true (by first | (with_reducible assumption) | assumption)
    obtain ⟨ad273, e273, hx273_0⟩ := Kd.at_int HR0.out 0 p273 q273
    cases e273
    have qi273 : (0 < l0.length) = True := eq_true (by omega)
    (try rw [show ((0 : Int)).toNat = 0 from rfl] at hx273_0)
    (try rw [Addr.add_zero'] at hx273_0)
    replace p273 := eq_true p273
    replace q273 := eq_true q273
    go_enter Try.func60, Try.ntmps60
    go_wp2
    go_ret3
    exact ⟨_, by first | rfl | (simp [errW_none, errW_some] <;> rfl) | (simp [*, errW_none, errW_some] <;> rfl), by first | exact Kd.R_nil _ _ _ _ _ | exact Kd.N_nil _ _ _ _ _ | exact Kd.V_nil _ _ _ _ _ | exact Kd.Q_nil _ _ _ _ _ | exact Kd.S_nil _ _ _ _ _, bz HB⟩
   ·rw [if_neg c4] at H
    have c4b0 : ((Go.bits .and .u8 (rd l0 0) 8) == 0) = false := beq_eq_false_iff_ne.mpr c4
    have c4b1 : ((Go.bits .and .u8 (rd l0 0) 8) != 0) = true := bne_iff_ne.mpr c4
    by_cases c5 : 7 ≤ (l0.length : Int)
    ·rw [if_pos c5] at H
     have c5b0 := eq_true c5
     have c5b1 : decide (7 ≤ (l0.length : Int)) = true := decide_eq_true c5
     clear c5
     by_cases c6 : 0 < (((l0.take 7).drop 4).length : Int)
     ·rw [if_pos c6] at H
      have c6b0 : decide (0 < (((l0.take 7).drop 4).length : Int)) = true := decide_eq_true c6
      have c6b1 : decide (0 < ((l0.take 7).drop 4).length) = true := decide_eq_true (by omega)
      clear c6
      by_cases c7 : 1 < (((l0.take 7).drop 4).length : Int)
      ·rw [if_pos c7] at H
       have c7b0 : decide (1 < (((l0.take 7).drop 4).length : Int)) = true := decide_eq_true c7
       have c7b1 : decide (1 < ((l0.take 7).drop 4).length) = true := decide_eq_true (by omega)
       clear c7
       by_cases c8 : 2 < (((l0.take 7).drop 4).length : Int)
       ·rw [if_pos c8] at H
        have c8b0 : decide (2 < (((l0.take 7).drop 4).length : Int)) = true := decide_eq_true c8
        have c8b1 : decide (2 < ((l0.take 7).drop 4).length) = true := decide_eq_true (by omega)
        clear c8
        by_cases c9 : 8 ≤ (l0.length : Int)
        ·rw [if_pos c9] at H
         have c9b0 := eq_true c9
         have c9b1 : decide (8 ≤ (l0.length : Int)) = true := decide_eq_true c9
         clear c9
         replace H := Option.bind_eq_some_iff.mp H
         obtain ⟨t279, A100, H⟩ := H
         replace H : (some (Go.bits .or .u32 (Go.bits .or .u32 ((((rd ((l0.take 7).drop 4) 0) % 4294967296) * 65536) % 4294967296) ((((rd ((l0.take 7).drop 4) 1) % 4294967296) * 256) % 4294967296)) ((rd ((l0.take 7).drop 4) 2) % 4294967296), t279, 0)) = some (r1, r2, r3) := H
         have A10 := Aside0.mk A100
         clear A100
         simp only [Option.some.injEq, Prod.mk.injEq] at H
         obtain ⟨rfl, rfl, rfl⟩ := H
         have p273 : 0 ≤ (0 : Int) := (by omega)
         have q273 : 0 < (l0.length : Int) := of_decide_eq_true (by first | (with_reducible assumption) | assumption)
         obtain ⟨ad273, e273, hx273_0⟩ := Kd.at_int HR0.out 0 p273 q273
         cases e273
         have qi273 : (0 < l0.length) = True := eq_true (by omega)
         (try rw [show ((0 : Int)).toNat = 0 from rfl] at hx273_0)
         (try rw [Addr.add_zero'] at hx273_0)
         replace p273 := eq_true p273
         replace q273 := eq_true q273
         obtain ⟨i011, hi011, _, hsz11, _⟩ := info_parts info5
         obtain ⟨A11, hcut11, hA11, hC11⟩ := print_mid3_of (P := Try.prog) (Value.int .u8) 0 23 5 .i64 .i64 .i64 Try.underlying23 hi011 hsz11 (some ad273) c0 l0 4 7 (by omega) (by first | omega | exact of_decide_eq_true (by first | (with_reducible assumption) | assumption)) (of_decide_eq_true (by first | (with_reducible assumption) | assumption)) HC0.out
         have HR274 := Aside0.mk (Kd.C_of_reads (h1 := fun _ => rfl) (hA11 _ (Kd.reads_of_C HR0.out)))
         have HC274 := Aside0.mk hC11
         clear hA11 hC11 hi011 hsz11
         have hmn11 : min 7 l0.length - 4 = 3 := (by have h_ : (7 : Int) ≤ (l0.length : Int) := of_decide_eq_true (by first | (with_reducible assumption) | assumption); omega)
         go_enter Try.func60, Try.ntmps60
         try go_wp2
         have n0_ := Aside0.mk (below_drew1 HB.out)
         clear HB
         have HB := n0_
         clear n0_
         have p275 : 0 ≤ (0 : Int) := (by omega)
         have q275 : 0 < (((l0.take 7).drop 4).length : Int) := of_decide_eq_true (by first | (with_reducible assumption) | assumption)
         obtain ⟨ad275, e275, hx275_0⟩ := Kd.at_int HR274.out 0 p275 q275
         have hw275_0 := hx275_0
         (try rw [show ((0 : Int)).toNat = 0 from rfl] at hw275_0)
         (try rw [show 0 * 1 = 0 from rfl] at hw275_0)
         (try rw [Addr.add_zero'] at hw275_0)
         cases e275
         have qi275 : (0 < ((l0.take 7).drop 4).length) = True := eq_true (by omega)
         (try rw [show ((0 : Int)).toNat = 0 from rfl] at hx275_0)
         (try rw [Addr.add_zero'] at hx275_0)
         replace hx275_0 := (HB.out.cell (World.block_lt_of_cell? w _ hx275_0)).trans hx275_0
         replace p275 := eq_true p275
         replace q275 := eq_true q275
         have p276 : 0 ≤ (1 : Int) := (by omega)
         have q276 : 1 < (((l0.take 7).drop 4).length : Int) := of_decide_eq_true (by first | (with_reducible assumption) | assumption)
         obtain ⟨ad276, e276, hx276_0⟩ := Kd.at_int HR274.out 1 p276 q276
         have hw276_0 := hx276_0
         (try rw [show ((1 : Int)).toNat = 1 from rfl] at hw276_0)
         (try rw [show 1 * 1 = 1 from rfl] at hw276_0)
         (try simp only [Nat.reduceMul, Nat.reduceEqDiff, Go.Addr.add, ↓reduceIte] at hw276_0)
         obtain rfl : ad275 = ad276 := (by injection e276)
         (try simp only [show (1 : Int).toNat = 1 from rfl, Nat.reduceMul, Nat.reduceEqDiff, Go.Addr.add, ↓reduceIte] at hx276_0)
         have qi276 : (1 < ((l0.take 7).drop 4).length) = True := eq_true (by omega)
         (try rw [show ((1 : Int)).toNat = 1 from rfl] at hx276_0)
         replace hx276_0 := (HB.out.cell (World.block_lt_of_cell? w _ hx276_0)).trans hx276_0
         replace p276 := eq_true p276
         replace q276 := eq_true q276
         have p277 : 0 ≤ (2 : Int) := (by omega)
         have q277 : 2 < (((l0.take 7).drop 4).length : Int) := of_decide_eq_true (by first | (with_reducible assumption) | assumption)
         obtain ⟨ad277, e277, hx277_0⟩ := Kd.at_int HR274.out 2 p277 q277
         have hw277_0 := hx277_0
         (try rw [show ((2 : Int)).toNat = 2 from rfl] at hw277_0)
         (try rw [show 2 * 1 = 2 from rfl] at hw277_0)
         (try simp only [Nat.reduceMul, Nat.reduceEqDiff, Go.Addr.add, ↓reduceIte] at hw277_0)
         obtain rfl : ad275 = ad277 := (by injection e277)
         (try simp only [show (2 : Int).toNat = 2 from rfl, Nat.reduceMul, Nat.reduceEqDiff, Go.Addr.add, ↓reduceIte] at hx277_0)
         have qi277 : (2 < ((l0.take 7).drop 4).length) = True := eq_true (by omega)
         (try rw [show ((2 : Int)).toNat = 2 from rfl] at hx277_0)
         replace hx277_0 := (HB.out.cell (World.block_lt_of_cell? w _ hx277_0)).trans hx277_0
         replace p277 := eq_true p277
         replace q277 := eq_true q277
         obtain ⟨i013, hi013, _, hsz13, _⟩ := info_parts info5
         obtain ⟨A13, hcut13, hA13, hC13⟩ := print_drop_of (P := Try.prog) (Value.int .u8) 0 23 5 .i64 Try.underlying23 hi013 hsz13 (some ad273) c0 l0 8 (by omega) (of_decide_eq_true (by first | (with_reducible assumption) | assumption)) HC0.out
         have HR278 := Aside0.mk (Kd.C_of_reads (h1 := fun _ => rfl) (hA13 _ (Kd.reads_of_C HR0.out)))
         have HC278 := Aside0.mk hC13
         clear hA13 hC13 hi013 hsz13
         refine start_ (n := 22) (S := fun w' => w'.cell? ad275 = some (.int .u8 (rd ((l0.take 7).drop 4) 0)) ∧ w'.cell? ⟨ad275.block, ad275.off + 1, none⟩ = some (.int .u8 (rd ((l0.take 7).drop 4) 1)) ∧ w'.cell? ⟨ad275.block, ad275.off + 2, none⟩ = some (.int .u8 (rd ((l0.take 7).drop 4) 2))) (ds := []) #[false, false, false, false, false, false, false, false, false, false, false, false, false, false, false, false, false, false, false, false, false, false] (by kernel_rfl) rfl rfl ⟨((HB.out.cell (World.block_lt_of_cell? w _ hw275_0)).trans hw275_0), ((HB.out.cell (World.block_lt_of_cell? w _ hw276_0)).trans hw276_0), ((HB.out.cell (World.block_lt_of_cell? w _ hw277_0)).trans hw277_0)⟩ (fun hHeld => ?_); refine with_tabW vxlan_Parse.tab6 vxlan_Parse.bits6 (fun HT_ HW_ => ?_)
         generalize w.drew = w12 at HB HR278 hx275_0 hx276_0 hx277_0 hHeld ⊢
         refine pz 0 18 HT_ ?_
         refine pz 1 19 HT_ ?_
         refine pz 5 23 HT_ ?_
         refine pz 6 24 HT_ ?_
         refine pz 11 29 HT_ ?_
         refine pz 12 30 HT_ ?_
         refine pz 16 34 HT_ ?_
         refine pz 17 35 HT_ ?_
         refine take_ (i := 2) (N := some 20) (v := ?_) (a' := ?_) #[true, true, true, false, false, true, true, false, false, false, false, true, true, false, false, false, true, true, false, false, false, false] rfl rfl (take_ofW HT_.out HW_.out (by kernel_rfl)) (fun _ _ _ h => h) (Or.inl ⟨by rfl, ?_⟩) hHeld ?_ ?_
         rotate_left
         ·rintro w' ⟨s0, s1, s2⟩
          go_simp
          with_reducible rfl
         rotate_left
         ·simp only [ps_]
          rfl
         refine pz 3 21 HT_ ?_
         refine pz 4 22 HT_ ?_
         refine take_ (i := 7) (N := some 25) (v := ?_) (a' := ?_) #[true, true, true, true, true, true, true, true, false, false, false, true, true, false, false, false, true, true, false, false, false, false] rfl rfl (take_ofW HT_.out HW_.out (by kernel_rfl)) (fun _ _ _ h => h) (Or.inl ⟨by rfl, ?_⟩) hHeld ?_ ?_
         rotate_left
         ·rintro w' ⟨s0, s1, s2⟩
          go_simp
          with_reducible rfl
         rotate_left
         ·simp only [ps_]
          rfl
         refine pz 8 26 HT_ ?_
         refine pz 9 27 HT_ ?_
         refine pz 10 28 HT_ ?_
         refine take_ (i := 13) (N := some 31) (v := ?_) (a' := ?_) #[true, true, true, true, true, true, true, true, true, true, true, true, true, true, false, false, true, true, false, false, false, false] rfl rfl (take_ofW HT_.out HW_.out (by kernel_rfl)) (fun _ _ _ h => h) (Or.inl ⟨by rfl, ?_⟩) hHeld ?_ ?_
         rotate_left
         ·rintro w' ⟨s0, s1, s2⟩
          go_simp
          with_reducible rfl
         rotate_left
         ·simp only [ps_]
          rfl
         refine pz 14 32 HT_ ?_
         refine pz 15 33 HT_ ?_
         refine oz 18 (some 36) HT_ (fun K hK => ?_)
         refine goes_ Try.func97 (by kernel_rfl) rfl #[.slice A13 (l0.drop 8).length (c0 - 8)] (by rfl) rfl rfl (by (try simp only [List.map_toArray, List.map_cons, List.map_nil]); first | done | (rw [show (l0.drop 8).length = (l0.length - 8) from List.length_drop] <;> rfl) | rfl | (simp only [List.length_drop, List.length_take]; rfl) | (go_simp; done) | (simp [Act.eval, IntKind.signed]; done) | (simp [Act.eval, IntKind.signed]; rfl)) ?_
         with_reducible refine (slices_Clone_byte_byte.calls _ _ (l0.drop 8) t279 _ ?side1 ?side2 A10.out).mono ?_
         (case side1 => exact Kd.C_below HR278.out (bz HB))
         (case side2 => exact HC278.out)
         rintro e w14 ⟨v280, rfl, ho0, hb⟩
         refine ⟨_, rfl, ?_⟩
         have n0_ := Aside0.mk (Kd.R_lower ho0 (below_size (bz HB)))
         have n1_ := Aside0.mk (below_step (bz HB) hb)
         clear HB
         have HO281 := n0_
         have HB := n1_
         clear n0_ n1_
         (try clear hb)
         (try clear hb2)
         (try clear hk)
         (try clear hi)
         (try clear ho0)
         refine hK.out _ _ ⟨((HB.out.cell (World.block_lt_of_cell? w _ hw275_0)).trans hw275_0), ((HB.out.cell (World.block_lt_of_cell? w _ hw276_0)).trans hw276_0), ((HB.out.cell (World.block_lt_of_cell? w _ hw277_0)).trans hw277_0)⟩ (fun hHeld => ?_)
         clear hK K
         refine nz 36 ?_
         refine pz 19 2 HT_ ?_
         refine pz 20 3 HT_ ?_
         refine pz 21 4 HT_ ?_
         refine dz HT_ ?_
         try go_wp2
         go_ret3
         exact ⟨_, by first | rfl | (simp [errW_none, errW_some] <;> rfl) | (simp [*, errW_none, errW_some] <;> rfl), by (with_reducible repeat (first | apply Kd.R_alloc | apply Kd.R_drewN | apply Kd.R_drew)); exact HO281.out, bz HB⟩
        ·rw [if_neg c9] at H
         exact absurd H (by simp)
       ·rw [if_neg c8] at H
        exact absurd H (by simp)
      ·rw [if_neg c7] at H
       exact absurd H (by simp)
     ·rw [if_neg c6] at H
      exact absurd H (by simp)
    ·rw [if_neg c5] at H
     exact absurd H (by simp)
  ·rw [if_neg c3] at H
   exact absurd H (by simp)
end Go.Proofs.Ytkmimamminddiaa.PB
namespace Go.Proofs.Ytkmimamminddiaa.PB
open Go.RowKit Go.Proofs.YtkmimamminddiaaW.PrintWords Go.Proofs.YtkmimamminddiaaW.PrintLast Go.Proofs.YtkmimamminddiaaW.PrintMore
set_option linter.unusedVariables false
set_option linter.unusedSimpArgs false
def insF (k : Nat) (ip m1 m2 m3 m4 m5 m6 : Int) (b : List Int) : Option (Int × List Int × Int) :=
 (bodyF b m1 m2 m3 m4 m5 m6).bind fun p => if p.2 = -1 then
  (ip_Parse.f k p.1).bind fun ⟨_, _, pr, _, fl, of, sr, ds, _, bd, e⟩ => if e = 0 ∧ ds = ip ∧ pr = 17 ∧ Go.bits .and .u8 fl 1 = 0 ∧ of = 0 then
   (udp_Parse.f bd).bind fun ⟨us, ud, um, ub, ue⟩ => if ue = 0 ∧ ud = 4789 then
    (udp_Right.f k sr ds us ud um ub).bind fun r => if r = true then
     (vxlan_Parse.f ub).bind fun ⟨v, vb, ve⟩ => if ve = 0 then
      (eth_Parse.f vb).bind fun ⟨_, _, _, _, _, _, _, _, _, _, _, _, ty, fb, fe⟩ => if fe = 0 ∧ ty = 2048 then some (v, fb, -1) else some (0, [], 0)
     else some (0, [], 0)
    else some (0, [], 0)
   else some (0, [], 0)
  else some (0, [], 0)
 else some (0, [], p.2)
def frames_Inside.R16.T : Bool × List (List Nat × List Nat) := (true, [([], []), ([], []), ([1], [1]), ([0, 0], [0]), ([2, 3, 0, 1, 2, 3], [2]), ([4, 0, 1, 2, 3, 4], [])])
theorem frames_Inside.R16.tab : rtab .any (opsOf Try.f20 16) = frames_Inside.R16.T := by kernel_rfl
theorem frames_Inside.R16.bits : waitsOk frames_Inside.R16.T.2 [0, 0, 2, 1, 15, 31] = true := by kernel_rfl
theorem frames_Inside.calls (k : Nat) (a0_0 a0_1 a0_2 a0_3 a0_4 a0_5 a0_6 a0_7 a0_8 a0_9 a0_10 a0_11 a0_12 a0_13 a0_14 a0_15 a0_16 a0_17 a0_18 a0_19 a0_20 a0_21 a0_22 a0_23 a0_24 a0_25 a0_26 a0_27 : Int) (A0_28 : Option Addr) (n0_28 c0_28 : Nat) (A1 : Option Addr) (c1 : Nat) (l1 : List Int) (r1 : Int) (r2 : List Int) (r3 : Int) (w : World) (hr1 : Kd.C (Kd.int .u8) w A1 l1.length l1) (hc1 : l1.length ≤ c1) (h : insF k a0_0 a0_1 a0_2 a0_3 a0_4 a0_5 a0_6 l1 = some (r1, r2, r3)) :
  Calls Try.prog 20 #[.agg #[.int .u32 a0_0, .int .u8 a0_1, .int .u8 a0_2, .int .u8 a0_3, .int .u8 a0_4, .int .u8 a0_5, .int .u8 a0_6, .int .u8 a0_7, .int .u8 a0_8, .int .u8 a0_9, .int .u8 a0_10, .int .u8 a0_11, .int .u8 a0_12, .int .u8 a0_13, .int .u8 a0_14, .int .u8 a0_15, .int .u8 a0_16, .int .u8 a0_17, .int .u8 a0_18, .int .u8 a0_19, .int .u8 a0_20, .int .u8 a0_21, .int .u8 a0_22, .int .u8 a0_23, .int .u8 a0_24, .int .u8 a0_25, .int .u8 a0_26, .int .u32 a0_27, .slice A0_28 n0_28 c0_28], .slice A1 l1.length c1] w fun e w' => ∃ v0_ : Value, e = .returned (.tuple #[.int .u32 r1, v0_, .int .i64 r3]) ∧ Kd.R (Kd.int .u8) 5 w' w.heap.size (fun _ => True) v0_ r2 ∧ Below w.heap.size w w' := by
 have hu33 := Try.underlying33
 have hu29 := Try.underlying29
 have hu73 := Try.underlying73
 have hu83 := Try.underlying83
 have hu58 := Try.underlying58
 have HC := Aside0.mk hr1
 have HCC := Aside0.mk hc1
 have HB := Aside0.mk (Below.refl w.heap.size w)
 clear hr1 hc1
 have H : insF k a0_0 a0_1 a0_2 a0_3 a0_4 a0_5 a0_6 l1 = some (r1, r2, r3) := h
 clear h
 unfold insF at H
 obtain ⟨⟨p1, p2⟩, hp, H⟩ := bind_some_ H
 have HP := Aside0.mk hp
 clear hp
 go_enter Try.func20, Try.ntmps20
 go_upto_region 1 with (((with_reducible refine gate_dst (N := 2) rfl ?_); refine box_event ?hg (N := 2) ?hd (cs := #[.int .u32 a0_0, .int .u8 a0_1, .int .u8 a0_2, .int .u8 a0_3, .int .u8 a0_4, .int .u8 a0_5, .int .u8 a0_6, .int .u8 a0_7, .int .u8 a0_8, .int .u8 a0_9, .int .u8 a0_10, .int .u8 a0_11, .int .u8 a0_12, .int .u8 a0_13, .int .u8 a0_14, .int .u8 a0_15, .int .u8 a0_16, .int .u8 a0_17, .int .u8 a0_18, .int .u8 a0_19, .int .u8 a0_20, .int .u8 a0_21, .int .u8 a0_22, .int .u8 a0_23, .int .u8 a0_24, .int .u8 a0_25, .int .u8 a0_26, .int .u32 a0_27, .slice A0_28 n0_28 c0_28]) (t := 33) ?hr ?_; (case hd => rfl); (case hg => rfl); (case hr => first | (go_simp; done) | (go_simp; rfl)); intro gp hg w1 hbox hb; have n0_ := Aside0.mk (below_step (bz HB) hb); have HQ := Aside0.mk hbox; clear HB ; have HB := n0_; clear n0_  hb hbox hg))
 have gp1 := cz HQ.out 1 rfl
 have gp2 := cz HQ.out 2 rfl
 have gp3 := cz HQ.out 3 rfl
 have gp4 := cz HQ.out 4 rfl
 have gp5 := cz HQ.out 5 rfl
 have gp6 := cz HQ.out 6 rfl
 go_wp2_with fail
 clear gp1 gp2 gp3 gp4 gp5 gp6
 refine (frames_body.calls' A1 c1 l1 a0_1 a0_2 a0_3 a0_4 a0_5 a0_6 p1 p2 w1 (Kd.C_below HC.out HB.out) HCC.out HP.out).mono ?_
 rintro e w2 ⟨v, rfl, ho, hb⟩
 obtain ⟨Ab, cb, rfl, hcb, hkb⟩ := Kd.R_reads ho
 have HKb := Aside0.mk hkb
 have HCb := Aside0.mk hcb
 clear ho hkb hcb HP
 have hb_ := hb
 have n_HB := Aside0.mk (below_step HB.out hb_)
 have n_HQ := Aside0.mk (blk_below HQ.out hb_)
 clear HB HQ hb_
 have HB := n_HB
 have HQ := n_HQ
 clear n_HB n_HQ
 clear hb
 (try dsimp only at H)
 by_cases cp : p2 = -1
 ·have cp1 : (p2 == -1) = true := beq_iff_eq.2 cp
  have cp2 : (p2 != -1) = false := by rw [bne, cp1]; rfl
  rw [if_pos cp] at H
  clear cp
  obtain ⟨⟨q1, q2, q3, q4, q5, q6, q7, q8, qo, qb, qe⟩, hq, H⟩ := bind_some_ H
  (try dsimp only)
  go_wp2_with fail
  refine (ip_Parse.calls k Ab cb p1 q1 q2 q3 q4 q5 q6 q7 q8 qo qb qe w2 HKb.out HCb.out hq).mono ?_
  rintro e w3 ⟨v8, v9, rfl, ho8, ho9, hb⟩
  obtain ⟨A8, c8, rfl, _, _⟩ := Kd.R_reads ho8
  obtain ⟨A9, c9, rfl, hc9, hk9⟩ := Kd.R_reads ho9
  have HK9 := Aside0.mk hk9
  have HC9 := Aside0.mk hc9
  clear ho8 ho9 HKb hk9 hc9 hq
  have hb_ := hb
  have n_HB := Aside0.mk (below_step HB.out hb_)
  have n_HQ := Aside0.mk (blk_below HQ.out hb_)
  clear HB HQ hb_
  have HB := n_HB
  have HQ := n_HQ
  clear n_HB n_HQ
  clear hb
  (try dsimp only)
  go_upto_region 5 with (((refine ev_skip_ rfl rfl (st_new_ rfl rfl rfl (by kernel_rfl) rfl (by simp [Value.oneCell'])) ?_)))
  obtain ⟨gq, hgq⟩ : ∃ x_, x_ = w3.heap.size := ⟨_, rfl⟩
  have HXq : Aside0 ((w3.alloc (.cells #[.int .u8 q1, .int .u8 q2, .int .u8 q3, .int .u16 q4, .int .u8 q5, .int .u16 q6, .int .u32 q7, .int .u32 q8, .slice A8 qo.length c8, .slice A9 qb.length c9] 73)).heap[gq]? = some (.cells #[.int .u8 q1, .int .u8 q2, .int .u8 q3, .int .u16 q4, .int .u8 q5, .int .u16 q6, .int .u32 q7, .int .u32 q8, .slice A8 qo.length c8, .slice A9 qb.length c9] 73 (0, 0))) := ⟨by rw [hgq]; exact blk_new' _ _⟩
  rw [← hgq]
  clear hgq
  have hb_ := below_alloc (Below.refl w3.heap.size w3) (.cells #[.int .u8 q1, .int .u8 q2, .int .u8 q3, .int .u16 q4, .int .u8 q5, .int .u16 q6, .int .u32 q7, .int .u32 q8, .slice A8 qo.length c8, .slice A9 qb.length c9] 73)
  have n_HB := Aside0.mk (below_step HB.out hb_)
  have n_HQ := Aside0.mk (blk_below HQ.out hb_)
  have n_HK9 := Aside0.mk (Kd.C_below HK9.out hb_)
  clear HB HQ HK9 hb_
  have HB := n_HB
  have HQ := n_HQ
  have HK9 := n_HK9
  clear n_HB n_HQ n_HK9
  generalize (w3.alloc (.cells #[.int .u8 q1, .int .u8 q2, .int .u8 q3, .int .u16 q4, .int .u8 q5, .int .u16 q6, .int .u32 q7, .int .u32 q8, .slice A8 qo.length c8, .slice A9 qb.length c9] 73)) = w4 at HXq HB HQ HK9 ⊢
  have gq2 := cz HXq.out 2 rfl
  have gq4 := cz HXq.out 4 rfl
  have gq5 := cz HXq.out 5 rfl
  have gq6 := cz HXq.out 6 rfl
  have gq7 := cz HXq.out 7 rfl
  have gq9 := cz HXq.out 9 rfl
  have gp0 := cz HQ.out 0 rfl
  clear HQ
  by_cases cqe : qe = 0
  ·have cqe1 : (qe == 0) = true := beq_iff_eq.2 cqe
   have cqe2 : (qe != 0) = false := by rw [bne, cqe1]; rfl
   by_cases cqd : q8 = a0_0
   ·have cqd1 : (q8 == a0_0) = true := beq_iff_eq.2 cqd
    have cqd2 : (q8 != a0_0) = false := by rw [bne, cqd1]; rfl
    by_cases cqp : q3 = 17
    ·have cqp1 : (q3 == 17) = true := beq_iff_eq.2 cqp
     have cqp2 : (q3 != 17) = false := by rw [bne, cqp1]; rfl
     by_cases cqf : Go.bits .and .u8 q5 1 = 0
     ·have cqf1 : (Go.bits .and .u8 q5 1 == 0) = true := beq_iff_eq.2 cqf
      have cqf2 : (Go.bits .and .u8 q5 1 != 0) = false := by rw [bne, cqf1]; rfl
      by_cases cqo : q6 = 0
      ·have cqo1 : (q6 == 0) = true := beq_iff_eq.2 cqo
       have cqo2 : (q6 != 0) = false := by rw [bne, cqo1]; rfl
       rw [if_pos ⟨cqe, cqd, cqp, cqf, cqo⟩] at H
       clear cqe cqd cqp cqf cqo
       obtain ⟨⟨u1, u2, u3, ub, ue⟩, hu, H⟩ := bind_some_ H
       (try dsimp only)
       go_wp2_with fail
       refine (udp_Parse.calls A9 c9 qb u1 u2 u3 ub ue _ HK9.out HC9.out hu).mono ?_
       rintro e w4 ⟨v_, rfl, ho, hb⟩
       obtain ⟨A3, c3, rfl, hcu, hku⟩ := Kd.R_reads ho
       have HKu := Aside0.mk hku
       have HCu := Aside0.mk hcu
       clear ho HK9 hku hcu hu
       have hb_ := hb
       have n_HB := Aside0.mk (below_step HB.out hb_)
       have n_HXq := Aside0.mk (blk_below HXq.out hb_)
       clear HB HXq hb_
       have HB := n_HB
       have HXq := n_HXq
       clear n_HB n_HXq
       clear hb gq2 gq4 gq5 gq6 gq7 gq9 gp0
       (try dsimp only)
       go_upto_region 8 with (((refine ev_skip_ rfl rfl (st_new_ rfl rfl rfl (by kernel_rfl) rfl (by simp [Value.oneCell'])) ?_)))
       obtain ⟨gu, hgu⟩ : ∃ x_, x_ = w4.heap.size := ⟨_, rfl⟩
       have HXu : Aside0 ((w4.alloc (.cells #[.int .u16 u1, .int .u16 u2, .int .u16 u3, .slice A3 ub.length c3] 83)).heap[gu]? = some (.cells #[.int .u16 u1, .int .u16 u2, .int .u16 u3, .slice A3 ub.length c3] 83 (0, 0))) := ⟨by rw [hgu]; exact blk_new' _ _⟩
       rw [← hgu]
       clear hgu
       have hb_ := below_alloc (Below.refl w4.heap.size w4) (.cells #[.int .u16 u1, .int .u16 u2, .int .u16 u3, .slice A3 ub.length c3] 83)
       have n_HB := Aside0.mk (below_step HB.out hb_)
       have n_HKu := Aside0.mk (Kd.C_below HKu.out hb_)
       have n_HXq := Aside0.mk (blk_below HXq.out hb_)
       clear HB HKu HXq hb_
       have HB := n_HB
       have HKu := n_HKu
       have HXq := n_HXq
       clear n_HB n_HKu n_HXq
       generalize (w4.alloc (.cells #[.int .u16 u1, .int .u16 u2, .int .u16 u3, .slice A3 ub.length c3] 83)) = w5 at HXu HB HKu HXq ⊢
       have gu0 := cz HXu.out 0 rfl
       have gu1 := cz HXu.out 1 rfl
       have gu2 := cz HXu.out 2 rfl
       have gu3 := cz HXu.out 3 rfl
       have gq6 := cz HXq.out 6 rfl
       have gq7 := cz HXq.out 7 rfl
       by_cases cue : ue = 0
       ·have cue1 : (ue == 0) = true := beq_iff_eq.2 cue
        have cue2 : (ue != 0) = false := by rw [bne, cue1]; rfl
        by_cases cud : u2 = 4789
        ·have cud1 : (u2 == 4789) = true := beq_iff_eq.2 cud
         have cud2 : (u2 != 4789) = false := by rw [bne, cud1]; rfl
         rw [if_pos ⟨cue, cud⟩] at H
         clear cue cud
         obtain ⟨rt, hr, H⟩ := bind_some_ H
         (try dsimp only)
         go_wp2_with fail
         refine (udp_Right.calls k q7 q8 u1 u2 u3 A3 c3 ub rt _ HKu.out HCu.out hr).mono ?_
         rintro e w6 ⟨rfl, hb⟩
         clear hr
         have hb_ := hb
         have n_HB := Aside0.mk (below_step HB.out hb_)
         have n_HKu := Aside0.mk (Kd.C_below HKu.out hb_)
         have n_HXu := Aside0.mk (blk_below HXu.out hb_)
         clear HB HKu HXu hb_
         have HB := n_HB
         have HKu := n_HKu
         have HXu := n_HXu
         clear n_HB n_HKu n_HXu
         have gu3 := cz HXu.out 3 rfl
         clear hb HXu
         cases rt with
         | false =>
          rw [if_neg (by decide)] at H
          simp only [Option.some.injEq, Prod.mk.injEq] at H
          obtain ⟨rfl, rfl, rfl⟩ := H
          (try dsimp only)
          go_wp2
          (try simp only [Exit.inBlock, Exit.then])
          go_ret3
          exact ⟨_, rfl, Kd.R_nil _ _ _ _ _, HB.out⟩
         | true =>
          rw [if_pos rfl] at H
          obtain ⟨⟨vn, vb, ve⟩, hv, H⟩ := bind_some_ H
          (try dsimp only)
          go_wp2_with fail
          refine (vxlan_Parse.calls A3 c3 ub vn vb ve _ HKu.out HCu.out hv).mono ?_
          rintro e w7 ⟨v_, rfl, ho, hb⟩
          obtain ⟨Av, cv, rfl, hcv, hkv⟩ := Kd.R_reads ho
          have HKv := Aside0.mk hkv
          have HCv := Aside0.mk hcv
          clear ho HKu hkv hcv hv
          have hb_ := hb
          have n_HB := Aside0.mk (below_step HB.out hb_)
          clear HB hb_
          have HB := n_HB
          clear n_HB
          clear hb
          (try dsimp only)
          by_cases cve : ve = 0
          ·have cve1 : (ve == 0) = true := beq_iff_eq.2 cve
           have cve2 : (ve != 0) = false := by rw [bne, cve1]; rfl
           rw [if_pos cve] at H
           clear cve
           obtain ⟨⟨f0, f1, f2, f3, f4, f5, f6, f7, f8, f9, f10, f11, ty, fb, fe⟩, hf, H⟩ := bind_some_ H
           (try dsimp only)
           go_wp2_with fail
           refine (eth_Parse.calls Av cv vb f0 f1 f2 f3 f4 f5 f6 f7 f8 f9 f10 f11 ty fb fe _ HKv.out HCv.out hf).mono ?_
           rintro e w8 ⟨v_, rfl, ho, hb⟩
           obtain ⟨Af, cf, rfl, _, _⟩ := Kd.R_reads ho
           have HR := Aside0.mk (Kd.R_lower ho (below_size HB.out))
           clear ho HKv hf
           have hb_ := hb
           have n_HB := Aside0.mk (below_step HB.out hb_)
           clear HB hb_
           have HB := n_HB
           clear n_HB
           clear hb
           (try dsimp only)
           go_upto_region 14 with (((refine ev_skip_ rfl rfl (st_new_ rfl rfl rfl (by kernel_rfl) rfl (by simp [Value.oneCell'])) ?_)))
           obtain ⟨ge, hge⟩ : ∃ x_, x_ = w8.heap.size := ⟨_, rfl⟩
           have HXe : Aside0 ((w8.alloc (.cells #[.int .u8 f0, .int .u8 f1, .int .u8 f2, .int .u8 f3, .int .u8 f4, .int .u8 f5, .int .u8 f6, .int .u8 f7, .int .u8 f8, .int .u8 f9, .int .u8 f10, .int .u8 f11, .int .u16 ty, .slice Af fb.length cf] 58)).heap[ge]? = some (.cells #[.int .u8 f0, .int .u8 f1, .int .u8 f2, .int .u8 f3, .int .u8 f4, .int .u8 f5, .int .u8 f6, .int .u8 f7, .int .u8 f8, .int .u8 f9, .int .u8 f10, .int .u8 f11, .int .u16 ty, .slice Af fb.length cf] 58 (0, 0))) := ⟨by rw [hge]; exact blk_new' _ _⟩
           rw [← hge]
           clear hge
           have hb_ := below_alloc (Below.refl w8.heap.size w8) (.cells #[.int .u8 f0, .int .u8 f1, .int .u8 f2, .int .u8 f3, .int .u8 f4, .int .u8 f5, .int .u8 f6, .int .u8 f7, .int .u8 f8, .int .u8 f9, .int .u8 f10, .int .u8 f11, .int .u16 ty, .slice Af fb.length cf] 58)
           have n_HB := Aside0.mk (below_step HB.out hb_)
           have n_HR := Aside0.mk (Kd.R_below HR.out hb_)
           clear HB HR hb_
           have HB := n_HB
           have HR := n_HR
           clear n_HB n_HR
           generalize (w8.alloc (.cells #[.int .u8 f0, .int .u8 f1, .int .u8 f2, .int .u8 f3, .int .u8 f4, .int .u8 f5, .int .u8 f6, .int .u8 f7, .int .u8 f8, .int .u8 f9, .int .u8 f10, .int .u8 f11, .int .u16 ty, .slice Af fb.length cf] 58)) = w9 at HXe HB HR ⊢
           have ge12 := cz HXe.out 12 rfl
           have ge13 := cz HXe.out 13 rfl
           by_cases cfe : fe = 0
           ·have cfe1 : (fe == 0) = true := beq_iff_eq.2 cfe
            have cfe2 : (fe != 0) = false := by rw [bne, cfe1]; rfl
            by_cases cft : ty = 2048
            ·have cft1 : (ty == 2048) = true := beq_iff_eq.2 cft
             have cft2 : (ty != 2048) = false := by rw [bne, cft1]; rfl
             rw [if_pos ⟨cfe, cft⟩] at H
             clear cfe cft
             simp only [Option.some.injEq, Prod.mk.injEq] at H
             obtain ⟨rfl, rfl, rfl⟩ := H
             (try dsimp only)
             go_upto_region 16 with (fail)
             refine start_ (n := 6) (S := fun w' => w'.cell? ⟨ge, 13, none⟩ = some (.slice Af fb.length cf)) (ds := []) #[false, false, false, false, false, false] (by kernel_rfl) rfl rfl (cz HXe.out 13 rfl) (fun hHeld => ?_)
             refine with_tabW frames_Inside.R16.tab frames_Inside.R16.bits (fun HT_ HW_ => ?_)
             have hb_ := below_drew1 (Below.refl w9.heap.size w9)
             have n_HXe := Aside0.mk (blk_below HXe.out hb_)
             have n_HB := Aside0.mk (below_step HB.out hb_)
             have n_HR := Aside0.mk (Kd.R_below HR.out hb_)
             clear HXe HB HR hb_
             have HXe := n_HXe
             have HB := n_HB
             have HR := n_HR
             clear n_HXe n_HB n_HR
             generalize w9.drew = w9 at HXe HB HR hHeld ⊢
             refine pz 0 97 HT_ ?_
             refine pz 1 98 HT_ ?_
             refine pz 3 4 HT_ ?_
             refine tz 2 99 HT_ HW_ hHeld ?_
             refine pz 4 5 HT_ ?_
             refine pz 5 6 HT_ ?_
             refine dz HT_ ?_
             clear HT_ HW_ hHeld
             go_wp2
             (try simp only [Exit.inBlock, Exit.then])
             go_ret3
             exact ⟨_, rfl, HR.out, HB.out⟩
            ·have cft1 : (ty == 2048) = false := beq_eq_false_iff_ne.2 cft
             have cft2 : (ty != 2048) = true := bne_iff_ne.2 cft
             rw [if_neg (fun hh => cft hh.2)] at H
             clear cfe cft
             simp only [Option.some.injEq, Prod.mk.injEq] at H
             obtain ⟨rfl, rfl, rfl⟩ := H
             (try dsimp only)
             go_wp2
             (try simp only [Exit.inBlock, Exit.then])
             go_ret3
             exact ⟨_, rfl, Kd.R_nil _ _ _ _ _, HB.out⟩
           ·have cfe1 : (fe == 0) = false := beq_eq_false_iff_ne.2 cfe
            have cfe2 : (fe != 0) = true := bne_iff_ne.2 cfe
            rw [if_neg (fun hh => cfe hh.1)] at H
            clear cfe
            simp only [Option.some.injEq, Prod.mk.injEq] at H
            obtain ⟨rfl, rfl, rfl⟩ := H
            (try dsimp only)
            go_wp2
            (try simp only [Exit.inBlock, Exit.then])
            go_ret3
            exact ⟨_, rfl, Kd.R_nil _ _ _ _ _, HB.out⟩
          ·have cve1 : (ve == 0) = false := beq_eq_false_iff_ne.2 cve
           have cve2 : (ve != 0) = true := bne_iff_ne.2 cve
           rw [if_neg (fun hh => cve hh)] at H
           clear cve
           simp only [Option.some.injEq, Prod.mk.injEq] at H
           obtain ⟨rfl, rfl, rfl⟩ := H
           (try dsimp only)
           go_wp2
           (try simp only [Exit.inBlock, Exit.then])
           go_ret3
           exact ⟨_, rfl, Kd.R_nil _ _ _ _ _, HB.out⟩
        ·have cud1 : (u2 == 4789) = false := beq_eq_false_iff_ne.2 cud
         have cud2 : (u2 != 4789) = true := bne_iff_ne.2 cud
         rw [if_neg (fun hh => cud hh.2)] at H
         clear cue cud
         simp only [Option.some.injEq, Prod.mk.injEq] at H
         obtain ⟨rfl, rfl, rfl⟩ := H
         (try dsimp only)
         go_wp2
         (try simp only [Exit.inBlock, Exit.then])
         go_ret3
         exact ⟨_, rfl, Kd.R_nil _ _ _ _ _, HB.out⟩
       ·have cue1 : (ue == 0) = false := beq_eq_false_iff_ne.2 cue
        have cue2 : (ue != 0) = true := bne_iff_ne.2 cue
        rw [if_neg (fun hh => cue hh.1)] at H
        clear cue
        simp only [Option.some.injEq, Prod.mk.injEq] at H
        obtain ⟨rfl, rfl, rfl⟩ := H
        (try dsimp only)
        go_wp2
        (try simp only [Exit.inBlock, Exit.then])
        go_ret3
        exact ⟨_, rfl, Kd.R_nil _ _ _ _ _, HB.out⟩
      ·have cqo1 : (q6 == 0) = false := beq_eq_false_iff_ne.2 cqo
       have cqo2 : (q6 != 0) = true := bne_iff_ne.2 cqo
       rw [if_neg (fun hh => cqo hh.2.2.2.2)] at H
       clear cqe cqd cqp cqf cqo
       simp only [Option.some.injEq, Prod.mk.injEq] at H
       obtain ⟨rfl, rfl, rfl⟩ := H
       (try dsimp only)
       go_wp2
       (try simp only [Exit.inBlock, Exit.then])
       go_ret3
       exact ⟨_, rfl, Kd.R_nil _ _ _ _ _, HB.out⟩
     ·have cqf1 : (Go.bits .and .u8 q5 1 == 0) = false := beq_eq_false_iff_ne.2 cqf
      have cqf2 : (Go.bits .and .u8 q5 1 != 0) = true := bne_iff_ne.2 cqf
      rw [if_neg (fun hh => cqf hh.2.2.2.1)] at H
      clear cqe cqd cqp cqf
      simp only [Option.some.injEq, Prod.mk.injEq] at H
      obtain ⟨rfl, rfl, rfl⟩ := H
      (try dsimp only)
      go_wp2
      (try simp only [Exit.inBlock, Exit.then])
      go_ret3
      exact ⟨_, rfl, Kd.R_nil _ _ _ _ _, HB.out⟩
    ·have cqp1 : (q3 == 17) = false := beq_eq_false_iff_ne.2 cqp
     have cqp2 : (q3 != 17) = true := bne_iff_ne.2 cqp
     rw [if_neg (fun hh => cqp hh.2.2.1)] at H
     clear cqe cqd cqp
     simp only [Option.some.injEq, Prod.mk.injEq] at H
     obtain ⟨rfl, rfl, rfl⟩ := H
     (try dsimp only)
     go_wp2
     (try simp only [Exit.inBlock, Exit.then])
     go_ret3
     exact ⟨_, rfl, Kd.R_nil _ _ _ _ _, HB.out⟩
   ·have cqd1 : (q8 == a0_0) = false := beq_eq_false_iff_ne.2 cqd
    have cqd2 : (q8 != a0_0) = true := bne_iff_ne.2 cqd
    rw [if_neg (fun hh => cqd hh.2.1)] at H
    clear cqe cqd
    simp only [Option.some.injEq, Prod.mk.injEq] at H
    obtain ⟨rfl, rfl, rfl⟩ := H
    (try dsimp only)
    go_wp2
    (try simp only [Exit.inBlock, Exit.then])
    go_ret3
    exact ⟨_, rfl, Kd.R_nil _ _ _ _ _, HB.out⟩
  ·have cqe1 : (qe == 0) = false := beq_eq_false_iff_ne.2 cqe
   have cqe2 : (qe != 0) = true := bne_iff_ne.2 cqe
   rw [if_neg (fun hh => cqe hh.1)] at H
   clear cqe
   simp only [Option.some.injEq, Prod.mk.injEq] at H
   obtain ⟨rfl, rfl, rfl⟩ := H
   (try dsimp only)
   go_wp2
   (try simp only [Exit.inBlock, Exit.then])
   go_ret3
   exact ⟨_, rfl, Kd.R_nil _ _ _ _ _, HB.out⟩
 ·have cp1 : (p2 == -1) = false := beq_eq_false_iff_ne.2 cp
  have cp2 : (p2 != -1) = true := bne_iff_ne.2 cp
  rw [if_neg cp] at H
  clear cp
  simp only [Option.some.injEq, Prod.mk.injEq] at H
  obtain ⟨rfl, rfl, rfl⟩ := H
  (try dsimp only)
  go_wp2
  (try simp only [Exit.inBlock, Exit.then])
  go_ret3
  exact ⟨_, rfl, Kd.R_nil _ _ _ _ _, HB.out⟩
def outF (k : Nat) (m1 m2 m3 m4 m5 m6 : Int) (b : List Int) : Option (Int × List Int × Int) :=
 (bodyF b m1 m2 m3 m4 m5 m6).bind fun p => if p.2 = -1 then
  (ip_Parse.f k p.1).bind fun ⟨_, _, _, _, _, _, _, ds, _, _, e⟩ => if e = 0 then some (ds, p.1, -1) else some (0, [], 0)
 else some (0, [], p.2)
theorem frames_Outside.calls' (k : Nat) (a0_0 a0_1 a0_2 a0_3 a0_4 a0_5 a0_6 a0_7 a0_8 a0_9 a0_10 a0_11 a0_12 a0_13 a0_14 a0_15 a0_16 a0_17 a0_18 a0_19 a0_20 a0_21 a0_22 a0_23 a0_24 a0_25 a0_26 a0_27 : Int) (A0_28 : Option Addr) (n0_28 c0_28 : Nat) (A1 : Option Addr) (c1 : Nat) (l1 : List Int) (r1 : Int) (r2 : List Int) (r3 : Int) (w : World) (hr1 : Kd.C (Kd.int .u8) w A1 l1.length l1) (hc1 : l1.length ≤ c1) (h : outF k a0_7 a0_8 a0_9 a0_10 a0_11 a0_12 l1 = some (r1, r2, r3)) :
  Calls Try.prog 23 #[.agg #[.int .u32 a0_0, .int .u8 a0_1, .int .u8 a0_2, .int .u8 a0_3, .int .u8 a0_4, .int .u8 a0_5, .int .u8 a0_6, .int .u8 a0_7, .int .u8 a0_8, .int .u8 a0_9, .int .u8 a0_10, .int .u8 a0_11, .int .u8 a0_12, .int .u8 a0_13, .int .u8 a0_14, .int .u8 a0_15, .int .u8 a0_16, .int .u8 a0_17, .int .u8 a0_18, .int .u8 a0_19, .int .u8 a0_20, .int .u8 a0_21, .int .u8 a0_22, .int .u8 a0_23, .int .u8 a0_24, .int .u8 a0_25, .int .u8 a0_26, .int .u32 a0_27, .slice A0_28 n0_28 c0_28], .slice A1 l1.length c1] w fun e w' => ∃ v0_ : Value, e = .returned (.tuple #[.int .u32 r1, v0_, .int .i64 r3]) ∧ Kd.R (Kd.int .u8) 5 w' w.heap.size (fun _ => True) v0_ r2 ∧ Below w.heap.size w w' := by
 have hu33 := Try.underlying33
 have hu29 := Try.underlying29
 have hu73 := Try.underlying73
 have hu58 := Try.underlying58
 have HC := Aside0.mk hr1
 have HCC := Aside0.mk hc1
 have HB := Aside0.mk (Below.refl w.heap.size w)
 clear hr1 hc1
 have H : outF k a0_7 a0_8 a0_9 a0_10 a0_11 a0_12 l1 = some (r1, r2, r3) := h
 clear h
 unfold outF at H
 obtain ⟨⟨p1, p2⟩, hp, H⟩ := bind_some_ H
 have HP := Aside0.mk hp
 clear hp
 go_enter Try.func23, Try.ntmps23
 go_upto_region 1 with (((with_reducible refine gate_dst (N := 2) rfl ?_); refine box_event ?hg (N := 2) ?hd (cs := #[.int .u32 a0_0, .int .u8 a0_1, .int .u8 a0_2, .int .u8 a0_3, .int .u8 a0_4, .int .u8 a0_5, .int .u8 a0_6, .int .u8 a0_7, .int .u8 a0_8, .int .u8 a0_9, .int .u8 a0_10, .int .u8 a0_11, .int .u8 a0_12, .int .u8 a0_13, .int .u8 a0_14, .int .u8 a0_15, .int .u8 a0_16, .int .u8 a0_17, .int .u8 a0_18, .int .u8 a0_19, .int .u8 a0_20, .int .u8 a0_21, .int .u8 a0_22, .int .u8 a0_23, .int .u8 a0_24, .int .u8 a0_25, .int .u8 a0_26, .int .u32 a0_27, .slice A0_28 n0_28 c0_28]) (t := 33) ?hr ?_; (case hd => rfl); (case hg => rfl); (case hr => first | (go_simp; done) | (go_simp; rfl)); intro gp hg w1 hbox hb; have n0_ := Aside0.mk (below_step (by repeat (first | exact HB.out | apply below_alloc | apply pw_below_drewN | apply below_drew1)) hb); have HQ := Aside0.mk hbox; clear HB ; have HB := n0_; clear n0_  hb hbox hg))
 have gp7 := cz HQ.out 7 rfl
 have gp8 := cz HQ.out 8 rfl
 have gp9 := cz HQ.out 9 rfl
 have gp10 := cz HQ.out 10 rfl
 have gp11 := cz HQ.out 11 rfl
 have gp12 := cz HQ.out 12 rfl
 go_wp2_with fail
 clear gp7 gp8 gp9 gp10 gp11 gp12 HQ
 refine (frames_body.calls' A1 c1 l1 a0_7 a0_8 a0_9 a0_10 a0_11 a0_12 p1 p2 w1 (Kd.C_below HC.out HB.out) HCC.out HP.out).mono ?_
 rintro e w2 ⟨v, rfl, ho, hb⟩
 have HR := Aside0.mk (Kd.R_lower ho (below_size HB.out))
 obtain ⟨Ab, cb, rfl, hcb, hkb⟩ := Kd.R_reads ho
 have HKb := Aside0.mk hkb
 have HCb := Aside0.mk hcb
 clear ho hkb hcb HP
 have hb_ := hb
 have n_HB := Aside0.mk (below_step HB.out hb_)
 clear HB hb_
 have HB := n_HB
 clear n_HB
 clear hb
 (try dsimp only at H)
 by_cases cp : p2 = -1
 ·have cp1 : (p2 == -1) = true := beq_iff_eq.2 cp
  have cp2 : (p2 != -1) = false := by rw [bne, cp1]; rfl
  rw [if_pos cp] at H
  clear cp
  obtain ⟨⟨q1, q2, q3, q4, q5, q6, q7, q8, qo, qb, qe⟩, hq, H⟩ := bind_some_ H
  (try dsimp only)
  go_wp2_with fail
  refine (ip_Parse.calls k Ab cb p1 q1 q2 q3 q4 q5 q6 q7 q8 qo qb qe w2 HKb.out HCb.out hq).mono ?_
  rintro e w3 ⟨v8, v9, rfl, ho8, ho9, hb⟩
  obtain ⟨A8, c8, rfl, _, _⟩ := Kd.R_reads ho8
  obtain ⟨A9, c9, rfl, _, _⟩ := Kd.R_reads ho9
  clear ho8 ho9 HKb hq
  have hb_ := hb
  have n_HB := Aside0.mk (below_step HB.out hb_)
  have n_HR := Aside0.mk (Kd.R_below HR.out hb_)
  clear HB HR hb_
  have HB := n_HB
  have HR := n_HR
  clear n_HB n_HR
  clear hb
  (try dsimp only)
  go_upto_region 5 with (((refine ev_skip_ rfl rfl (st_new_ rfl rfl rfl (by kernel_rfl) rfl (by simp [Value.oneCell'])) ?_)))
  obtain ⟨gq, hgq⟩ : ∃ x_, x_ = w3.heap.size := ⟨_, rfl⟩
  have HXq : Aside0 ((w3.alloc (.cells #[.int .u8 q1, .int .u8 q2, .int .u8 q3, .int .u16 q4, .int .u8 q5, .int .u16 q6, .int .u32 q7, .int .u32 q8, .slice A8 qo.length c8, .slice A9 qb.length c9] 73)).heap[gq]? = some (.cells #[.int .u8 q1, .int .u8 q2, .int .u8 q3, .int .u16 q4, .int .u8 q5, .int .u16 q6, .int .u32 q7, .int .u32 q8, .slice A8 qo.length c8, .slice A9 qb.length c9] 73 (0, 0))) := ⟨by rw [hgq]; exact blk_new' _ _⟩
  rw [← hgq]
  clear hgq
  have hb_ := below_alloc (Below.refl w3.heap.size w3) (.cells #[.int .u8 q1, .int .u8 q2, .int .u8 q3, .int .u16 q4, .int .u8 q5, .int .u16 q6, .int .u32 q7, .int .u32 q8, .slice A8 qo.length c8, .slice A9 qb.length c9] 73)
  have n_HB := Aside0.mk (below_step HB.out hb_)
  have n_HR := Aside0.mk (Kd.R_below HR.out hb_)
  clear HB HR hb_
  have HB := n_HB
  have HR := n_HR
  clear n_HB n_HR
  generalize (w3.alloc (.cells #[.int .u8 q1, .int .u8 q2, .int .u8 q3, .int .u16 q4, .int .u8 q5, .int .u16 q6, .int .u32 q7, .int .u32 q8, .slice A8 qo.length c8, .slice A9 qb.length c9] 73)) = w4 at HXq HB HR ⊢
  have gq7 := cz HXq.out 7 rfl
  by_cases cqe : qe = 0
  ·have cqe1 : (qe == 0) = true := beq_iff_eq.2 cqe
   have cqe2 : (qe != 0) = false := by rw [bne, cqe1]; rfl
   rw [if_pos cqe] at H
   clear cqe
   simp only [Option.some.injEq, Prod.mk.injEq] at H
   obtain ⟨rfl, rfl, rfl⟩ := H
   (try dsimp only)
   go_wp2
   (try simp only [Exit.inBlock, Exit.then])
   go_ret3
   exact ⟨_, rfl, HR.out, HB.out⟩
  ·have cqe1 : (qe == 0) = false := beq_eq_false_iff_ne.2 cqe
   have cqe2 : (qe != 0) = true := bne_iff_ne.2 cqe
   rw [if_neg (fun hh => cqe hh)] at H
   clear cqe
   simp only [Option.some.injEq, Prod.mk.injEq] at H
   obtain ⟨rfl, rfl, rfl⟩ := H
   (try dsimp only)
   go_wp2
   (try simp only [Exit.inBlock, Exit.then])
   go_ret3
   exact ⟨_, rfl, Kd.R_nil _ _ _ _ _, HB.out⟩
 ·have cp1 : (p2 == -1) = false := beq_eq_false_iff_ne.2 cp
  have cp2 : (p2 != -1) = true := bne_iff_ne.2 cp
  rw [if_neg cp] at H
  clear cp
  simp only [Option.some.injEq, Prod.mk.injEq] at H
  obtain ⟨rfl, rfl, rfl⟩ := H
  (try dsimp only)
  go_wp2
  (try simp only [Exit.inBlock, Exit.then])
  go_ret3
  exact ⟨_, rfl, Kd.R_nil _ _ _ _ _, HB.out⟩
end Go.Proofs.Ytkmimamminddiaa.PB
namespace Go.Proofs.Ytkmimamminddiaa.PB
open Go.RowKit Go.Proofs.YtkmimamminddiaaW.PrintWords Go.Proofs.YtkmimamminddiaaW.PrintLast Go.Proofs.YtkmimamminddiaaW.PrintMore
attribute [local go_sem] max2_int min2_int max_two min_two max_three min_three max_four min_four   -- for this text's walks alone
set_option linter.unusedVariables false
set_option linter.unusedSimpArgs false
def lychref1_Put16.f (l0 : List Int) (a1 : Int) : Option (List Int) := (some (([(a1 / 256) % 256, (a1) % 256] : List Int) : List Int)).bind fun y282 => (if l0.length + y282.length < 140737488355328 then (some (l0 ++ y282)) else (none))
theorem lychref1_Put16.calls (P0_ : Nat → Prop) (u9000_ : Value) (l0 : List Int) (a1 : Int) (r : List Int) (w0 w : World) (hB : Below w0.heap.size w0 w) (ho0 : Kd.R (Kd.int .u8) 5 w w0.heap.size P0_ u9000_ l0) (h : lychref1_Put16.f l0 a1 = some r) :
  Calls Try.prog 83 #[u9000_, .int .u16 a1] w fun e w' => ∃ v0_ : Value, e = .returned (v0_) ∧ Kd.R (Kd.int .u8) 5 w' w0.heap.size (fun k_ => (P0_ k_ ∨ w.heap.size ≤ k_)) v0_ r ∧ Below w0.heap.size w0 w' ∧ Kept w w' (fun k_ => P0_ k_) := by
 have HO0 := Aside0.mk (show Kd.R (Kd.int .u8) 5 w w0.heap.size (fun k_ => (P0_ k_ ∨ w.heap.size ≤ k_)) u9000_ l0 from Kd.R_mono ho0 (fun k_ hk => (.inl hk)))
 have HK := Aside0.mk (Kept.refl w (fun k_ => P0_ k_))
 have HW0 := Aside0.mk hB.size
 have HB := Aside0.mk hB
 clear hB
 have H : ((some (([(a1 / 256) % 256, (a1) % 256] : List Int) : List Int)).bind fun y282 => (if l0.length + y282.length < 140737488355328 then (some (l0 ++ y282)) else (none))) = some r := h
 clear h
 obtain ⟨y282, hy282⟩ : ∃ y_ : List Int, y_ = (([(a1 / 256) % 256, (a1) % 256] : List Int)) := ⟨_, rfl⟩
 replace H : (if l0.length + y282.length < 140737488355328 then (some (l0 ++ y282)) else (none)) = some r := by first | (rw [hy282]; with_reducible exact H) | (have H2_ := (Option.bind_some _ _).symm.trans H; rw [hy282]; with_reducible exact H2_) | (have H2_ := (Option.bind_some _ _).symm.trans H; with_reducible exact H2_) | with_reducible exact H | (rw [hy282]; exact H) | exact H
 have Ny282 := Aside0.mk hy282
 clear hy282
 by_cases c3 : l0.length + y282.length < 140737488355328
 ·rw [if_pos c3] at H
  have LMc3 := Aside0.mk c3
  clear c3
  obtain ⟨y285, hy285⟩ : ∃ y_ : List Int, y_ = (l0 ++ y282) := ⟨_, rfl⟩
  replace H : (some y285) = some r := by first | (rw [hy285]; with_reducible exact H) | (have H2_ := (Option.bind_some _ _).symm.trans H; rw [hy285]; with_reducible exact H2_) | (have H2_ := (Option.bind_some _ _).symm.trans H; with_reducible exact H2_) | with_reducible exact H | (rw [hy285]; exact H) | exact H
  have Ny285 := Aside0.mk hy285
  clear hy285
  obtain rfl := Option.some.inj H
  go_enter Try.func83, Try.ntmps83
  go_wp2_with (first | ((with_reducible refine gate_dst (N := 11) rfl ?_); refine Kd.R_lit (Kd.int .u8) _ 5 ?hg (N := 11) ?hd (xs := ([(a1 / 256) % 256, (a1) % 256] : List Int)) (inner := [.int .u8 ((a1 / 256) % 256), .int .u8 ((a1) % 256)]) (ok := fun _ => True) (okp := fun _ => True) ?hr ?hp (fun _ hk => hk) trivial (Below.refl _ _) (Nat.le_refl _) (by simp) ?_; (case hd => rfl); (case hg => rfl); (case hr => first | (go_simp; done) | (go_simp; simp only [IntKind.wrap_u8, IntKind.wrap_u16, IntKind.wrap_u32]; done) | (go_simp; rfl)); (case hp => exact (Reps.one (show Kd.M (Kd.int .u8) _ _ _ ((a1 / 256) % 256) [.int .u8 ((a1 / 256) % 256)] from rfl) (Reps.one (show Kd.M (Kd.int .u8) _ _ _ ((a1) % 256) [.int .u8 ((a1) % 256)] from rfl) (Reps.none _ _)))); intro v283 w4 ho5 hb hg_ hnew_; clear hg_ hnew_; (first | rw [← Ny282.out] at ho5 | (simp only [Int.reduceToNat] at ho5; rw [← Ny282.out] at ho5)); have n0_ := Aside0.mk (Kd.R_elder' (Kd.rz HO0) (Kd.R_base ho5) hb); have n1_ := Aside0.mk (Kd.R_lower (Kd.R_new' (Kd.R_newM (M := fun k_ => (P0_ k_ ∨ w.heap.size ≤ k_)) ho5 (by first | exact HK.out.1 | exact (show Kept w _ (fun k_ => P0_ k_) from by repeat (first | (with_reducible first | exact HK.out | apply Kept.alloc | apply Kept.drewN | apply Kept.drew) | exact HK.out)).1) (fun k_ h_ => .inr h_)) (Kd.R_lt (Kd.rz HO0))) (below_size (bz HB))); have n2_ := Aside0.mk (Kept.below (S := (fun k_ => P0_ k_)) (by repeat (first | (with_reducible first | exact HK.out | apply Kept.alloc | apply Kept.drewN | apply Kept.drew) | exact HK.out)) hb); have n3_ := Aside0.mk (below_step (bz HB) hb); clear HO0; clear HK; clear HB; have HO0 := n0_; have HO284 := n1_; have HK := n2_; have HB := n3_; clear n0_ n1_ n2_ n3_; clear hb ho5; obtain ⟨Ao7, co7, eo7⟩ := Kd.R_slice HO284.out; subst eo7) | ((with_reducible refine gate_builtin (b := .append) (xs := #[.tmp 5, .tmp 11]) rfl ?_); at_builtin; refine Kd.R_append_rows (Kd.int .u8) (w0 := w0) w0.heap.size rfl (.tmp 5) (.tmp 11) 23 5 (.int .u8 0) 1 rfl Try.underlying23 info5 rfl (by decide) (by omega) u9000_ l0 y282 _ _ _ (fun k_ => (P0_ k_ ∨ w.heap.size ≤ k_) ∧ some k_ ≠ (.slice Ao7 y282.length co7 : Value).ownBlock) (fun _ => False) rfl rfl ?aO ?aR (fun _ _ h => h) (fun _ h => h.elim) ?aF ?aB ?aS ?aL ?_; (case aR => repeat (first | exact (Kd.R_reads' HO284.out).2.2 | (with_reducible refine Kd.C_alloc ?_ _) | (with_reducible refine Kd.C_drewN ?_ _) | (with_reducible refine Kd.C_drew ?_))); (case aB => exact bz HB); (case aF => exact (fun k_ hk => ⟨(.inr (Nat.le_trans (by first | exact HK.out.1 | exact (show Kept w _ (fun k_ => P0_ k_) from by repeat (first | (with_reducible first | exact HK.out | apply Kept.alloc | apply Kept.drewN | apply Kept.drew) | exact HK.out)).1) hk)), Kd.fresh' (Kd.R_lt (Kd.rz HO284)) k_ hk⟩)); (case aO => exact (Kd.rz HO0)); (case aS => exact (below_size (bz HB))); (case aL => have := LMc3.out; omega); intro v286 w6 ho hb hg hat; rw [← Ny285.out] at ho; have n0_ := Aside0.mk (Kd.R_after (ok := (fun k_ => (P0_ k_ ∨ w.heap.size ≤ k_))) (by (with_reducible repeat (first | apply Kd.R_alloc | apply Kd.R_drewN | apply Kd.R_drew)); exact Kd.R_mono HO284.out (fun _ hk => ⟨hk.1.1, hk.2⟩)) hg hat); have n1_ := Aside0.mk (hb); have n2_ := Aside0.mk (Kept.of_grown (S := (fun k_ => P0_ k_)) hg (by repeat (first | (with_reducible first | exact HK.out | apply Kept.alloc | apply Kept.drewN | apply Kept.drew) | exact HK.out)) (fun k_ e_ => (HO0.out.1 k_ e_).1)); have n3_ := Aside0.mk (ho); clear HO284; clear HB; clear HK; clear HO0; have HO284 := n0_; have HB := n1_; have HK := n2_; have HO287 := n3_; clear n0_ n1_ n2_ n3_; clear ho hb hg hat))
  go_ret
  exact ⟨_, by first | rfl | (simp [errW_none, errW_some] <;> rfl) | (simp [*, errW_none, errW_some] <;> rfl), by (with_reducible repeat (first | apply Kd.R_alloc | apply Kd.R_drewN | apply Kd.R_drew)); exact Kd.R_mono HO287.out (fun _ hk => hk.1), bz HB, by repeat (first | (with_reducible first | exact HK.out | apply Kept.alloc | apply Kept.drewN | apply Kept.drew) | exact HK.out)⟩
 ·rw [if_neg c3] at H
  exact absurd H (by simp)
def lychref1_Put32.f (l0 : List Int) (a1 : Int) : Option (List Int) := (some (([(a1 / 16777216) % 256, (a1 / 65536) % 256, (a1 / 256) % 256, (a1) % 256] : List Int) : List Int)).bind fun y288 => (if l0.length + y288.length < 140737488355328 then (some (l0 ++ y288)) else (none))
theorem lychref1_Put32.calls (P0_ : Nat → Prop) (u9000_ : Value) (l0 : List Int) (a1 : Int) (r : List Int) (w0 w : World) (hB : Below w0.heap.size w0 w) (ho0 : Kd.R (Kd.int .u8) 5 w w0.heap.size P0_ u9000_ l0) (h : lychref1_Put32.f l0 a1 = some r) :
  Calls Try.prog 84 #[u9000_, .int .u32 a1] w fun e w' => ∃ v0_ : Value, e = .returned (v0_) ∧ Kd.R (Kd.int .u8) 5 w' w0.heap.size (fun k_ => (P0_ k_ ∨ w.heap.size ≤ k_)) v0_ r ∧ Below w0.heap.size w0 w' ∧ Kept w w' (fun k_ => P0_ k_) := by
 have HO0 := Aside0.mk (show Kd.R (Kd.int .u8) 5 w w0.heap.size (fun k_ => (P0_ k_ ∨ w.heap.size ≤ k_)) u9000_ l0 from Kd.R_mono ho0 (fun k_ hk => (.inl hk)))
 have HK := Aside0.mk (Kept.refl w (fun k_ => P0_ k_))
 have HW0 := Aside0.mk hB.size
 have HB := Aside0.mk hB
 clear hB
 have H : ((some (([(a1 / 16777216) % 256, (a1 / 65536) % 256, (a1 / 256) % 256, (a1) % 256] : List Int) : List Int)).bind fun y288 => (if l0.length + y288.length < 140737488355328 then (some (l0 ++ y288)) else (none))) = some r := h
 clear h
 obtain ⟨y288, hy288⟩ : ∃ y_ : List Int, y_ = (([(a1 / 16777216) % 256, (a1 / 65536) % 256, (a1 / 256) % 256, (a1) % 256] : List Int)) := ⟨_, rfl⟩
 replace H : (if l0.length + y288.length < 140737488355328 then (some (l0 ++ y288)) else (none)) = some r := by first | (rw [hy288]; with_reducible exact H) | (have H2_ := (Option.bind_some _ _).symm.trans H; rw [hy288]; with_reducible exact H2_) | (have H2_ := (Option.bind_some _ _).symm.trans H; with_reducible exact H2_) | with_reducible exact H | (rw [hy288]; exact H) | exact H
 have Ny288 := Aside0.mk hy288
 clear hy288
 by_cases c3 : l0.length + y288.length < 140737488355328
 ·rw [if_pos c3] at H
  have LMc3 := Aside0.mk c3
  clear c3
  obtain ⟨y291, hy291⟩ : ∃ y_ : List Int, y_ = (l0 ++ y288) := ⟨_, rfl⟩
  replace H : (some y291) = some r := by first | (rw [hy291]; with_reducible exact H) | (have H2_ := (Option.bind_some _ _).symm.trans H; rw [hy291]; with_reducible exact H2_) | (have H2_ := (Option.bind_some _ _).symm.trans H; with_reducible exact H2_) | with_reducible exact H | (rw [hy291]; exact H) | exact H
  have Ny291 := Aside0.mk hy291
  clear hy291
  obtain rfl := Option.some.inj H
  go_enter Try.func84, Try.ntmps84
  go_wp2_with (first | ((with_reducible refine gate_dst (N := 17) rfl ?_); refine Kd.R_lit (Kd.int .u8) _ 5 ?hg (N := 17) ?hd (xs := ([(a1 / 16777216) % 256, (a1 / 65536) % 256, (a1 / 256) % 256, (a1) % 256] : List Int)) (inner := [.int .u8 ((a1 / 16777216) % 256), .int .u8 ((a1 / 65536) % 256), .int .u8 ((a1 / 256) % 256), .int .u8 ((a1) % 256)]) (ok := fun _ => True) (okp := fun _ => True) ?hr ?hp (fun _ hk => hk) trivial (Below.refl _ _) (Nat.le_refl _) (by simp) ?_; (case hd => rfl); (case hg => rfl); (case hr => first | (go_simp; done) | (go_simp; simp only [IntKind.wrap_u8, IntKind.wrap_u16, IntKind.wrap_u32]; done) | (go_simp; rfl)); (case hp => exact (Reps.one (show Kd.M (Kd.int .u8) _ _ _ ((a1 / 16777216) % 256) [.int .u8 ((a1 / 16777216) % 256)] from rfl) (Reps.one (show Kd.M (Kd.int .u8) _ _ _ ((a1 / 65536) % 256) [.int .u8 ((a1 / 65536) % 256)] from rfl) (Reps.one (show Kd.M (Kd.int .u8) _ _ _ ((a1 / 256) % 256) [.int .u8 ((a1 / 256) % 256)] from rfl) (Reps.one (show Kd.M (Kd.int .u8) _ _ _ ((a1) % 256) [.int .u8 ((a1) % 256)] from rfl) (Reps.none _ _)))))); intro v289 w4 ho5 hb hg_ hnew_; clear hg_ hnew_; (first | rw [← Ny288.out] at ho5 | (simp only [Int.reduceToNat] at ho5; rw [← Ny288.out] at ho5)); have n0_ := Aside0.mk (Kd.R_elder' (Kd.rz HO0) (Kd.R_base ho5) hb); have n1_ := Aside0.mk (Kd.R_lower (Kd.R_new' (Kd.R_newM (M := fun k_ => (P0_ k_ ∨ w.heap.size ≤ k_)) ho5 (by first | exact HK.out.1 | exact (show Kept w _ (fun k_ => P0_ k_) from by repeat (first | (with_reducible first | exact HK.out | apply Kept.alloc | apply Kept.drewN | apply Kept.drew) | exact HK.out)).1) (fun k_ h_ => .inr h_)) (Kd.R_lt (Kd.rz HO0))) (below_size (bz HB))); have n2_ := Aside0.mk (Kept.below (S := (fun k_ => P0_ k_)) (by repeat (first | (with_reducible first | exact HK.out | apply Kept.alloc | apply Kept.drewN | apply Kept.drew) | exact HK.out)) hb); have n3_ := Aside0.mk (below_step (bz HB) hb); clear HO0; clear HK; clear HB; have HO0 := n0_; have HO290 := n1_; have HK := n2_; have HB := n3_; clear n0_ n1_ n2_ n3_; clear hb ho5; obtain ⟨Ao7, co7, eo7⟩ := Kd.R_slice HO290.out; subst eo7) | ((with_reducible refine gate_builtin (b := .append) (xs := #[.tmp 5, .tmp 17]) rfl ?_); at_builtin; refine Kd.R_append_rows (Kd.int .u8) (w0 := w0) w0.heap.size rfl (.tmp 5) (.tmp 17) 23 5 (.int .u8 0) 1 rfl Try.underlying23 info5 rfl (by decide) (by omega) u9000_ l0 y288 _ _ _ (fun k_ => (P0_ k_ ∨ w.heap.size ≤ k_) ∧ some k_ ≠ (.slice Ao7 y288.length co7 : Value).ownBlock) (fun _ => False) rfl rfl ?aO ?aR (fun _ _ h => h) (fun _ h => h.elim) ?aF ?aB ?aS ?aL ?_; (case aR => repeat (first | exact (Kd.R_reads' HO290.out).2.2 | (with_reducible refine Kd.C_alloc ?_ _) | (with_reducible refine Kd.C_drewN ?_ _) | (with_reducible refine Kd.C_drew ?_))); (case aB => exact bz HB); (case aF => exact (fun k_ hk => ⟨(.inr (Nat.le_trans (by first | exact HK.out.1 | exact (show Kept w _ (fun k_ => P0_ k_) from by repeat (first | (with_reducible first | exact HK.out | apply Kept.alloc | apply Kept.drewN | apply Kept.drew) | exact HK.out)).1) hk)), Kd.fresh' (Kd.R_lt (Kd.rz HO290)) k_ hk⟩)); (case aO => exact (Kd.rz HO0)); (case aS => exact (below_size (bz HB))); (case aL => have := LMc3.out; omega); intro v292 w6 ho hb hg hat; rw [← Ny291.out] at ho; have n0_ := Aside0.mk (Kd.R_after (ok := (fun k_ => (P0_ k_ ∨ w.heap.size ≤ k_))) (by (with_reducible repeat (first | apply Kd.R_alloc | apply Kd.R_drewN | apply Kd.R_drew)); exact Kd.R_mono HO290.out (fun _ hk => ⟨hk.1.1, hk.2⟩)) hg hat); have n1_ := Aside0.mk (hb); have n2_ := Aside0.mk (Kept.of_grown (S := (fun k_ => P0_ k_)) hg (by repeat (first | (with_reducible first | exact HK.out | apply Kept.alloc | apply Kept.drewN | apply Kept.drew) | exact HK.out)) (fun k_ e_ => (HO0.out.1 k_ e_).1)); have n3_ := Aside0.mk (ho); clear HO290; clear HB; clear HK; clear HO0; have HO290 := n0_; have HB := n1_; have HK := n2_; have HO293 := n3_; clear n0_ n1_ n2_ n3_; clear ho hb hg hat))
  go_ret
  exact ⟨_, by first | rfl | (simp [errW_none, errW_some] <;> rfl) | (simp [*, errW_none, errW_some] <;> rfl), by (with_reducible repeat (first | apply Kd.R_alloc | apply Kd.R_drewN | apply Kd.R_drew)); exact Kd.R_mono HO293.out (fun _ hk => hk.1), bz HB, by repeat (first | (with_reducible first | exact HK.out | apply Kept.alloc | apply Kept.drewN | apply Kept.drew) | exact HK.out)⟩
 ·rw [if_neg c3] at H
  exact absurd H (by simp)
def lychref1_Fold.l0 : Nat → Int → Option (Int)
 | 0, _ => none
 | k + 1, x0 => if (x0 / 65536) = 0 then (some (IntKind.u16.wrap (x0))) else (lychref1_Fold.l0 k (((x0 / 65536) + (Go.bits .and .u32 x0 65535)) % 4294967296))
def lychref1_Fold.f (k : Nat) (a0 : Int) : Option (Int) := lychref1_Fold.l0 k a0
theorem lychref1_Fold.calls (k : Nat) (a0 : Int) (r : Int) (w : World) (h : lychref1_Fold.f k a0 = some r) :
  Calls Try.prog 79 #[.int .u32 a0] w fun e w' => e = .returned (.int .u16 r) ∧ Drawn0 w w' := by
 have H : (lychref1_Fold.l0 k a0) = some r := h
 clear h
 have H' := Aside0.mk H
 clear H
 go_enter Try.func79, Try.ntmps79
 go_wp2
 go_loopg [0] k (fun kq v0 w' => ∃ (x0_1 : Int), v0 = .int .u32 x0_1 ∧ Aside0 (lychref1_Fold.l0 kq x0_1 = some r) ∧ Aside0 (kq ≤ k) ∧ Drawn0 w w')
 case atStart => exact ⟨(a0), (by first | rfl | (simp; done) | (simp [*]; done)), H', ⟨Nat.le_refl _⟩, by repeat (first | exact Drawn0.refl _ | apply Drawn0.step)⟩
 case round =>
  clear H'
  obtain ⟨x0_1, rfl, HA, HK1, ⟨m1, rfl⟩⟩ := hrel
  cases gk with
  | zero => exact absurd HA.out (by simp [lychref1_Fold.l0])
  | succ k1 =>
   have H := HA.out
   clear HA
   simp only [lychref1_Fold.l0] at H
   by_cases c2 : (x0_1 / 65536) = 0
   ·rw [if_pos c2] at H
    have c2b0 : ((x0_1 / 65536) == 0) = true := beq_iff_eq.mpr c2
    have c2b1 : ((x0_1 / 65536) != 0) = false := bne_eq_false_iff_eq.mpr c2
    clear c2
    obtain rfl := Option.some.inj H
    go_wp2
    go_ret
    exact ⟨by first | rfl | (simp; done) | (simp [*]; done), by repeat (first | exact Drawn0.refl _ | apply Drawn0.step)⟩
   ·rw [if_neg c2] at H
    have c2b0 : ((x0_1 / 65536) == 0) = false := beq_eq_false_iff_ne.mpr c2
    have c2b1 : ((x0_1 / 65536) != 0) = true := bne_iff_ne.mpr c2
    have H' := Aside0.mk H
    clear H
    go_wp2
    go_roundg k1
    case measure => have := HK1.out; omega
    case rel => exact ⟨(((x0_1 / 65536) + (Go.bits .and .u32 x0_1 65535)) % 4294967296), (by first | rfl | (simp; done) | (simp [*]; done)), H', ⟨by have := HK1.out; omega⟩, by repeat (first | exact Drawn0.refl _ | apply Drawn0.step)⟩
def lychref1_Words.l0 : Nat → List Int → List Int → Int → Option (List Int)
 | 0, _, _, _ => none
 | k + 1, x0, x3, x4 => if x4 < (x0.length : Int) then (if 0 ≤ x4 then (if (wrap64 (x4 + 1)) < (x0.length : Int) then (if 0 ≤ (wrap64 (x4 + 1)) then (if x3.length < 70368744177664 then (lychref1_Words.l0 k x0 (x3 ++ [Go.bits .or .u16 (IntKind.u16.wrap ((IntKind.u16.wrap (rd x0 x4)) * 256)) (IntKind.u16.wrap (rd x0 (wrap64 (x4 + 1))))]) (wrap64 (x4 + 2))) else (none)) else (none)) else (if x3.length < 70368744177664 then (lychref1_Words.l0 k x0 (x3 ++ [IntKind.u16.wrap ((IntKind.u16.wrap (rd x0 x4)) * 256)]) (wrap64 (x4 + 2))) else (none))) else (none)) else (some x3)
def lychref1_Words.f (k : Nat) (l0 : List Int) : Option (List Int) := lychref1_Words.l0 k l0 ([] : List Int) 0
theorem lychref1_Words.calls (k : Nat) (A0 : Option Addr) (c0 : Nat) (l0 : List Int) (r : List Int) (w : World) (hr0 : Kd.C (Kd.int .u8) w A0 l0.length l0) (hc0 : l0.length ≤ c0) (h : lychref1_Words.f k l0 = some r) :
  Calls Try.prog 113 #[.slice A0 l0.length c0] w fun e w' => ∃ v0_ : Value, e = .returned (v0_) ∧ Kd.R (Kd.int .u16) 45 w' w.heap.size (fun _ => True) v0_ r ∧ Below w.heap.size w w' := by
 have HR0 := Aside0.mk hr0
 have HC0 := Aside0.mk hc0
 clear hr0 hc0
 have HB := Aside0.mk (Below.refl w.heap.size w)
 have H : (lychref1_Words.l0 k l0 ([] : List Int) 0) = some r := h
 clear h
 have H' := Aside0.mk H
 clear H
 go_enter Try.func113, Try.ntmps113
 go_wp2
 go_loopg [3, 4] k (fun kq v3 v4 w' => ∃ (x3_1 : List Int) (x4_1 : Int), v4 = .int .i64 x4_1 ∧ Aside0 (lychref1_Words.l0 kq l0 x3_1 x4_1 = some r) ∧ Aside0 (kq ≤ k) ∧ Aside0 (Kd.R (Kd.int .u16) 45 w' w.heap.size (fun _ => True) v3 x3_1) ∧ Aside0 (Below w.heap.size w w'))
 case atStart => exact ⟨(([] : List Int)), (0), (by first | rfl | (simp; done) | (simp [*]; done)), H', ⟨Nat.le_refl _⟩, ⟨by first | exact Kd.R_nil _ _ _ _ _ | exact Kd.N_nil _ _ _ _ _ | exact Kd.V_nil _ _ _ _ _ | exact Kd.Q_nil _ _ _ _ _ | exact Kd.S_nil _ _ _ _ _⟩, ⟨bz HB⟩⟩
 case round =>
  clear H'
  obtain ⟨x3_1, x4_1, rfl, HA, HK1, HO_3, HB⟩ := hrel
  cases gk with
  | zero => exact absurd HA.out (by simp [lychref1_Words.l0])
  | succ k1 =>
   have H := HA.out
   clear HA
   simp only [lychref1_Words.l0] at H
   by_cases c2 : x4_1 < (l0.length : Int)
   ·rw [if_pos c2] at H
    have c2b0 : decide (x4_1 < (l0.length : Int)) = true := decide_eq_true c2
    clear c2
    by_cases c3 : 0 ≤ x4_1
    ·rw [if_pos c3] at H
     have c3b0 : decide (0 ≤ x4_1) = true := decide_eq_true c3
     clear c3
     by_cases c4 : (wrap64 (x4_1 + 1)) < (l0.length : Int)
     ·rw [if_pos c4] at H
      have c4b0 : decide ((wrap64 (x4_1 + 1)) < (l0.length : Int)) = true := decide_eq_true c4
      clear c4
      obtain ⟨ji5, hji5⟩ : ∃ j_ : Int, (wrap64 (x4_1 + 1)) = j_ := ⟨_, rfl⟩
      replace H : (if 0 ≤ (ji5) then (if x3_1.length < 70368744177664 then (lychref1_Words.l0 k1 l0 (x3_1 ++ [Go.bits .or .u16 (IntKind.u16.wrap ((IntKind.u16.wrap (rd l0 x4_1)) * 256)) (IntKind.u16.wrap (rd l0 (ji5)))]) (wrap64 (x4_1 + 2))) else (none)) else (none)) = some r := by first | (rw [hji5] at H; exact H) | (simp only [hji5] at H ⊢; exact H)
      (try rw [hji5] at c4b0)
      have hji5w : (IntKind.i64.wrap (x4_1 + 1)) = ji5 := (i64_w _).trans hji5
      by_cases c6 : 0 ≤ (ji5)
      ·rw [if_pos c6] at H
       have c6b0 : decide (0 ≤ (ji5)) = true := decide_eq_true c6
       clear c6
       by_cases c7 : x3_1.length < 70368744177664
       ·rw [if_pos c7] at H
        have LMc7 := Aside0.mk c7
        clear c7
        obtain ⟨y296, hy296⟩ : ∃ y_ : List Int, y_ = (x3_1 ++ [Go.bits .or .u16 (IntKind.u16.wrap ((IntKind.u16.wrap (rd l0 x4_1)) * 256)) (IntKind.u16.wrap (rd l0 (ji5)))]) := ⟨_, rfl⟩
        replace H : (lychref1_Words.l0 k1 l0 y296 (wrap64 (x4_1 + 2))) = some r := by first | (rw [hy296]; with_reducible exact H) | (have H2_ := (Option.bind_some _ _).symm.trans H; rw [hy296]; with_reducible exact H2_) | (have H2_ := (Option.bind_some _ _).symm.trans H; with_reducible exact H2_) | with_reducible exact H | (rw [hy296]; exact H) | exact H
        have Ny296 := Aside0.mk hy296
        clear hy296
        have H' := Aside0.mk H
        clear H
        have p294 : 0 ≤ (x4_1 : Int) := of_decide_eq_true (by first | (with_reducible assumption) | assumption)
        have q294 : x4_1 < (l0.length : Int) := of_decide_eq_true (by first | (with_reducible assumption) | assumption)
        obtain ⟨ad294, e294, hx294_0⟩ := Kd.at_int HR0.out x4_1 p294 q294
        cases e294
        replace hx294_0 := (HB.out.cell (World.block_lt_of_cell? w _ hx294_0)).trans hx294_0
        replace p294 := eq_true p294
        replace q294 := eq_true q294
        have p295 : 0 ≤ ((ji5) : Int) := of_decide_eq_true (by first | (with_reducible assumption) | assumption)
        have q295 : (ji5) < (l0.length : Int) := of_decide_eq_true (by first | (with_reducible assumption) | assumption)
        obtain ⟨ad295, e295, hx295_0⟩ := Kd.at_int HR0.out (ji5) p295 q295
        obtain rfl : ad294 = ad295 := (by injection e295)
        replace hx295_0 := (HB.out.cell (World.block_lt_of_cell? w _ hx295_0)).trans hx295_0
        replace p295 := eq_true p295
        replace q295 := eq_true q295
        go_wp2_with (first | ((with_reducible refine gate_builtin (b := .append) (xs := #[.tmp 31, .tmp 33]) rfl ?_); at_builtin; refine Kd.R_append (Kd.int .u16) (w0 := w) w.heap.size rfl (.tmp 31) (.tmp 33) 22 45 (.int .u16 0) 2 rfl Try.underlying22 info45 rfl (by decide) (by omega) u3 x3_1 (Go.bits .or .u16 (IntKind.u16.wrap ((IntKind.u16.wrap (rd l0 x4_1)) * 256)) (IntKind.u16.wrap (rd l0 (ji5)))) [.int .u16 (Go.bits .or .u16 (IntKind.u16.wrap ((IntKind.u16.wrap (rd l0 x4_1)) * 256)) (IntKind.u16.wrap (rd l0 (ji5))))] (fun _ => True) (fun _ => False) rfl rfl ?aP (fun _ hk => hk.elim) ?aF ?aO ?aB ?aS ?aL ?_; (case aP => exact rfl); (case aB => exact bz HB); (case aF => exact (fun _ _ => trivial)); (case aO => exact (Kd.rz HO_3)); (case aS => exact (below_size (bz HB))); (case aL => have := LMc7.out; omega); intro v297 w8 ho hb hg hat; rw [← Ny296.out] at ho; have n0_ := Aside0.mk (hb); have n1_ := Aside0.mk (ho); clear HB; clear HO_3; have HB := n0_; have HO298 := n1_; clear n0_ n1_; clear ho hb hg hat))
        go_roundg k1
        case measure => have := HK1.out; omega
        case rel => exact ⟨(y296), (wrap64 (x4_1 + 2)), (by first | rfl | (simp; done) | (simp [*]; done)), H', ⟨by have := HK1.out; omega⟩, ⟨Kd.rz HO298⟩, ⟨bz HB⟩⟩
       ·rw [if_neg c7] at H
        exact absurd H (by simp)
      ·rw [if_neg c6] at H
       exact absurd H (by simp)
     ·rw [if_neg c4] at H
      have c4b0 : decide ((wrap64 (x4_1 + 1)) < (l0.length : Int)) = false := decide_eq_false c4
      clear c4
      by_cases c9 : x3_1.length < 70368744177664
      ·rw [if_pos c9] at H
       have LMc9 := Aside0.mk c9
       clear c9
       obtain ⟨y299, hy299⟩ : ∃ y_ : List Int, y_ = (x3_1 ++ [IntKind.u16.wrap ((IntKind.u16.wrap (rd l0 x4_1)) * 256)]) := ⟨_, rfl⟩
       replace H : (lychref1_Words.l0 k1 l0 y299 (wrap64 (x4_1 + 2))) = some r := by first | (rw [hy299]; with_reducible exact H) | (have H2_ := (Option.bind_some _ _).symm.trans H; rw [hy299]; with_reducible exact H2_) | (have H2_ := (Option.bind_some _ _).symm.trans H; with_reducible exact H2_) | with_reducible exact H | (rw [hy299]; exact H) | exact H
       have Ny299 := Aside0.mk hy299
       clear hy299
       have H' := Aside0.mk H
       clear H
       have p294 : 0 ≤ (x4_1 : Int) := of_decide_eq_true (by first | (with_reducible assumption) | assumption)
       have q294 : x4_1 < (l0.length : Int) := of_decide_eq_true (by first | (with_reducible assumption) | assumption)
       obtain ⟨ad294, e294, hx294_0⟩ := Kd.at_int HR0.out x4_1 p294 q294
       cases e294
       replace hx294_0 := (HB.out.cell (World.block_lt_of_cell? w _ hx294_0)).trans hx294_0
       replace p294 := eq_true p294
       replace q294 := eq_true q294
       go_wp2_with (first | ((with_reducible refine gate_builtin (b := .append) (xs := #[.tmp 31, .tmp 33]) rfl ?_); at_builtin; refine Kd.R_append (Kd.int .u16) (w0 := w) w.heap.size rfl (.tmp 31) (.tmp 33) 22 45 (.int .u16 0) 2 rfl Try.underlying22 info45 rfl (by decide) (by omega) u3 x3_1 (IntKind.u16.wrap ((IntKind.u16.wrap (rd l0 x4_1)) * 256)) [.int .u16 (IntKind.u16.wrap ((IntKind.u16.wrap (rd l0 x4_1)) * 256))] (fun _ => True) (fun _ => False) rfl rfl ?aP (fun _ hk => hk.elim) ?aF ?aO ?aB ?aS ?aL ?_; (case aP => exact rfl); (case aB => exact bz HB); (case aF => exact (fun _ _ => trivial)); (case aO => exact (Kd.rz HO_3)); (case aS => exact (below_size (bz HB))); (case aL => have := LMc9.out; omega); intro v300 w10 ho hb hg hat; rw [← Ny299.out] at ho; have n0_ := Aside0.mk (hb); have n1_ := Aside0.mk (ho); clear HB; clear HO_3; have HB := n0_; have HO301 := n1_; clear n0_ n1_; clear ho hb hg hat))
       go_roundg k1
       case measure => have := HK1.out; omega
       case rel => exact ⟨(y299), (wrap64 (x4_1 + 2)), (by first | rfl | (simp; done) | (simp [*]; done)), H', ⟨by have := HK1.out; omega⟩, ⟨Kd.rz HO301⟩, ⟨bz HB⟩⟩
      ·rw [if_neg c9] at H
       exact absurd H (by simp)
    ·rw [if_neg c3] at H
     exact absurd H (by simp)
   ·rw [if_neg c2] at H
    have c2b0 : decide (x4_1 < (l0.length : Int)) = false := decide_eq_false c2
    clear c2
    obtain rfl := Option.some.inj H
    go_wp2
    go_ret
    exact ⟨_, by first | rfl | (simp [errW_none, errW_some] <;> rfl) | (simp [*, errW_none, errW_some] <;> rfl), by (with_reducible repeat (first | apply Kd.R_alloc | apply Kd.R_drewN | apply Kd.R_drew)); exact HO_3.out, bz HB⟩
def lychref1_Add.l0 : Nat → Int → List Int → Int → Option (Int)
 | 0, _, _, _ => none
 | k + 1, x5, x6, x7 => if x7 < (x6.length : Int) then (if 0 ≤ x7 then (if (IntKind.u64.wrap (x5 + (IntKind.u64.wrap (rd x6 x7)))) > 4294967295 then (lychref1_Add.l0 k (IntKind.u64.wrap ((IntKind.u64.wrap ((IntKind.u64.wrap (x5 + (IntKind.u64.wrap (rd x6 x7)))) - 4294967296)) + 1)) x6 (wrap64 (x7 + 1))) else (lychref1_Add.l0 k (IntKind.u64.wrap (x5 + (IntKind.u64.wrap (rd x6 x7)))) x6 (wrap64 (x7 + 1)))) else (none)) else (some ((x5) % 4294967296))
def lychref1_Add.f (k : Nat) (a0 : Int) (l1 : List Int) : Option (Int) := (lychref1_Words.f k l1).bind fun t302 => (lychref1_Add.l0 k (IntKind.u64.wrap (a0)) t302 0)
theorem lychref1_Add.calls (k : Nat) (a0 : Int) (A1 : Option Addr) (c1 : Nat) (l1 : List Int) (r : Int) (w : World) (hr1 : Kd.C (Kd.int .u8) w A1 l1.length l1) (hc1 : l1.length ≤ c1) (h : lychref1_Add.f k a0 l1 = some r) :
  Calls Try.prog 80 #[.int .u32 a0, .slice A1 l1.length c1] w fun e w' => e = .returned (.int .u32 r) ∧ Below w.heap.size w w' := by
 have HR1 := Aside0.mk hr1
 have HC1 := Aside0.mk hc1
 clear hr1 hc1
 have HB := Aside0.mk (Below.refl w.heap.size w)
 have H : ((lychref1_Words.f k l1).bind fun t302 => (lychref1_Add.l0 k (IntKind.u64.wrap (a0)) t302 0)) = some r := h
 clear h
 replace H := Option.bind_eq_some_iff.mp H
 obtain ⟨t302, A30, H⟩ := H
 replace H : (lychref1_Add.l0 k (IntKind.u64.wrap (a0)) t302 0) = some r := H
 have A3 := Aside0.mk A30
 clear A30
 have H' := Aside0.mk H
 clear H
 go_enter Try.func80, Try.ntmps80
 go_wp2_with (first | ((with_reducible refine gate_callee (f := 113) rfl ?_); refine gL 11 Try.func113 #[.slice A1 l1.length c1] ?_; (with_reducible refine (lychref1_Words.calls k _ _ l1 t302 _ ?side1 ?side2 A3.out).mono ?_); (case side1 => repeat (first | exact HR1.out | (with_reducible refine Kd.C_alloc ?_ _) | (with_reducible refine Kd.C_drewN ?_ _) | (with_reducible refine Kd.C_drew ?_))); (case side2 => exact HC1.out); rintro e w4 ⟨v303, rfl, ho0, hb⟩; refine ⟨_, rfl, ?_⟩; have n0_ := Aside0.mk (Kd.R_lower ho0 (below_size (bz HB))); have n1_ := Aside0.mk (below_step (bz HB) hb); clear HB; have HO304 := n0_; have HB := n1_; clear n0_ n1_; (try clear hb); (try clear hb2); (try clear hk); (try clear hi); (try clear ho0)))
 go_loopg [5, 7] k (fun kq v5 v7 w' => ∃ (x5_1 : Int) (x7_1 : Int), v5 = .int .u64 x5_1 ∧ v7 = .int .i64 x7_1 ∧ Aside0 (lychref1_Add.l0 kq x5_1 t302 x7_1 = some r) ∧ Aside0 (kq ≤ k) ∧ Aside0 (Kd.R (Kd.int .u16) 45 w' w.heap.size (fun _ => True) v303 t302) ∧ Aside0 (Below w.heap.size w w'))
 case atStart => exact ⟨(IntKind.u64.wrap (a0)), (0), (by first | rfl | (simp; done) | (simp [*]; done)), (by first | rfl | (simp; done) | (simp [*]; done)), H', ⟨Nat.le_refl _⟩, ⟨Kd.rz HO304⟩, ⟨bz HB⟩⟩
 case round =>
  clear H'
  try clear c1
  obtain ⟨x5_1, x7_1, rfl, rfl, HA, HK1, HO_6, HB⟩ := hrel
  cases gk with
  | zero => exact absurd HA.out (by simp [lychref1_Add.l0])
  | succ k1 =>
   have H := HA.out
   clear HA
   simp only [lychref1_Add.l0] at H
   by_cases c5 : x7_1 < (t302.length : Int)
   ·rw [if_pos c5] at H
    have c5b0 : decide (x7_1 < (t302.length : Int)) = true := decide_eq_true c5
    clear c5
    by_cases c6 : 0 ≤ x7_1
    ·rw [if_pos c6] at H
     have c6b0 : decide (0 ≤ x7_1) = true := decide_eq_true c6
     clear c6
     by_cases c7 : (IntKind.u64.wrap (x5_1 + (IntKind.u64.wrap (rd t302 x7_1)))) > 4294967295
     ·rw [if_pos c7] at H
      have c7b0 : decide (4294967295 < (IntKind.u64.wrap (x5_1 + (IntKind.u64.wrap (rd t302 x7_1))))) = true := decide_eq_true c7
      clear c7
      have H' := Aside0.mk H
      clear H
      obtain ⟨Ao8, co8, eo8⟩ := Kd.R_slice HO_6.out
      subst eo8
      have p305 : 0 ≤ (x7_1 : Int) := of_decide_eq_true (by first | (with_reducible assumption) | assumption)
      have q305 : x7_1 < (t302.length : Int) := of_decide_eq_true (by first | (with_reducible assumption) | assumption)
      obtain ⟨ad305, e305, hx305_0⟩ := Kd.at_int (Kd.R_reads' HO_6.out).2.2 x7_1 p305 q305
      cases e305
      replace p305 := eq_true p305
      replace q305 := eq_true q305
      go_wp2
      go_roundg k1
      case measure => have := HK1.out; omega
      case rel => exact ⟨(IntKind.u64.wrap ((IntKind.u64.wrap ((IntKind.u64.wrap (x5_1 + (IntKind.u64.wrap (rd t302 x7_1)))) - 4294967296)) + 1)), (wrap64 (x7_1 + 1)), (by first | rfl | (simp; done) | (simp [*]; done)), (by first | rfl | (simp; done) | (simp [*]; done)), H', ⟨by have := HK1.out; omega⟩, ⟨Kd.rz HO_6⟩, ⟨bz HB⟩⟩
     ·rw [if_neg c7] at H
      have c7b0 : decide (4294967295 < (IntKind.u64.wrap (x5_1 + (IntKind.u64.wrap (rd t302 x7_1))))) = false := decide_eq_false c7
      clear c7
      have H' := Aside0.mk H
      clear H
      obtain ⟨Ao9, co9, eo9⟩ := Kd.R_slice HO_6.out
      subst eo9
      have p305 : 0 ≤ (x7_1 : Int) := of_decide_eq_true (by first | (with_reducible assumption) | assumption)
      have q305 : x7_1 < (t302.length : Int) := of_decide_eq_true (by first | (with_reducible assumption) | assumption)
      obtain ⟨ad305, e305, hx305_0⟩ := Kd.at_int (Kd.R_reads' HO_6.out).2.2 x7_1 p305 q305
      cases e305
      replace p305 := eq_true p305
      replace q305 := eq_true q305
      go_wp2
      go_roundg k1
      case measure => have := HK1.out; omega
      case rel => exact ⟨(IntKind.u64.wrap (x5_1 + (IntKind.u64.wrap (rd t302 x7_1)))), (wrap64 (x7_1 + 1)), (by first | rfl | (simp; done) | (simp [*]; done)), (by first | rfl | (simp; done) | (simp [*]; done)), H', ⟨by have := HK1.out; omega⟩, ⟨Kd.rz HO_6⟩, ⟨bz HB⟩⟩
    ·rw [if_neg c6] at H
     exact absurd H (by simp)
   ·rw [if_neg c5] at H
    have c5b0 : decide (x7_1 < (t302.length : Int)) = false := decide_eq_false c5
    clear c5
    obtain rfl := Option.some.inj H
    obtain ⟨Ao10, co10, eo10⟩ := Kd.R_slice HO_6.out
    subst eo10
    go_wp2
    go_ret
    exact ⟨by first | rfl | (simp [errW_none, errW_some] <;> rfl) | (simp [*, errW_none, errW_some] <;> rfl), bz HB⟩
def lychref1_Of.f (k : Nat) (l0 : List Int) : Option (Int) := (lychref1_Add.f k 0 l0).bind fun t306 => ((lychref1_Fold.f k t306).bind fun t307 => (some (Go.bits .xor .u16 IntKind.u16.max t307)))
theorem lychref1_Of.calls (k : Nat) (A0 : Option Addr) (c0 : Nat) (l0 : List Int) (r : Int) (w : World) (hr0 : Kd.C (Kd.int .u8) w A0 l0.length l0) (hc0 : l0.length ≤ c0) (h : lychref1_Of.f k l0 = some r) :
  Calls Try.prog 85 #[.slice A0 l0.length c0] w fun e w' => e = .returned (.int .u16 r) ∧ Below w.heap.size w w' := by
 have hsg_u16 : IntKind.u16.signed = false := rfl
 have HR0 := Aside0.mk hr0
 have HC0 := Aside0.mk hc0
 clear hr0 hc0
 have HB := Aside0.mk (Below.refl w.heap.size w)
 have H : ((lychref1_Add.f k 0 l0).bind fun t306 => ((lychref1_Fold.f k t306).bind fun t307 => (some (Go.bits .xor .u16 IntKind.u16.max t307)))) = some r := h
 clear h
 replace H := Option.bind_eq_some_iff.mp H
 obtain ⟨t306, A20, H⟩ := H
 replace H : ((lychref1_Fold.f k t306).bind fun t307 => (some (Go.bits .xor .u16 IntKind.u16.max t307))) = some r := H
 have A2 := Aside0.mk A20
 clear A20
 replace H := Option.bind_eq_some_iff.mp H
 obtain ⟨t307, A30, H⟩ := H
 replace H : (some (Go.bits .xor .u16 IntKind.u16.max t307)) = some r := H
 have A3 := Aside0.mk A30
 clear A30
 obtain rfl := Option.some.inj H
 go_enter Try.func85, Try.ntmps85
 go_wp2_with (first | ((with_reducible refine gate_callee (f := 80) rfl ?_); refine gL 4 Try.func80 #[.int .u32 0, .slice A0 l0.length c0] ?_; (with_reducible refine (lychref1_Add.calls k 0 _ _ l0 t306 _ ?side1 ?side2 A2.out).mono ?_); (case side1 => repeat (first | exact HR0.out | (with_reducible refine Kd.C_alloc ?_ _) | (with_reducible refine Kd.C_drewN ?_ _) | (with_reducible refine Kd.C_drew ?_))); (case side2 => exact HC0.out); rintro e w4 ⟨rfl, hb⟩; refine ⟨_, rfl, ?_⟩; have n0_ := Aside0.mk (below_step (bz HB) hb); clear HB; have HB := n0_; clear n0_; (try clear hb); (try clear hb2); (try clear hk); (try clear hi)) | ((with_reducible refine gate_callee (f := 79) rfl ?_); refine gL 5 Try.func79 #[.int .u32 t306] ?_; (with_reducible refine (lychref1_Fold.calls k t306 t307 _ A3.out).mono ?_); rintro e w' ⟨rfl, ⟨nd, rfl⟩⟩; refine ⟨_, rfl, ?_⟩))
 go_ret
 exact ⟨by first | rfl | (simp [errW_none, errW_some] <;> rfl) | (simp [*, errW_none, errW_some] <;> rfl), bz HB⟩
def lychref1_IpBytes.j0 : Nat → Bool → Int → Int → Int → Int → Int → Int → Int → Int → List Int → List Int → Option (List Int × Int)
 | 0, _, _, _, _, _, _, _, _, _, _, _ => none
 | k + 1, x27, x309000, x309001, x309002, x309003, x309004, x309005, x309006, x309007, x309008, x309009 => if x27 = true then (some (([] : List Int), 21)) else (if (x309009.length : Int) > (wrap64 (65535 - (wrap64 (20 + (x309008.length : Int))))) then (some (([] : List Int), 23)) else ((lychref1_Put16.f (([Go.bits .or .u8 64 ((wrap64 (Int.tdiv (wrap64 (20 + (x309008.length : Int))) 4)) % 256), x309000] : List Int)) (IntKind.u16.wrap (wrap64 ((wrap64 (20 + (x309008.length : Int))) + (x309009.length : Int))))).bind fun t312 => ((lychref1_Put16.f t312 x309003).bind fun t315 => ((lychref1_Put16.f t315 (Go.bits .or .u16 (IntKind.u16.wrap ((IntKind.u16.wrap (x309004)) * 8192)) x309005)).bind fun t318 => ((some (([x309001, x309002, 0, 0] : List Int) : List Int)).bind fun y321 => (if t318.length + y321.length < 140737488355328 then ((lychref1_Put32.f (t318 ++ y321) x309006).bind fun t327 => ((lychref1_Put32.f t327 x309007).bind fun t330 => (if t330.length + x309008.length < 140737488355328 then ((some (t330 ++ x309008 : List Int)).bind fun y333 => ((lychref1_Of.f k y333).bind fun t336 => (if 10 < (y333.length : Int) then (if 11 < (y333.length : Int) then ((some ((y333.set (10 : Int).toNat ((t336 / 256) % 256)).set (11 : Int).toNat ((t336) % 256) : List Int)).bind fun y338 => (if y338.length + x309009.length < 140737488355328 then (some ((y338 ++ x309009), 0)) else (none))) else (none)) else (none)))) else (none)))) else (none)))))))
def lychref1_IpBytes.f (k : Nat) (a0_0 : Int) (a0_1 : Int) (a0_2 : Int) (a0_3 : Int) (a0_4 : Int) (a0_5 : Int) (a0_6 : Int) (a0_7 : Int) (l0_8 : List Int) (l0_9 : List Int) : Option (List Int × Int) := if ((l0_8.length : Int) % 4) = 0 then (if (l0_8.length : Int) > 40 then (lychref1_IpBytes.j0 k true a0_0 a0_1 a0_2 a0_3 a0_4 a0_5 a0_6 a0_7 l0_8 l0_9) else (if a0_4 > 7 then (lychref1_IpBytes.j0 k true a0_0 a0_1 a0_2 a0_3 a0_4 a0_5 a0_6 a0_7 l0_8 l0_9) else (lychref1_IpBytes.j0 k (decide (a0_5 > 8191)) a0_0 a0_1 a0_2 a0_3 a0_4 a0_5 a0_6 a0_7 l0_8 l0_9))) else (lychref1_IpBytes.j0 k true a0_0 a0_1 a0_2 a0_3 a0_4 a0_5 a0_6 a0_7 l0_8 l0_9)
def lychref1_IpBytes.T7 : Bool × List (List Nat × List Nat) := (true, [([], []), ([], []), ([], []), ([2], [2]), ([3], [3]), ([1, 4], [1, 4]), ([5], [5]), ([0, 6], [0, 6]), ([], []), ([8], [8]), ([7, 9, 7], [7, 9]), ([10, 10, 0, 1, 2, 3, 4, 5, 6, 7, 8, 9, 10], [0, 10])])
def lychref1_IpBytes.B7 : List Nat := [0, 0, 0, 4, 12, 30, 62, 127, 0, 256, 1023, 2047]
theorem lychref1_IpBytes.tab7 : rtab .any (opsOf Try.f41 7) = lychref1_IpBytes.T7 := by kernel_rfl
theorem lychref1_IpBytes.bits7 : waitsOk lychref1_IpBytes.T7.2 lychref1_IpBytes.B7 = true := by kernel_rfl
def lychref1_IpBytes.T8 : Bool × List (List Nat × List Nat) := (true, [([], []), ([], []), ([1], [1]), ([2], [2]), ([3], [3]), ([], []), ([5], [5]), ([4, 6], [4, 6]), ([0, 7], [0, 7]), ([], []), ([9], [9]), ([], []), ([11], [11]), ([10, 12], [10, 12]), ([8, 13, 8], [8, 13]), ([14, 14, 0, 1, 2, 3, 4, 5, 6, 7, 8, 9, 10, 11, 12, 13, 14], [0, 14])])
def lychref1_IpBytes.B8 : List Nat := [0, 0, 2, 6, 14, 0, 32, 126, 255, 0, 512, 0, 2048, 7680, 16383, 32767]
theorem lychref1_IpBytes.tab8 : rtab .any (opsOf Try.f41 8) = lychref1_IpBytes.T8 := by kernel_rfl
theorem lychref1_IpBytes.bits8 : waitsOk lychref1_IpBytes.T8.2 lychref1_IpBytes.B8 = true := by kernel_rfl
def lychref1_IpBytes.T9 : Bool × List (List Nat × List Nat) := (true, [([], []), ([], []), ([1], [1]), ([0, 2], [0, 2]), ([], []), ([4], [4]), ([3, 5, 3], [3, 5]), ([], []), ([7], [7]), ([6, 8, 6], [6, 8]), ([9, 9, 0, 1, 2, 3, 4, 5, 6, 7, 8, 9], [0, 9])])
def lychref1_IpBytes.B9 : List Nat := [0, 0, 2, 7, 0, 16, 63, 0, 128, 511, 1023]
theorem lychref1_IpBytes.tab9 : rtab .any (opsOf Try.f41 9) = lychref1_IpBytes.T9 := by kernel_rfl
theorem lychref1_IpBytes.bits9 : waitsOk lychref1_IpBytes.T9.2 lychref1_IpBytes.B9 = true := by kernel_rfl
theorem lychref1_IpBytes.calls (k : Nat) (a0_0 : Int) (a0_1 : Int) (a0_2 : Int) (a0_3 : Int) (a0_4 : Int) (a0_5 : Int) (a0_6 : Int) (a0_7 : Int) (A0_8 : Option Addr) (c0_8 : Nat) (l0_8 : List Int) (A0_9 : Option Addr) (c0_9 : Nat) (l0_9 : List Int) (r1 : List Int) (r2 : Int) (w : World) (hr0_8 : Kd.C (Kd.int .u8) w A0_8 l0_8.length l0_8) (hc0_8 : l0_8.length ≤ c0_8) (hr0_9 : Kd.C (Kd.int .u8) w A0_9 l0_9.length l0_9) (hc0_9 : l0_9.length ≤ c0_9) (h : lychref1_IpBytes.f k a0_0 a0_1 a0_2 a0_3 a0_4 a0_5 a0_6 a0_7 l0_8 l0_9 = some (r1, r2)) :
  Calls Try.prog 41 #[.agg #[.int .u8 a0_0, .int .u8 a0_1, .int .u8 a0_2, .int .u16 a0_3, .int .u8 a0_4, .int .u16 a0_5, .int .u32 a0_6, .int .u32 a0_7, .slice A0_8 l0_8.length c0_8, .slice A0_9 l0_9.length c0_9]] w fun e w' => ∃ v0_ : Value, e = .returned (.tuple #[v0_, .int .i64 r2]) ∧ Kd.R (Kd.int .u8) 5 w' w.heap.size (fun _ => True) v0_ r1 ∧ Below w.heap.size w w' := by
 have hu73 := Try.underlying73
 have HR0_8 := Aside0.mk hr0_8
 have HC0_8 := Aside0.mk hc0_8
 clear hr0_8 hc0_8
 have HR0_9 := Aside0.mk hr0_9
 have HC0_9 := Aside0.mk hc0_9
 clear hr0_9 hc0_9
 have HB := Aside0.mk (Below.refl w.heap.size w)
 have H : (if ((l0_8.length : Int) % 4) = 0 then (if (l0_8.length : Int) > 40 then (lychref1_IpBytes.j0 k true a0_0 a0_1 a0_2 a0_3 a0_4 a0_5 a0_6 a0_7 l0_8 l0_9) else (if a0_4 > 7 then (lychref1_IpBytes.j0 k true a0_0 a0_1 a0_2 a0_3 a0_4 a0_5 a0_6 a0_7 l0_8 l0_9) else (lychref1_IpBytes.j0 k (decide (a0_5 > 8191)) a0_0 a0_1 a0_2 a0_3 a0_4 a0_5 a0_6 a0_7 l0_8 l0_9))) else (lychref1_IpBytes.j0 k true a0_0 a0_1 a0_2 a0_3 a0_4 a0_5 a0_6 a0_7 l0_8 l0_9)) = some (r1, r2) := h
 clear h
 have HC2 := Aside0.mk H
 clear H
 go_enter Try.func41, Try.ntmps41
 go_upto_region 1 with (first | ((with_reducible refine gate_dst (N := 1) rfl ?_); (try (refine gate_guard (by rfl) ?_; dsimp only)); refine box_event ?hg (N := 1) ?hd (cs := #[.int .u8 a0_0, .int .u8 a0_1, .int .u8 a0_2, .int .u16 a0_3, .int .u8 a0_4, .int .u16 a0_5, .int .u32 a0_6, .int .u32 a0_7, .slice A0_8 l0_8.length c0_8, .slice A0_9 l0_9.length c0_9]) (t := 73) ?hr ?_; (case hd => rfl); (case hg => rfl); (case hr => first | (go_simp; done) | (go_simp; rfl)); intro gb308 hg w3 hbox hb; have n0_ := Aside0.mk (below_step (bz HB) hb); have n1_ := Aside0.mk (hbox); have n2_ := Aside0.mk ((by rw [hg]; exact (below_size (bz HB)) : w.heap.size ≤ gb308)); have n3_ := Aside0.mk ((by rw [hg]; exact (below_size (bz HB)) : w.heap.size ≤ gb308)); clear HB; have HB := n0_; have BK308 := n1_; have GW308 := n2_; have GE308 := n3_; clear n0_ n1_ n2_ n3_; clear hb hbox hg))
 (try simp only [Act.put, List.setIfInBounds_toArray, List.set_cons_zero, List.set_cons_succ])
 go_cut [27] (fun v27 wc => ∃ (kq : Nat) (x27_1 : Bool), v27 = .bool x27_1 ∧ Aside0 (lychref1_IpBytes.j0 kq x27_1 a0_0 a0_1 a0_2 a0_3 a0_4 a0_5 a0_6 a0_7 l0_8 l0_9 = some (r1, r2)) ∧ Aside0 (kq ≤ k) ∧ Aside0 (wc.heap[gb308]? = some (.cells #[.int .u8 a0_0, .int .u8 a0_1, .int .u8 a0_2, .int .u16 a0_3, .int .u8 a0_4, .int .u16 a0_5, .int .u32 a0_6, .int .u32 a0_7, (.slice A0_8 l0_8.length c0_8), (.slice A0_9 l0_9.length c0_9)] 73 (0, 0))) ∧ Aside0 (Below w.heap.size w wc))
 case first =>
  have H := HC2.out
  clear HC2
  by_cases c4 : ((l0_8.length : Int) % 4) = 0
  ·rw [if_pos c4] at H
   have c4b0 : (((l0_8.length : Int) % 4) == 0) = true := beq_iff_eq.mpr c4
   have c4b1 : (((l0_8.length : Int) % 4) != 0) = false := bne_eq_false_iff_eq.mpr c4
   clear c4
   (first | rw [c4b0] | (simp only [i64_w, i32_w]; rw [c4b0]) | skip)
   by_cases c5 : (l0_8.length : Int) > 40
   ·rw [if_pos c5] at H
    have c5b0 : decide (40 < (l0_8.length : Int)) = true := decide_eq_true c5
    have c5b1 : decide (40 < l0_8.length) = true := decide_eq_true (by omega)
    clear c5
    have H' := Aside0.mk H
    clear H
    have hcz6_0_ := cs10 BK308.out
    have hfz6_0_ := blk_frozen BK308.out
    go_wp2
    go_meet
    case rel => exact ⟨_, (true), (by first | rfl | (simp; done) | (simp [*]; done)), H', ⟨by first | omega | exact Nat.le_refl _⟩, ⟨kz BK308⟩, ⟨bz HB⟩⟩
   ·rw [if_neg c5] at H
    have c5b0 : decide (40 < (l0_8.length : Int)) = false := decide_eq_false c5
    have c5b1 : decide (40 < l0_8.length) = false := decide_eq_false (by omega)
    clear c5
    by_cases c7 : a0_4 > 7
    ·rw [if_pos c7] at H
     have c7b0 : decide (7 < a0_4) = true := decide_eq_true c7
     clear c7
     have H' := Aside0.mk H
     clear H
     have hcz8_0_ := cs10 BK308.out
     have hfz8_0_ := blk_frozen BK308.out
     go_wp2
     go_meet
     case rel => exact ⟨_, (true), (by first | rfl | (simp; done) | (simp [*]; done)), H', ⟨by first | omega | exact Nat.le_refl _⟩, ⟨kz BK308⟩, ⟨bz HB⟩⟩
    ·rw [if_neg c7] at H
     have c7b0 : decide (7 < a0_4) = false := decide_eq_false c7
     clear c7
     have H' := Aside0.mk H
     clear H
     have hcz9_0_ := cs10 BK308.out
     have hfz9_0_ := blk_frozen BK308.out
     go_wp2
     go_meet
     case rel => exact ⟨_, (decide (a0_5 > 8191)), (by first | rfl | (simp; done) | (simp [*]; done)), H', ⟨by first | omega | exact Nat.le_refl _⟩, ⟨kz BK308⟩, ⟨bz HB⟩⟩
  ·rw [if_neg c4] at H
   have c4b0 : (((l0_8.length : Int) % 4) == 0) = false := beq_eq_false_iff_ne.mpr c4
   have c4b1 : (((l0_8.length : Int) % 4) != 0) = true := bne_iff_ne.mpr c4
   (first | rw [c4b0] | (simp only [i64_w, i32_w]; rw [c4b0]) | skip)
   have H' := Aside0.mk H
   clear H
   have hcz10_0_ := cs10 BK308.out
   have hfz10_0_ := blk_frozen BK308.out
   go_wp2
   go_meet
   case rel => exact ⟨_, (true), (by first | rfl | (simp; done) | (simp [*]; done)), H', ⟨by first | omega | exact Nat.le_refl _⟩, ⟨kz BK308⟩, ⟨bz HB⟩⟩
 case rest =>
  clear HC2
  obtain ⟨kq, x27_1, rfl, HA, HJ1, BK308, HB⟩ := hcut
  cases kq with
  | zero => exact absurd HA.out (by simp [lychref1_IpBytes.j0])
  | succ kj1 =>
   have H := HA.out
   clear HA
   simp only [lychref1_IpBytes.j0] at H
   by_cases c11 : x27_1 = true
   ·subst c11
    have H1 : (some (([] : List Int), 21)) = some (r1, r2) := by rw [if_pos rfl] at H; exact H
    clear H
    have H := H1
    clear H1
    simp only [Option.some.injEq, Prod.mk.injEq] at H
    obtain ⟨rfl, rfl⟩ := H
    go_wp2
    go_ret2
    exact ⟨_, by first | rfl | (simp [errW_none, errW_some] <;> rfl) | (simp [*, errW_none, errW_some] <;> rfl), by first | exact Kd.R_nil _ _ _ _ _ | exact Kd.N_nil _ _ _ _ _ | exact Kd.V_nil _ _ _ _ _ | exact Kd.Q_nil _ _ _ _ _ | exact Kd.S_nil _ _ _ _ _, bz HB⟩
   ·replace c11 := Bool.eq_false_iff.mpr c11
    subst c11
    have H1 : (if (l0_9.length : Int) > (wrap64 (65535 - (wrap64 (20 + (l0_8.length : Int))))) then (some (([] : List Int), 23)) else ((lychref1_Put16.f (([Go.bits .or .u8 64 ((wrap64 (Int.tdiv (wrap64 (20 + (l0_8.length : Int))) 4)) % 256), a0_0] : List Int)) (IntKind.u16.wrap (wrap64 ((wrap64 (20 + (l0_8.length : Int))) + (l0_9.length : Int))))).bind fun t312 => ((lychref1_Put16.f t312 a0_3).bind fun t315 => ((lychref1_Put16.f t315 (Go.bits .or .u16 (IntKind.u16.wrap ((IntKind.u16.wrap (a0_4)) * 8192)) a0_5)).bind fun t318 => ((some (([a0_1, a0_2, 0, 0] : List Int) : List Int)).bind fun y321 => (if t318.length + y321.length < 140737488355328 then ((lychref1_Put32.f (t318 ++ y321) a0_6).bind fun t327 => ((lychref1_Put32.f t327 a0_7).bind fun t330 => (if t330.length + l0_8.length < 140737488355328 then ((some (t330 ++ l0_8 : List Int)).bind fun y333 => ((lychref1_Of.f kj1 y333).bind fun t336 => (if 10 < (y333.length : Int) then (if 11 < (y333.length : Int) then ((some ((y333.set (10 : Int).toNat ((t336 / 256) % 256)).set (11 : Int).toNat ((t336) % 256) : List Int)).bind fun y338 => (if y338.length + l0_9.length < 140737488355328 then (some ((y338 ++ l0_9), 0)) else (none))) else (none)) else (none)))) else (none)))) else (none))))))) = some (r1, r2) := by rw [if_neg (show ¬ (false = true) by decide)] at H; exact H
    clear H
    have H := H1
    clear H1
    by_cases c12 : (l0_9.length : Int) > (wrap64 (65535 - (wrap64 (20 + (l0_8.length : Int)))))
    ·rw [if_pos c12] at H
     have c12b0 : decide ((wrap64 (65535 - (wrap64 (20 + (l0_8.length : Int))))) < (l0_9.length : Int)) = true := decide_eq_true c12
     clear c12
     simp only [Option.some.injEq, Prod.mk.injEq] at H
     obtain ⟨rfl, rfl⟩ := H
     have hcz13_0_ := cs10 BK308.out
     have hfz13_0_ := blk_frozen BK308.out
     go_wp2
     go_ret2
     exact ⟨_, by first | rfl | (simp [errW_none, errW_some] <;> rfl) | (simp [*, errW_none, errW_some] <;> rfl), by first | exact Kd.R_nil _ _ _ _ _ | exact Kd.N_nil _ _ _ _ _ | exact Kd.V_nil _ _ _ _ _ | exact Kd.Q_nil _ _ _ _ _ | exact Kd.S_nil _ _ _ _ _, bz HB⟩
    ·rw [if_neg c12] at H
     have c12b0 : decide ((wrap64 (65535 - (wrap64 (20 + (l0_8.length : Int))))) < (l0_9.length : Int)) = false := decide_eq_false c12
     clear c12
     obtain ⟨y309, hy309⟩ : ∃ y_ : List Int, y_ = (([Go.bits .or .u8 64 ((wrap64 (Int.tdiv (wrap64 (20 + (l0_8.length : Int))) 4)) % 256), a0_0] : List Int)) := ⟨_, rfl⟩
     replace H : ((lychref1_Put16.f y309 (IntKind.u16.wrap (wrap64 ((wrap64 (20 + (l0_8.length : Int))) + (l0_9.length : Int))))).bind fun t312 => ((lychref1_Put16.f t312 a0_3).bind fun t315 => ((lychref1_Put16.f t315 (Go.bits .or .u16 (IntKind.u16.wrap ((IntKind.u16.wrap (a0_4)) * 8192)) a0_5)).bind fun t318 => ((some (([a0_1, a0_2, 0, 0] : List Int) : List Int)).bind fun y321 => (if t318.length + y321.length < 140737488355328 then ((lychref1_Put32.f (t318 ++ y321) a0_6).bind fun t327 => ((lychref1_Put32.f t327 a0_7).bind fun t330 => (if t330.length + l0_8.length < 140737488355328 then ((some (t330 ++ l0_8 : List Int)).bind fun y333 => ((lychref1_Of.f kj1 y333).bind fun t336 => (if 10 < (y333.length : Int) then (if 11 < (y333.length : Int) then ((some ((y333.set (10 : Int).toNat ((t336 / 256) % 256)).set (11 : Int).toNat ((t336) % 256) : List Int)).bind fun y338 => (if y338.length + l0_9.length < 140737488355328 then (some ((y338 ++ l0_9), 0)) else (none))) else (none)) else (none)))) else (none)))) else (none)))))) = some (r1, r2) := by first | (rw [hy309]; with_reducible exact H) | (have H2_ := (Option.bind_some _ _).symm.trans H; rw [hy309]; with_reducible exact H2_) | (have H2_ := (Option.bind_some _ _).symm.trans H; with_reducible exact H2_) | with_reducible exact H | (rw [hy309]; exact H) | exact H
     have Ny309 := Aside0.mk hy309
     clear hy309
     replace H := Option.bind_eq_some_iff.mp H
     obtain ⟨t312, A140, H⟩ := H
     replace H : ((lychref1_Put16.f t312 a0_3).bind fun t315 => ((lychref1_Put16.f t315 (Go.bits .or .u16 (IntKind.u16.wrap ((IntKind.u16.wrap (a0_4)) * 8192)) a0_5)).bind fun t318 => ((some (([a0_1, a0_2, 0, 0] : List Int) : List Int)).bind fun y321 => (if t318.length + y321.length < 140737488355328 then ((lychref1_Put32.f (t318 ++ y321) a0_6).bind fun t327 => ((lychref1_Put32.f t327 a0_7).bind fun t330 => (if t330.length + l0_8.length < 140737488355328 then ((some (t330 ++ l0_8 : List Int)).bind fun y333 => ((lychref1_Of.f kj1 y333).bind fun t336 => (if 10 < (y333.length : Int) then (if 11 < (y333.length : Int) then ((some ((y333.set (10 : Int).toNat ((t336 / 256) % 256)).set (11 : Int).toNat ((t336) % 256) : List Int)).bind fun y338 => (if y338.length + l0_9.length < 140737488355328 then (some ((y338 ++ l0_9), 0)) else (none))) else (none)) else (none)))) else (none)))) else (none))))) = some (r1, r2) := H
     have A14 := Aside0.mk A140
     clear A140
     replace H := Option.bind_eq_some_iff.mp H
     obtain ⟨t315, A150, H⟩ := H
     replace H : ((lychref1_Put16.f t315 (Go.bits .or .u16 (IntKind.u16.wrap ((IntKind.u16.wrap (a0_4)) * 8192)) a0_5)).bind fun t318 => ((some (([a0_1, a0_2, 0, 0] : List Int) : List Int)).bind fun y321 => (if t318.length + y321.length < 140737488355328 then ((lychref1_Put32.f (t318 ++ y321) a0_6).bind fun t327 => ((lychref1_Put32.f t327 a0_7).bind fun t330 => (if t330.length + l0_8.length < 140737488355328 then ((some (t330 ++ l0_8 : List Int)).bind fun y333 => ((lychref1_Of.f kj1 y333).bind fun t336 => (if 10 < (y333.length : Int) then (if 11 < (y333.length : Int) then ((some ((y333.set (10 : Int).toNat ((t336 / 256) % 256)).set (11 : Int).toNat ((t336) % 256) : List Int)).bind fun y338 => (if y338.length + l0_9.length < 140737488355328 then (some ((y338 ++ l0_9), 0)) else (none))) else (none)) else (none)))) else (none)))) else (none)))) = some (r1, r2) := H
     have A15 := Aside0.mk A150
     clear A150
     replace H := Option.bind_eq_some_iff.mp H
     obtain ⟨t318, A160, H⟩ := H
     replace H : ((some (([a0_1, a0_2, 0, 0] : List Int) : List Int)).bind fun y321 => (if t318.length + y321.length < 140737488355328 then ((lychref1_Put32.f (t318 ++ y321) a0_6).bind fun t327 => ((lychref1_Put32.f t327 a0_7).bind fun t330 => (if t330.length + l0_8.length < 140737488355328 then ((some (t330 ++ l0_8 : List Int)).bind fun y333 => ((lychref1_Of.f kj1 y333).bind fun t336 => (if 10 < (y333.length : Int) then (if 11 < (y333.length : Int) then ((some ((y333.set (10 : Int).toNat ((t336 / 256) % 256)).set (11 : Int).toNat ((t336) % 256) : List Int)).bind fun y338 => (if y338.length + l0_9.length < 140737488355328 then (some ((y338 ++ l0_9), 0)) else (none))) else (none)) else (none)))) else (none)))) else (none))) = some (r1, r2) := H
     have A16 := Aside0.mk A160
     clear A160
     obtain ⟨y321, hy321⟩ : ∃ y_ : List Int, y_ = (([a0_1, a0_2, 0, 0] : List Int)) := ⟨_, rfl⟩
     replace H : (if t318.length + y321.length < 140737488355328 then ((lychref1_Put32.f (t318 ++ y321) a0_6).bind fun t327 => ((lychref1_Put32.f t327 a0_7).bind fun t330 => (if t330.length + l0_8.length < 140737488355328 then ((some (t330 ++ l0_8 : List Int)).bind fun y333 => ((lychref1_Of.f kj1 y333).bind fun t336 => (if 10 < (y333.length : Int) then (if 11 < (y333.length : Int) then ((some ((y333.set (10 : Int).toNat ((t336 / 256) % 256)).set (11 : Int).toNat ((t336) % 256) : List Int)).bind fun y338 => (if y338.length + l0_9.length < 140737488355328 then (some ((y338 ++ l0_9), 0)) else (none))) else (none)) else (none)))) else (none)))) else (none)) = some (r1, r2) := by first | (rw [hy321]; with_reducible exact H) | (have H2_ := (Option.bind_some _ _).symm.trans H; rw [hy321]; with_reducible exact H2_) | (have H2_ := (Option.bind_some _ _).symm.trans H; with_reducible exact H2_) | with_reducible exact H | (rw [hy321]; exact H) | exact H
     have Ny321 := Aside0.mk hy321
     clear hy321
     by_cases c17 : t318.length + y321.length < 140737488355328
     ·rw [if_pos c17] at H
      have LMc17 := Aside0.mk c17
      clear c17
      obtain ⟨y324, hy324⟩ : ∃ y_ : List Int, y_ = (t318 ++ y321) := ⟨_, rfl⟩
      replace H : ((lychref1_Put32.f y324 a0_6).bind fun t327 => ((lychref1_Put32.f t327 a0_7).bind fun t330 => (if t330.length + l0_8.length < 140737488355328 then ((some (t330 ++ l0_8 : List Int)).bind fun y333 => ((lychref1_Of.f kj1 y333).bind fun t336 => (if 10 < (y333.length : Int) then (if 11 < (y333.length : Int) then ((some ((y333.set (10 : Int).toNat ((t336 / 256) % 256)).set (11 : Int).toNat ((t336) % 256) : List Int)).bind fun y338 => (if y338.length + l0_9.length < 140737488355328 then (some ((y338 ++ l0_9), 0)) else (none))) else (none)) else (none)))) else (none)))) = some (r1, r2) := by first | (rw [hy324]; with_reducible exact H) | (have H2_ := (Option.bind_some _ _).symm.trans H; rw [hy324]; with_reducible exact H2_) | (have H2_ := (Option.bind_some _ _).symm.trans H; with_reducible exact H2_) | with_reducible exact H | (rw [hy324]; exact H) | exact H
      have Ny324 := Aside0.mk hy324
      clear hy324
      replace H := Option.bind_eq_some_iff.mp H
      obtain ⟨t327, A180, H⟩ := H
      replace H : ((lychref1_Put32.f t327 a0_7).bind fun t330 => (if t330.length + l0_8.length < 140737488355328 then ((some (t330 ++ l0_8 : List Int)).bind fun y333 => ((lychref1_Of.f kj1 y333).bind fun t336 => (if 10 < (y333.length : Int) then (if 11 < (y333.length : Int) then ((some ((y333.set (10 : Int).toNat ((t336 / 256) % 256)).set (11 : Int).toNat ((t336) % 256) : List Int)).bind fun y338 => (if y338.length + l0_9.length < 140737488355328 then (some ((y338 ++ l0_9), 0)) else (none))) else (none)) else (none)))) else (none))) = some (r1, r2) := H
      have A18 := Aside0.mk A180
      clear A180
      replace H := Option.bind_eq_some_iff.mp H
      obtain ⟨t330, A190, H⟩ := H
      replace H : (if t330.length + l0_8.length < 140737488355328 then ((some (t330 ++ l0_8 : List Int)).bind fun y333 => ((lychref1_Of.f kj1 y333).bind fun t336 => (if 10 < (y333.length : Int) then (if 11 < (y333.length : Int) then ((some ((y333.set (10 : Int).toNat ((t336 / 256) % 256)).set (11 : Int).toNat ((t336) % 256) : List Int)).bind fun y338 => (if y338.length + l0_9.length < 140737488355328 then (some ((y338 ++ l0_9), 0)) else (none))) else (none)) else (none)))) else (none)) = some (r1, r2) := H
      have A19 := Aside0.mk A190
      clear A190
      by_cases c20 : t330.length + l0_8.length < 140737488355328
      ·rw [if_pos c20] at H
       have LMc20 := Aside0.mk c20
       clear c20
       obtain ⟨y333, hy333⟩ : ∃ y_ : List Int, y_ = (t330 ++ l0_8) := ⟨_, rfl⟩
       replace H : ((lychref1_Of.f kj1 y333).bind fun t336 => (if 10 < (y333.length : Int) then (if 11 < (y333.length : Int) then ((some ((y333.set (10 : Int).toNat ((t336 / 256) % 256)).set (11 : Int).toNat ((t336) % 256) : List Int)).bind fun y338 => (if y338.length + l0_9.length < 140737488355328 then (some ((y338 ++ l0_9), 0)) else (none))) else (none)) else (none))) = some (r1, r2) := by first | (rw [hy333]; with_reducible exact H) | (have H2_ := (Option.bind_some _ _).symm.trans H; rw [hy333]; with_reducible exact H2_) | (have H2_ := (Option.bind_some _ _).symm.trans H; with_reducible exact H2_) | with_reducible exact H | (rw [hy333]; exact H) | exact H
       have Ny333 := Aside0.mk hy333
       clear hy333
       replace H := Option.bind_eq_some_iff.mp H
       obtain ⟨t336, A210, H⟩ := H
       replace H : (if 10 < (y333.length : Int) then (if 11 < (y333.length : Int) then ((some ((y333.set (10 : Int).toNat ((t336 / 256) % 256)).set (11 : Int).toNat ((t336) % 256) : List Int)).bind fun y338 => (if y338.length + l0_9.length < 140737488355328 then (some ((y338 ++ l0_9), 0)) else (none))) else (none)) else (none)) = some (r1, r2) := H
       have A21 := Aside0.mk A210
       clear A210
       by_cases c22 : 10 < (y333.length : Int)
       ·rw [if_pos c22] at H
        have c22b0 : decide (10 < (y333.length : Int)) = true := decide_eq_true c22
        have c22b1 : decide (10 < y333.length) = true := decide_eq_true (by omega)
        clear c22
        obtain ⟨y337, hy337⟩ : ∃ y_ : List Int, y_ = (y333.set (10 : Int).toNat ((t336 / 256) % 256)) := ⟨_, rfl⟩
        replace H : (if 11 < (y333.length : Int) then ((some (y337.set (11 : Int).toNat ((t336) % 256) : List Int)).bind fun y338 => (if y338.length + l0_9.length < 140737488355328 then (some ((y338 ++ l0_9), 0)) else (none))) else (none)) = some (r1, r2) := by first | (rw [hy337]; with_reducible exact H) | (have H2_ := (Option.bind_some _ _).symm.trans H; rw [hy337]; with_reducible exact H2_) | (have H2_ := (Option.bind_some _ _).symm.trans H; with_reducible exact H2_) | with_reducible exact H | (rw [hy337]; exact H) | exact H
        have Ny337 := Aside0.mk hy337
        clear hy337
        by_cases c24 : 11 < (y333.length : Int)
        ·rw [if_pos c24] at H
         have c24b0 : decide (11 < (y333.length : Int)) = true := decide_eq_true c24
         have c24b1 : decide (11 < y333.length) = true := decide_eq_true (by omega)
         clear c24
         obtain ⟨y338, hy338⟩ : ∃ y_ : List Int, y_ = (y337.set (11 : Int).toNat ((t336) % 256)) := ⟨_, rfl⟩
         replace H : (if y338.length + l0_9.length < 140737488355328 then (some ((y338 ++ l0_9), 0)) else (none)) = some (r1, r2) := by first | (rw [hy338]; with_reducible exact H) | (have H2_ := (Option.bind_some _ _).symm.trans H; rw [hy338]; with_reducible exact H2_) | (have H2_ := (Option.bind_some _ _).symm.trans H; with_reducible exact H2_) | with_reducible exact H | (rw [hy338]; exact H) | exact H
         have Ny338 := Aside0.mk hy338
         clear hy338
         by_cases c26 : y338.length + l0_9.length < 140737488355328
         ·rw [if_pos c26] at H
          have LMc26 := Aside0.mk c26
          clear c26
          obtain ⟨y339, hy339⟩ : ∃ y_ : List Int, y_ = (y338 ++ l0_9) := ⟨_, rfl⟩
          replace H : (some (y339, 0)) = some (r1, r2) := by first | (rw [hy339]; with_reducible exact H) | (have H2_ := (Option.bind_some _ _).symm.trans H; rw [hy339]; with_reducible exact H2_) | (have H2_ := (Option.bind_some _ _).symm.trans H; with_reducible exact H2_) | with_reducible exact H | (rw [hy339]; exact H) | exact H
          have Ny339 := Aside0.mk hy339
          clear hy339
          simp only [Option.some.injEq, Prod.mk.injEq] at H
          obtain ⟨rfl, rfl⟩ := H
          have hcz27_0_ := cs10 BK308.out
          have hfz27_0_ := blk_frozen BK308.out
          try go_wp2_with (first | ((with_reducible refine gate_dst (N := 44) rfl ?_); (try (refine gate_guard (by rfl) ?_; dsimp only)); refine Kd.R_lit (Kd.int .u8) _ 5 ?hg (N := 44) ?hd (xs := ([Go.bits .or .u8 64 ((wrap64 (Int.tdiv (wrap64 (20 + (l0_8.length : Int))) 4)) % 256), a0_0] : List Int)) (inner := [.int .u8 (Go.bits .or .u8 64 ((wrap64 (Int.tdiv (wrap64 (20 + (l0_8.length : Int))) 4)) % 256)), .int .u8 a0_0]) (ok := fun _ => True) (okp := fun _ => True) ?hr ?hp (fun _ hk => hk) trivial (Below.refl _ _) (Nat.le_refl _) (by simp) ?_; (case hd => rfl); (case hg => rfl); (case hr => first | (go_simp; done) | (go_simp; simp only [IntKind.wrap_u8, IntKind.wrap_u16, IntKind.wrap_u32]; done) | (go_simp; rfl)); (case hp => exact (Reps.one (show Kd.M (Kd.int .u8) _ _ _ (Go.bits .or .u8 64 ((wrap64 (Int.tdiv (wrap64 (20 + (l0_8.length : Int))) 4)) % 256)) [.int .u8 (Go.bits .or .u8 64 ((wrap64 (Int.tdiv (wrap64 (20 + (l0_8.length : Int))) 4)) % 256))] from rfl) (Reps.one (show Kd.M (Kd.int .u8) _ _ _ a0_0 [.int .u8 a0_0] from rfl) (Reps.none _ _)))); intro v310 w28 ho29 hb hg_ hnew_; clear hg_ hnew_; (first | rw [← Ny309.out] at ho29 | (simp only [Int.reduceToNat] at ho29; rw [← Ny309.out] at ho29)); have n0_ := Aside0.mk (Kd.R_lower ho29 (below_size (bz HB))); have n1_ := Aside0.mk (blk_below (kz BK308) hb); have n2_ := Aside0.mk (below_step (bz HB) hb); clear BK308; clear HB; have HO311 := n0_; have BK308 := n1_; have HB := n2_; clear n0_ n1_ n2_; clear hb ho29))
          have n0_ := Aside0.mk (Kd.R_drew HO311.out)
          have n1_ := Aside0.mk (blk_drew BK308.out)
          have n2_ := Aside0.mk (below_drew1 HB.out)
          clear HO311
          clear BK308
          clear HB
          have HO311 := n0_
          have BK308 := n1_
          have HB := n2_
          clear n0_ n1_ n2_
          obtain ⟨Ao31, co31, eo31⟩ := Kd.R_slice HO311.out
          (first | subst eo31 | (injection eo31 with f1_ f2_ f3_; have f4_ := f1_.symm; have f5_ := f3_.symm; clear f1_ f2_ f3_; subst f4_; subst f5_))
          refine start_ (n := 12) (S := fun w' => w'.cell? ⟨gb308, 0, none⟩ = some (.int .u8 a0_0) ∧ w'.cell? ⟨gb308, 1, none⟩ = some (.int .u8 a0_1) ∧ w'.cell? ⟨gb308, 2, none⟩ = some (.int .u8 a0_2) ∧ w'.cell? ⟨gb308, 3, none⟩ = some (.int .u16 a0_3) ∧ w'.cell? ⟨gb308, 4, none⟩ = some (.int .u8 a0_4) ∧ w'.cell? ⟨gb308, 5, none⟩ = some (.int .u16 a0_5) ∧ w'.cell? ⟨gb308, 6, none⟩ = some (.int .u32 a0_6) ∧ w'.cell? ⟨gb308, 7, none⟩ = some (.int .u32 a0_7) ∧ w'.cell? ⟨gb308, 8, none⟩ = some (.slice A0_8 l0_8.length c0_8) ∧ w'.cell? ⟨gb308, 9, none⟩ = some (.slice A0_9 l0_9.length c0_9)) (ds := []) #[false, false, false, false, false, false, false, false, false, false, false, false] (by kernel_rfl) rfl rfl ⟨cz BK308.out 0 rfl, cz BK308.out 1 rfl, cz BK308.out 2 rfl, cz BK308.out 3 rfl, cz BK308.out 4 rfl, cz BK308.out 5 rfl, cz BK308.out 6 rfl, cz BK308.out 7 rfl, cz BK308.out 8 rfl, cz BK308.out 9 rfl⟩ (fun hHeld => ?_); refine with_tabW lychref1_IpBytes.tab7 lychref1_IpBytes.bits7 (fun HT_ HW_ => ?_)
          generalize w28.drew = w30 at HO311 BK308 HB hHeld ⊢
          refine pz 0 45 HT_ ?_
          refine pz 1 46 HT_ ?_
          refine pz 2 47 HT_ ?_
          refine pz 8 53 HT_ ?_
          refine take_ (i := 3) (N := some 48) (v := ?_) (a' := ?_) #[true, true, true, true, false, false, false, false, true, false, false, false] rfl rfl (take_ofW HT_.out HW_.out (by kernel_rfl)) (fun _ _ _ h => h) (Or.inl ⟨by rfl, ?_⟩) hHeld ?_ ?_
          rotate_left
          ·rintro w' ⟨s0, s1, s2, s3, s4, s5, s6, s7, s8, s9⟩
           go_simp
           with_reducible rfl
          rotate_left
          ·simp only [ps_]
           rfl
          refine pz 4 49 HT_ ?_
          refine pz 5 50 HT_ ?_
          refine pz 6 51 HT_ ?_
          refine take_ (i := 9) (N := some 54) (v := ?_) (a' := ?_) #[true, true, true, true, true, true, true, false, true, true, false, false] rfl rfl (take_ofW HT_.out HW_.out (by kernel_rfl)) (fun _ _ _ h => h) (Or.inl ⟨by rfl, ?_⟩) hHeld ?_ ?_
          rotate_left
          ·rintro w' ⟨s0, s1, s2, s3, s4, s5, s6, s7, s8, s9⟩
           go_simp
           with_reducible rfl
          rotate_left
          ·simp only [ps_]
           rfl
          refine oz 7 (some 52) HT_ (fun K hK => ?_)
          refine gG Try.func83 #[.slice Ao31 y309.length co31, .int .u16 (IntKind.u16.wrap (wrap64 ((wrap64 (20 + (l0_8.length : Int))) + (l0_9.length : Int))))] ?_
          with_reducible refine (lychref1_Put16.calls (fun k_ => some k_ = (.slice Ao31 y309.length co31 : Value).ownBlock) (.slice Ao31 y309.length co31) y309 (IntKind.u16.wrap (wrap64 ((wrap64 (20 + (l0_8.length : Int))) + (l0_9.length : Int)))) t312 w _ ?side1 ?side2 A14.out).mono ?_
          (case side1 => exact bz HB)
          (case side2 => exact Kd.R_tight rfl HO311.out)
          rintro e w32 ⟨v313, rfl, ho0, hb, hkp⟩
          refine ⟨_, rfl, ?_⟩
          have n0_ := Aside0.mk (blk_kept (kz BK308) hkp (fun hs_ => (fun e_ => (Kd.R_ne HO311.out BK308.out (by decide)) e_) hs_))
          have n1_ := Aside0.mk (Kd.R_mono (ok' := fun k_ => True) ho0 (fun k_ hk_ => trivial))
          have n2_ := Aside0.mk (hb)
          clear BK308
          clear HB
          clear HO311
          have BK308 := n0_
          have HO314 := n1_
          have HB := n2_
          clear n0_ n1_ n2_
          (try clear hb)
          (try clear hkp)
          (try clear ho0)
          obtain ⟨Ao33, co33, eo33⟩ := Kd.R_slice HO314.out
          (first | subst eo33 | (injection eo33 with f1_ f2_ f3_; have f4_ := f1_.symm; have f5_ := f3_.symm; clear f1_ f2_ f3_; subst f4_; subst f5_))
          refine hK.out _ _ ⟨cz BK308.out 0 rfl, cz BK308.out 1 rfl, cz BK308.out 2 rfl, cz BK308.out 3 rfl, cz BK308.out 4 rfl, cz BK308.out 5 rfl, cz BK308.out 6 rfl, cz BK308.out 7 rfl, cz BK308.out 8 rfl, cz BK308.out 9 rfl⟩ (fun hHeld => ?_)
          clear hK K
          refine nz 52 ?_
          refine oz 10 (some 55) HT_ (fun K hK => ?_)
          refine gG Try.func83 #[.slice Ao33 t312.length co33, .int .u16 a0_3] ?_
          with_reducible refine (lychref1_Put16.calls (fun k_ => some k_ = (.slice Ao33 t312.length co33 : Value).ownBlock) (.slice Ao33 t312.length co33) t312 a0_3 t315 w _ ?side1 ?side2 A15.out).mono ?_
          (case side1 => exact bz HB)
          (case side2 => exact Kd.R_tight rfl HO314.out)
          rintro e w34 ⟨v316, rfl, ho0, hb, hkp⟩
          refine ⟨_, rfl, ?_⟩
          have n0_ := Aside0.mk (blk_kept (kz BK308) hkp (fun hs_ => (fun e_ => (Kd.R_ne HO314.out BK308.out (by decide)) e_) hs_))
          have n1_ := Aside0.mk (Kd.R_mono (ok' := fun k_ => True) ho0 (fun k_ hk_ => trivial))
          have n2_ := Aside0.mk (hb)
          clear BK308
          clear HB
          clear HO314
          have BK308 := n0_
          have HO317 := n1_
          have HB := n2_
          clear n0_ n1_ n2_
          (try clear hb)
          (try clear hkp)
          (try clear ho0)
          refine hK.out _ _ ⟨cz BK308.out 0 rfl, cz BK308.out 1 rfl, cz BK308.out 2 rfl, cz BK308.out 3 rfl, cz BK308.out 4 rfl, cz BK308.out 5 rfl, cz BK308.out 6 rfl, cz BK308.out 7 rfl, cz BK308.out 8 rfl, cz BK308.out 9 rfl⟩ (fun hHeld => ?_)
          clear hK K
          refine nz 55 ?_
          refine pz 11 5 HT_ ?_
          refine dz HT_ ?_
          obtain ⟨Ao35, co35, eo35⟩ := Kd.R_slice HO317.out
          subst eo35
          try go_wp2
          have n0_ := Aside0.mk (Kd.R_drew HO317.out)
          have n1_ := Aside0.mk (blk_drew BK308.out)
          have n2_ := Aside0.mk (below_drew1 HB.out)
          clear HO317
          clear BK308
          clear HB
          have HO317 := n0_
          have BK308 := n1_
          have HB := n2_
          clear n0_ n1_ n2_
          refine start_ (n := 16) (S := fun w' => w'.cell? ⟨gb308, 0, none⟩ = some (.int .u8 a0_0) ∧ w'.cell? ⟨gb308, 1, none⟩ = some (.int .u8 a0_1) ∧ w'.cell? ⟨gb308, 2, none⟩ = some (.int .u8 a0_2) ∧ w'.cell? ⟨gb308, 3, none⟩ = some (.int .u16 a0_3) ∧ w'.cell? ⟨gb308, 4, none⟩ = some (.int .u8 a0_4) ∧ w'.cell? ⟨gb308, 5, none⟩ = some (.int .u16 a0_5) ∧ w'.cell? ⟨gb308, 6, none⟩ = some (.int .u32 a0_6) ∧ w'.cell? ⟨gb308, 7, none⟩ = some (.int .u32 a0_7) ∧ w'.cell? ⟨gb308, 8, none⟩ = some (.slice A0_8 l0_8.length c0_8) ∧ w'.cell? ⟨gb308, 9, none⟩ = some (.slice A0_9 l0_9.length c0_9)) (ds := []) #[false, false, false, false, false, false, false, false, false, false, false, false, false, false, false, false] (by kernel_rfl) rfl rfl ⟨cz BK308.out 0 rfl, cz BK308.out 1 rfl, cz BK308.out 2 rfl, cz BK308.out 3 rfl, cz BK308.out 4 rfl, cz BK308.out 5 rfl, cz BK308.out 6 rfl, cz BK308.out 7 rfl, cz BK308.out 8 rfl, cz BK308.out 9 rfl⟩ (fun hHeld => ?_); refine with_tabW lychref1_IpBytes.tab8 lychref1_IpBytes.bits8 (fun HT_ HW_ => ?_)
          generalize w34.drew = w36 at HO317 BK308 HB hHeld ⊢
          refine pz 0 56 HT_ ?_
          refine pz 1 57 HT_ ?_
          refine pz 5 61 HT_ ?_
          refine pz 9 65 HT_ ?_
          refine pz 11 67 HT_ ?_
          refine take_ (i := 2) (N := some 58) (v := ?_) (a' := ?_) #[true, true, true, false, false, true, false, false, false, true, false, true, false, false, false, false] rfl rfl (take_ofW HT_.out HW_.out (by kernel_rfl)) (fun _ _ _ h => h) (Or.inl ⟨by rfl, ?_⟩) hHeld ?_ ?_
          rotate_left
          ·rintro w' ⟨s0, s1, s2, s3, s4, s5, s6, s7, s8, s9⟩
           go_simp
           with_reducible rfl
          rotate_left
          ·simp only [ps_]
           rfl
          refine pz 3 59 HT_ ?_
          refine pz 4 60 HT_ ?_
          refine take_ (i := 6) (N := some 62) (v := ?_) (a' := ?_) #[true, true, true, true, true, true, true, false, false, true, false, true, false, false, false, false] rfl rfl (take_ofW HT_.out HW_.out (by kernel_rfl)) (fun _ _ _ h => h) (Or.inl ⟨by rfl, ?_⟩) hHeld ?_ ?_
          rotate_left
          ·rintro w' ⟨s0, s1, s2, s3, s4, s5, s6, s7, s8, s9⟩
           go_simp
           with_reducible rfl
          rotate_left
          ·simp only [ps_]
           rfl
          refine pz 7 63 HT_ ?_
          refine take_ (i := 10) (N := some 66) (v := ?_) (a' := ?_) #[true, true, true, true, true, true, true, true, false, true, true, true, false, false, false, false] rfl rfl (take_ofW HT_.out HW_.out (by kernel_rfl)) (fun _ _ _ h => h) (Or.inl ⟨by rfl, ?_⟩) hHeld ?_ ?_
          rotate_left
          ·rintro w' ⟨s0, s1, s2, s3, s4, s5, s6, s7, s8, s9⟩
           go_simp
           with_reducible rfl
          rotate_left
          ·simp only [ps_]
           rfl
          refine take_ (i := 12) (N := some 68) (v := ?_) (a' := ?_) #[true, true, true, true, true, true, true, true, false, true, true, true, true, false, false, false] rfl rfl (take_ofW HT_.out HW_.out (by kernel_rfl)) (fun _ _ _ h => h) (Or.inl ⟨by rfl, ?_⟩) hHeld ?_ ?_
          rotate_left
          ·rintro w' ⟨s0, s1, s2, s3, s4, s5, s6, s7, s8, s9⟩
           go_simp
           with_reducible rfl
          rotate_left
          ·simp only [ps_]
           rfl
          refine join_ (σ := Value × Value) 2 #[true, true, true, true, true, true, true, true, true, true, true, true, true, true, false, false] (fun s_ => [(64, s_.1), (69, s_.2)]) (fun s_ w' => (w'.cell? ⟨gb308, 0, none⟩ = some (.int .u8 a0_0) ∧ w'.cell? ⟨gb308, 1, none⟩ = some (.int .u8 a0_1) ∧ w'.cell? ⟨gb308, 2, none⟩ = some (.int .u8 a0_2) ∧ w'.cell? ⟨gb308, 3, none⟩ = some (.int .u16 a0_3) ∧ w'.cell? ⟨gb308, 4, none⟩ = some (.int .u8 a0_4) ∧ w'.cell? ⟨gb308, 5, none⟩ = some (.int .u16 a0_5) ∧ w'.cell? ⟨gb308, 6, none⟩ = some (.int .u32 a0_6) ∧ w'.cell? ⟨gb308, 7, none⟩ = some (.int .u32 a0_7) ∧ w'.cell? ⟨gb308, 8, none⟩ = some (.slice A0_8 l0_8.length c0_8) ∧ w'.cell? ⟨gb308, 9, none⟩ = some (.slice A0_9 l0_9.length c0_9)) ∧ (Kd.R (Kd.int .u8) 5 w' w.heap.size (fun k_ => some k_ ≠ (s_.2 : Value).ownBlock) s_.1 t318) ∧ (Kd.R (Kd.int .u8) 5 w' w.heap.size (fun k_ => some k_ ≠ (s_.1 : Value).ownBlock) s_.2 y321) ∧ (w'.heap[gb308]? = some (.cells #[.int .u8 a0_0, .int .u8 a0_1, .int .u8 a0_2, .int .u16 a0_3, .int .u8 a0_4, .int .u16 a0_5, .int .u32 a0_6, .int .u32 a0_7, .slice A0_8 l0_8.length c0_8, .slice A0_9 l0_9.length c0_9] 73 (0, 0))) ∧ (Below w.heap.size w w')) ?_ ?_
          rotate_left
          ·intro hCont
           refine two_ (i := 8) (j := 13) (Ni := some 64) (Nj := some 69) #[true, true, true, true, true, true, true, true, true, true, true, true, true, false, false, false] #[true, true, true, true, true, true, true, true, false, true, true, true, true, true, false, false] rfl rfl rfl rfl (two_of HT_.out (by kernel_rfl)) (by decide) (by decide) (fun K hK => ?_) (fun K hK => ?_)
           ·skip
            refine gG Try.func83 #[.slice Ao35 t315.length co35, .int .u16 (Go.bits .or .u16 (IntKind.u16.wrap ((IntKind.u16.wrap (a0_4)) * 8192)) a0_5)] ?_
            with_reducible refine (lychref1_Put16.calls (fun k_ => some k_ = (.slice Ao35 t315.length co35 : Value).ownBlock) (.slice Ao35 t315.length co35) t315 (Go.bits .or .u16 (IntKind.u16.wrap ((IntKind.u16.wrap (a0_4)) * 8192)) a0_5) t318 w _ ?side1 ?side2 A16.out).mono ?_
            (case side1 => exact bz HB)
            (case side2 => exact Kd.R_tight rfl HO317.out)
            rintro e w37 ⟨v319, rfl, ho0, hb, hkp⟩
            refine ⟨_, rfl, ?_⟩
            have n0_ := Aside0.mk (blk_kept (kz BK308) hkp (fun hs_ => (fun e_ => (Kd.R_ne HO317.out BK308.out (by decide)) e_) hs_))
            have n1_ := Aside0.mk (Kd.R_mono (ok' := fun k_ => True) ho0 (fun k_ hk_ => trivial))
            have n2_ := Aside0.mk (hb)
            clear BK308
            clear HB
            clear HO317
            have BK308 := n0_
            have HO320 := n1_
            have HB := n2_
            clear n0_ n1_ n2_
            (try clear hb)
            (try clear hkp)
            (try clear ho0)
            refine hK.out _ _ ⟨cz BK308.out 0 rfl, cz BK308.out 1 rfl, cz BK308.out 2 rfl, cz BK308.out 3 rfl, cz BK308.out 4 rfl, cz BK308.out 5 rfl, cz BK308.out 6 rfl, cz BK308.out 7 rfl, cz BK308.out 8 rfl, cz BK308.out 9 rfl⟩ (fun hHeld => ?_)
            clear hK K
            refine nz 64 ?_
            refine oz 13 (some 69) HT_ (fun K hK => ?_)
            refine Kd.R_lit_step (Kd.int .u8) _ 5 ?hg (N := 69) ?hd (xs := ([a0_1, a0_2, 0, 0] : List Int)) (inner := [.int .u8 a0_1, .int .u8 a0_2, .int .u8 0, .int .u8 0]) (ok := fun _ => True) (okp := fun _ => True) ?hr ?hp (fun _ hk => hk) trivial (Below.refl _ _) (Nat.le_refl _) (by simp) ?_; (case hd => rfl); (case hg => rfl); (case hr => first | (go_simp; done) | (go_simp; rfl)); (case hp => exact (Reps.one (show Kd.M (Kd.int .u8) _ _ _ a0_1 [.int .u8 a0_1] from rfl) (Reps.one (show Kd.M (Kd.int .u8) _ _ _ a0_2 [.int .u8 a0_2] from rfl) (Reps.one (show Kd.M (Kd.int .u8) _ _ _ 0 [.int .u8 0] from rfl) (Reps.one (show Kd.M (Kd.int .u8) _ _ _ 0 [.int .u8 0] from rfl) (Reps.none _ _))))))
            intro v322 w38 ho39 hb hg_ hnew_
            clear hg_ hnew_
            (first | rw [← Ny321.out] at ho39 | (simp only [Int.reduceToNat] at ho39; rw [← Ny321.out] at ho39))
            have n0_ := Aside0.mk (Kd.R_elder' (Kd.rz HO320) (Kd.R_base ho39) hb)
            have n1_ := Aside0.mk (Kd.R_lower (Kd.R_new' ho39 (Kd.R_lt (Kd.rz HO320))) (below_size (bz HB)))
            have n2_ := Aside0.mk (blk_below (kz BK308) hb)
            have n3_ := Aside0.mk (below_step (bz HB) hb)
            clear HO320
            clear BK308
            clear HB
            have HO320 := n0_
            have HO323 := n1_
            have BK308 := n2_
            have HB := n3_
            clear n0_ n1_ n2_ n3_
            clear hb ho39
            refine hK.out _ _ ⟨cz BK308.out 0 rfl, cz BK308.out 1 rfl, cz BK308.out 2 rfl, cz BK308.out 3 rfl, cz BK308.out 4 rfl, cz BK308.out 5 rfl, cz BK308.out 6 rfl, cz BK308.out 7 rfl, cz BK308.out 8 rfl, cz BK308.out 9 rfl⟩ (fun hHeld => ?_)
            clear hK K
            refine nz 69 ?_
            exact norm_ (by simp only [putAll, Act.put, List.setIfInBounds_toArray, List.set_cons_zero, List.set_cons_succ]) (hCont (v319, v322) _ ⟨hHeld, (by (with_reducible repeat (first | apply Kd.R_alloc | apply Kd.R_drewN | apply Kd.R_drew)); exact Kd.R_mono HO320.out (fun _ hk => hk.2)), (by (with_reducible repeat (first | apply Kd.R_alloc | apply Kd.R_drewN | apply Kd.R_drew)); exact Kd.R_mono HO323.out (fun _ hk => hk.2)), (kz BK308), (bz HB)⟩)
           ·skip
            refine Kd.R_lit_step (Kd.int .u8) _ 5 ?hg (N := 69) ?hd (xs := ([a0_1, a0_2, 0, 0] : List Int)) (inner := [.int .u8 a0_1, .int .u8 a0_2, .int .u8 0, .int .u8 0]) (ok := fun _ => True) (okp := fun _ => True) ?hr ?hp (fun _ hk => hk) trivial (Below.refl _ _) (Nat.le_refl _) (by simp) ?_; (case hd => rfl); (case hg => rfl); (case hr => first | (go_simp; done) | (go_simp; rfl)); (case hp => exact (Reps.one (show Kd.M (Kd.int .u8) _ _ _ a0_1 [.int .u8 a0_1] from rfl) (Reps.one (show Kd.M (Kd.int .u8) _ _ _ a0_2 [.int .u8 a0_2] from rfl) (Reps.one (show Kd.M (Kd.int .u8) _ _ _ 0 [.int .u8 0] from rfl) (Reps.one (show Kd.M (Kd.int .u8) _ _ _ 0 [.int .u8 0] from rfl) (Reps.none _ _))))))
            intro v322 w37 ho38 hb hg_ hnew_
            clear hg_ hnew_
            (first | rw [← Ny321.out] at ho38 | (simp only [Int.reduceToNat] at ho38; rw [← Ny321.out] at ho38))
            have n0_ := Aside0.mk (Kd.R_elder' (Kd.rz HO317) (Kd.R_base ho38) hb)
            have n1_ := Aside0.mk (Kd.R_lower (Kd.R_new' ho38 (Kd.R_lt (Kd.rz HO317))) (below_size (bz HB)))
            have n2_ := Aside0.mk (blk_below (kz BK308) hb)
            have n3_ := Aside0.mk (below_step (bz HB) hb)
            clear HO317
            clear BK308
            clear HB
            have HO317 := n0_
            have HO323 := n1_
            have BK308 := n2_
            have HB := n3_
            clear n0_ n1_ n2_ n3_
            clear hb ho38
            refine hK.out _ _ ⟨cz BK308.out 0 rfl, cz BK308.out 1 rfl, cz BK308.out 2 rfl, cz BK308.out 3 rfl, cz BK308.out 4 rfl, cz BK308.out 5 rfl, cz BK308.out 6 rfl, cz BK308.out 7 rfl, cz BK308.out 8 rfl, cz BK308.out 9 rfl⟩ (fun hHeld => ?_)
            clear hK K
            refine nz 69 ?_
            refine oz 8 (some 64) HT_ (fun K hK => ?_)
            refine gG Try.func83 #[.slice Ao35 t315.length co35, .int .u16 (Go.bits .or .u16 (IntKind.u16.wrap ((IntKind.u16.wrap (a0_4)) * 8192)) a0_5)] ?_
            with_reducible refine (lychref1_Put16.calls (fun k_ => some k_ = (.slice Ao35 t315.length co35 : Value).ownBlock) (.slice Ao35 t315.length co35) t315 (Go.bits .or .u16 (IntKind.u16.wrap ((IntKind.u16.wrap (a0_4)) * 8192)) a0_5) t318 w _ ?side1 ?side2 A16.out).mono ?_
            (case side1 => exact bz HB)
            (case side2 => exact Kd.R_tight rfl HO317.out)
            rintro e w39 ⟨v319, rfl, ho0, hb, hkp⟩
            refine ⟨_, rfl, ?_⟩
            have n0_ := Aside0.mk (blk_kept (kz BK308) hkp (fun hs_ => (fun e_ => (Kd.R_ne HO317.out BK308.out (by decide)) e_) hs_))
            have n1_ := Aside0.mk (Kd.R_mono (ok' := fun k_ => some k_ ≠ (v319 : Value).ownBlock) (Kd.R_keptB (HO323.out) hkp (fun k_ hk_ hs_ => (hk_.2) hs_)) (fun k_ hk_ => fun e_ => Or.elim (ho0.1 k_ e_.symm) (fun hs_ => hk_.2.1 hs_) (fun hn_ => Nat.not_le.2 hk_.2.2 hn_)))
            have n2_ := Aside0.mk (Kd.R_mono (ok' := fun k_ => some k_ ≠ (v322 : Value).ownBlock) ho0 (fun k_ hk_ => Or.elim hk_ (fun hs_ => fun e_ => (((HO323.out).1 k_ e_.symm).2) hs_) (fun hn_ => (Kd.fresh' (Kd.R_lt (Kd.rz HO323)) k_ hn_))))
            have n3_ := Aside0.mk (hb)
            clear BK308
            clear HO323
            clear HB
            clear HO317
            have BK308 := n0_
            have HO323 := n1_
            have HO320 := n2_
            have HB := n3_
            clear n0_ n1_ n2_ n3_
            (try clear hb)
            (try clear hkp)
            (try clear ho0)
            refine hK.out _ _ ⟨cz BK308.out 0 rfl, cz BK308.out 1 rfl, cz BK308.out 2 rfl, cz BK308.out 3 rfl, cz BK308.out 4 rfl, cz BK308.out 5 rfl, cz BK308.out 6 rfl, cz BK308.out 7 rfl, cz BK308.out 8 rfl, cz BK308.out 9 rfl⟩ (fun hHeld => ?_)
            clear hK K
            refine nz 64 ?_
            exact norm_ (by simp only [putAll, Act.put, List.setIfInBounds_toArray, List.set_cons_zero, List.set_cons_succ]) (hCont (v319, v322) _ ⟨hHeld, (Kd.rz HO320), (Kd.rz HO323), (kz BK308), (bz HB)⟩)
          rintro ⟨v319, v322⟩ w40 ⟨hS_, h0_, h1_, h2_, h3_⟩
          have n0_ : Aside0 (Kd.R (Kd.int .u8) 5 w40 w.heap.size (fun k_ => some k_ ≠ (v322 : Value).ownBlock) v319 t318) := ⟨h0_⟩
          have n1_ : Aside0 (Kd.R (Kd.int .u8) 5 w40 w.heap.size (fun k_ => some k_ ≠ (v319 : Value).ownBlock) v322 y321) := ⟨h1_⟩
          have n2_ : Aside0 (w40.heap[gb308]? = some (.cells #[.int .u8 a0_0, .int .u8 a0_1, .int .u8 a0_2, .int .u16 a0_3, .int .u8 a0_4, .int .u16 a0_5, .int .u32 a0_6, .int .u32 a0_7, .slice A0_8 l0_8.length c0_8, .slice A0_9 l0_9.length c0_9] 73 (0, 0))) := ⟨h2_⟩
          have n3_ : Aside0 (Below w.heap.size w w40) := ⟨h3_⟩
          clear HO317
          clear BK308
          clear HB
          clear h0_ h1_ h2_ h3_
          have HO320 := n0_
          have HO323 := n1_
          have BK308 := n2_
          have HB := n3_
          clear n0_ n1_ n2_ n3_
          have hHeld : w40.cell? ⟨gb308, 0, none⟩ = some (.int .u8 a0_0) ∧ w40.cell? ⟨gb308, 1, none⟩ = some (.int .u8 a0_1) ∧ w40.cell? ⟨gb308, 2, none⟩ = some (.int .u8 a0_2) ∧ w40.cell? ⟨gb308, 3, none⟩ = some (.int .u16 a0_3) ∧ w40.cell? ⟨gb308, 4, none⟩ = some (.int .u8 a0_4) ∧ w40.cell? ⟨gb308, 5, none⟩ = some (.int .u16 a0_5) ∧ w40.cell? ⟨gb308, 6, none⟩ = some (.int .u32 a0_6) ∧ w40.cell? ⟨gb308, 7, none⟩ = some (.int .u32 a0_7) ∧ w40.cell? ⟨gb308, 8, none⟩ = some (.slice A0_8 l0_8.length c0_8) ∧ w40.cell? ⟨gb308, 9, none⟩ = some (.slice A0_9 l0_9.length c0_9) := hS_
          obtain ⟨Ao42, co42, eo42⟩ := Kd.R_slice HO323.out
          (first | subst eo42 | (injection eo42 with f1_ f2_ f3_; have f4_ := f1_.symm; have f5_ := f3_.symm; clear f1_ f2_ f3_; subst f4_; subst f5_))
          refine norm_ (a' := ?_) ?_ ?_
          rotate_left
          ·simp only [putAll, Act.put, List.setIfInBounds_toArray, List.set_cons_zero, List.set_cons_succ]
           rfl
          refine oz 14 (some 70) HT_ (fun K hK => ?_)
          refine Kd.R_append_rows_step (Kd.int .u8) (w0 := w) w.heap.size (by rfl) (.tmp 64) (.tmp 69) 23 5 (.int .u8 0) 1 rfl Try.underlying23 info5 rfl (by decide) (by omega) v319 t318 y321 _ _ _ (fun k_ => some k_ ≠ (.slice Ao42 y321.length co42 : Value).ownBlock) (fun _ => False) rfl rfl ?aO ?aR (fun _ _ h => h) (fun _ h => h.elim) ?aF ?aB ?aS ?aL ?_
          (case aR => repeat (first | exact (Kd.R_reads' HO323.out).2.2 | (with_reducible refine Kd.C_alloc ?_ _) | (with_reducible refine Kd.C_drewN ?_ _) | (with_reducible refine Kd.C_drew ?_)))
          (case aB => exact bz HB)
          (case aF => exact (fun k_ hk => Kd.fresh' (Kd.R_lt (Kd.rz HO323)) k_ hk))
          (case aO => exact (Kd.rz HO320))
          (case aS => exact (below_size (bz HB)))
          (case aL => have := LMc17.out; omega)
          intro v325 w41 ho hb hg hat
          rw [← Ny324.out] at ho
          have n0_ := Aside0.mk (blk_grown (kz BK308) hg (Kd.R_ne HO320.out BK308.out (by decide)))
          have n1_ := Aside0.mk (Kd.R_after (ok := (fun _ => True)) (by (with_reducible repeat (first | apply Kd.R_alloc | apply Kd.R_drewN | apply Kd.R_drew)); exact Kd.R_mono HO323.out (fun _ hk => ⟨trivial, hk⟩)) hg hat)
          have n2_ := Aside0.mk (hb)
          have n3_ := Aside0.mk (ho)
          clear BK308
          clear HO323
          clear HB
          clear HO320
          have BK308 := n0_
          have HO323 := n1_
          have HB := n2_
          have HO326 := n3_
          clear n0_ n1_ n2_ n3_
          clear ho hb hg hat
          refine hK.out _ _ ⟨cz BK308.out 0 rfl, cz BK308.out 1 rfl, cz BK308.out 2 rfl, cz BK308.out 3 rfl, cz BK308.out 4 rfl, cz BK308.out 5 rfl, cz BK308.out 6 rfl, cz BK308.out 7 rfl, cz BK308.out 8 rfl, cz BK308.out 9 rfl⟩ (fun hHeld => ?_)
          clear hK K
          refine nz 70 ?_
          refine pz 15 5 HT_ ?_
          refine dz HT_ ?_
          try go_wp2
          have n0_ := Aside0.mk (Kd.R_drew HO323.out)
          have n1_ := Aside0.mk (Kd.R_drew HO326.out)
          have n2_ := Aside0.mk (blk_drew BK308.out)
          have n3_ := Aside0.mk (below_drew1 HB.out)
          clear HO323
          clear HO326
          clear BK308
          clear HB
          have HO323 := n0_
          have HO326 := n1_
          have BK308 := n2_
          have HB := n3_
          clear n0_ n1_ n2_ n3_
          obtain ⟨Ao44, co44, eo44⟩ := Kd.R_slice HO326.out
          (first | subst eo44 | (injection eo44 with f1_ f2_ f3_; have f4_ := f1_.symm; have f5_ := f3_.symm; clear f1_ f2_ f3_; subst f4_; subst f5_))
          refine start_ (n := 11) (S := fun w' => w'.cell? ⟨gb308, 0, none⟩ = some (.int .u8 a0_0) ∧ w'.cell? ⟨gb308, 1, none⟩ = some (.int .u8 a0_1) ∧ w'.cell? ⟨gb308, 2, none⟩ = some (.int .u8 a0_2) ∧ w'.cell? ⟨gb308, 3, none⟩ = some (.int .u16 a0_3) ∧ w'.cell? ⟨gb308, 4, none⟩ = some (.int .u8 a0_4) ∧ w'.cell? ⟨gb308, 5, none⟩ = some (.int .u16 a0_5) ∧ w'.cell? ⟨gb308, 6, none⟩ = some (.int .u32 a0_6) ∧ w'.cell? ⟨gb308, 7, none⟩ = some (.int .u32 a0_7) ∧ w'.cell? ⟨gb308, 8, none⟩ = some (.slice A0_8 l0_8.length c0_8) ∧ w'.cell? ⟨gb308, 9, none⟩ = some (.slice A0_9 l0_9.length c0_9)) (ds := []) #[false, false, false, false, false, false, false, false, false, false, false] (by kernel_rfl) rfl rfl ⟨cz BK308.out 0 rfl, cz BK308.out 1 rfl, cz BK308.out 2 rfl, cz BK308.out 3 rfl, cz BK308.out 4 rfl, cz BK308.out 5 rfl, cz BK308.out 6 rfl, cz BK308.out 7 rfl, cz BK308.out 8 rfl, cz BK308.out 9 rfl⟩ (fun hHeld => ?_); refine with_tabW lychref1_IpBytes.tab9 lychref1_IpBytes.bits9 (fun HT_ HW_ => ?_)
          generalize w41.drew = w43 at HO323 HO326 BK308 HB hHeld ⊢
          refine pz 0 71 HT_ ?_
          refine pz 1 72 HT_ ?_
          refine pz 4 75 HT_ ?_
          refine pz 7 78 HT_ ?_
          refine take_ (i := 2) (N := some 73) (v := ?_) (a' := ?_) #[true, true, true, false, true, false, false, true, false, false, false] rfl rfl (take_ofW HT_.out HW_.out (by kernel_rfl)) (fun _ _ _ h => h) (Or.inl ⟨by rfl, ?_⟩) hHeld ?_ ?_
          rotate_left
          ·rintro w' ⟨s0, s1, s2, s3, s4, s5, s6, s7, s8, s9⟩
           go_simp
           with_reducible rfl
          rotate_left
          ·simp only [ps_]
           rfl
          refine take_ (i := 5) (N := some 76) (v := ?_) (a' := ?_) #[true, true, true, false, true, true, false, true, false, false, false] rfl rfl (take_ofW HT_.out HW_.out (by kernel_rfl)) (fun _ _ _ h => h) (Or.inl ⟨by rfl, ?_⟩) hHeld ?_ ?_
          rotate_left
          ·rintro w' ⟨s0, s1, s2, s3, s4, s5, s6, s7, s8, s9⟩
           go_simp
           with_reducible rfl
          rotate_left
          ·simp only [ps_]
           rfl
          refine take_ (i := 8) (N := some 79) (v := ?_) (a' := ?_) #[true, true, true, false, true, true, false, true, true, false, false] rfl rfl (take_ofW HT_.out HW_.out (by kernel_rfl)) (fun _ _ _ h => h) (Or.inl ⟨by rfl, ?_⟩) hHeld ?_ ?_
          rotate_left
          ·rintro w' ⟨s0, s1, s2, s3, s4, s5, s6, s7, s8, s9⟩
           go_simp
           with_reducible rfl
          rotate_left
          ·simp only [ps_]
           rfl
          refine oz 3 (some 74) HT_ (fun K hK => ?_)
          refine gG Try.func84 #[.slice Ao44 y324.length co44, .int .u32 a0_6] ?_
          with_reducible refine (lychref1_Put32.calls (fun k_ => some k_ = (.slice Ao44 y324.length co44 : Value).ownBlock) (.slice Ao44 y324.length co44) y324 a0_6 t327 w _ ?side1 ?side2 A18.out).mono ?_
          (case side1 => exact bz HB)
          (case side2 => exact Kd.R_tight rfl HO326.out)
          rintro e w45 ⟨v328, rfl, ho0, hb, hkp⟩
          refine ⟨_, rfl, ?_⟩
          have n0_ := Aside0.mk (blk_kept (kz BK308) hkp (fun hs_ => (fun e_ => (Kd.R_ne HO326.out BK308.out (by decide)) e_) hs_))
          have n1_ := Aside0.mk (Kd.R_mono (ok' := fun k_ => some k_ ≠ (v328 : Value).ownBlock) (Kd.R_keptB (HO323.out) hkp (fun k_ hk_ hs_ => (hk_.2) hs_)) (fun k_ hk_ => fun e_ => Or.elim (ho0.1 k_ e_.symm) (fun hs_ => hk_.2.1 hs_) (fun hn_ => Nat.not_le.2 hk_.2.2 hn_)))
          have n2_ := Aside0.mk (Kd.R_mono (ok' := fun k_ => some k_ ≠ (.slice Ao42 y321.length co42 : Value).ownBlock) ho0 (fun k_ hk_ => Or.elim hk_ (fun hs_ => fun e_ => (((HO323.out).1 k_ e_.symm).2) hs_) (fun hn_ => (Kd.fresh' (Kd.R_lt (Kd.rz HO323)) k_ hn_))))
          have n3_ := Aside0.mk (hb)
          clear BK308
          clear HO323
          clear HB
          clear HO326
          have BK308 := n0_
          have HO323 := n1_
          have HO329 := n2_
          have HB := n3_
          clear n0_ n1_ n2_ n3_
          (try clear hb)
          (try clear hkp)
          (try clear ho0)
          obtain ⟨Ao46, co46, eo46⟩ := Kd.R_slice HO329.out
          (first | subst eo46 | (injection eo46 with f1_ f2_ f3_; have f4_ := f1_.symm; have f5_ := f3_.symm; clear f1_ f2_ f3_; subst f4_; subst f5_))
          refine hK.out _ _ ⟨cz BK308.out 0 rfl, cz BK308.out 1 rfl, cz BK308.out 2 rfl, cz BK308.out 3 rfl, cz BK308.out 4 rfl, cz BK308.out 5 rfl, cz BK308.out 6 rfl, cz BK308.out 7 rfl, cz BK308.out 8 rfl, cz BK308.out 9 rfl⟩ (fun hHeld => ?_)
          clear hK K
          refine nz 74 ?_
          refine oz 6 (some 77) HT_ (fun K hK => ?_)
          refine gG Try.func84 #[.slice Ao46 t327.length co46, .int .u32 a0_7] ?_
          with_reducible refine (lychref1_Put32.calls (fun k_ => some k_ = (.slice Ao46 t327.length co46 : Value).ownBlock) (.slice Ao46 t327.length co46) t327 a0_7 t330 w _ ?side1 ?side2 A19.out).mono ?_
          (case side1 => exact bz HB)
          (case side2 => exact Kd.R_tight rfl HO329.out)
          rintro e w47 ⟨v331, rfl, ho0, hb, hkp⟩
          refine ⟨_, rfl, ?_⟩
          have n0_ := Aside0.mk (blk_kept (kz BK308) hkp (fun hs_ => (fun e_ => (Kd.R_ne HO329.out BK308.out (by decide)) e_) hs_))
          have n1_ := Aside0.mk (Kd.R_mono (ok' := fun k_ => some k_ ≠ (v331 : Value).ownBlock) (Kd.R_keptB (HO323.out) hkp (fun k_ hk_ hs_ => (hk_) hs_)) (fun k_ hk_ => fun e_ => Or.elim (ho0.1 k_ e_.symm) (fun hs_ => hk_.2.1 hs_) (fun hn_ => Nat.not_le.2 hk_.2.2 hn_)))
          have n2_ := Aside0.mk (Kd.R_mono (ok' := fun k_ => some k_ ≠ (.slice Ao42 y321.length co42 : Value).ownBlock) ho0 (fun k_ hk_ => Or.elim hk_ (fun hs_ => fun e_ => (((HO323.out).1 k_ e_.symm)) hs_) (fun hn_ => (Kd.fresh' (Kd.R_lt (Kd.rz HO323)) k_ hn_))))
          have n3_ := Aside0.mk (hb)
          clear BK308
          clear HO323
          clear HB
          clear HO329
          have BK308 := n0_
          have HO323 := n1_
          have HO332 := n2_
          have HB := n3_
          clear n0_ n1_ n2_ n3_
          (try clear hb)
          (try clear hkp)
          (try clear ho0)
          refine hK.out _ _ ⟨cz BK308.out 0 rfl, cz BK308.out 1 rfl, cz BK308.out 2 rfl, cz BK308.out 3 rfl, cz BK308.out 4 rfl, cz BK308.out 5 rfl, cz BK308.out 6 rfl, cz BK308.out 7 rfl, cz BK308.out 8 rfl, cz BK308.out 9 rfl⟩ (fun hHeld => ?_)
          clear hK K
          refine nz 77 ?_
          refine oz 9 (some 80) HT_ (fun K hK => ?_)
          refine Kd.R_append_rows_step (Kd.int .u8) (w0 := w) w.heap.size (by rfl) (.tmp 77) (.tmp 79) 23 5 (.int .u8 0) 1 rfl Try.underlying23 info5 rfl (by decide) (by omega) v331 t330 l0_8 _ _ _ (fun k_ => some k_ ≠ (.slice Ao42 y321.length co42 : Value).ownBlock) (fun _ => False) rfl rfl ?aO ?aR (fun _ _ h => h) (fun _ h => h.elim) ?aF ?aB ?aS ?aL ?_
          (case aR => exact Kd.C_below HR0_8.out (bz HB))
          (case aB => exact bz HB)
          (case aF => exact (fun k_ hk => Kd.fresh' (Kd.R_lt (Kd.rz HO323)) k_ hk))
          (case aO => exact (Kd.rz HO332))
          (case aS => exact (below_size (bz HB)))
          (case aL => have := LMc20.out; omega)
          intro v334 w48 ho hb hg hat
          rw [← Ny333.out] at ho
          have n0_ := Aside0.mk (blk_grown (kz BK308) hg (Kd.R_ne HO332.out BK308.out (by decide)))
          have n1_ := Aside0.mk (Kd.R_after (ok := (fun _ => True)) (by (with_reducible repeat (first | apply Kd.R_alloc | apply Kd.R_drewN | apply Kd.R_drew)); exact Kd.R_mono HO323.out (fun _ hk => ⟨trivial, hk⟩)) hg hat)
          have n2_ := Aside0.mk (hb)
          have n3_ := Aside0.mk (ho)
          clear BK308
          clear HO323
          clear HB
          clear HO332
          have BK308 := n0_
          have HO323 := n1_
          have HB := n2_
          have HO335 := n3_
          clear n0_ n1_ n2_ n3_
          clear ho hb hg hat
          refine hK.out _ _ ⟨cz BK308.out 0 rfl, cz BK308.out 1 rfl, cz BK308.out 2 rfl, cz BK308.out 3 rfl, cz BK308.out 4 rfl, cz BK308.out 5 rfl, cz BK308.out 6 rfl, cz BK308.out 7 rfl, cz BK308.out 8 rfl, cz BK308.out 9 rfl⟩ (fun hHeld => ?_)
          clear hK K
          refine nz 80 ?_
          refine pz 10 5 HT_ ?_
          refine dz HT_ ?_
          obtain ⟨Ao49, co49, eo49⟩ := Kd.R_slice HO335.out
          subst eo49
          try go_wp2_with (first | ((with_reducible refine gate_callee (f := 85) rfl ?_); refine gL 82 Try.func85 #[.slice Ao49 y333.length co49] ?_; (with_reducible refine (lychref1_Of.calls kj1 _ _ y333 t336 _ ?side1 ?side2 A21.out).mono ?_); (case side1 => repeat (first | exact (Kd.R_reads' HO335.out).2.2 | (with_reducible refine Kd.C_alloc ?_ _) | (with_reducible refine Kd.C_drewN ?_ _) | (with_reducible refine Kd.C_drew ?_))); (case side2 => exact (Kd.R_reads' HO335.out).2.1); rintro e w50 ⟨rfl, hb⟩; refine ⟨_, rfl, ?_⟩; have n0_ := Aside0.mk (Kd.R_below (Kd.rz HO323) hb); have n1_ := Aside0.mk (Kd.R_below (Kd.rz HO335) hb); have n2_ := Aside0.mk (blk_below (kz BK308) hb); have n3_ := Aside0.mk (below_step (bz HB) hb); clear HO323; clear HO335; clear BK308; clear HB; have HO323 := n0_; have HO335 := n1_; have BK308 := n2_; have HB := n3_; clear n0_ n1_ n2_ n3_; (try clear hb); (try clear hb2); (try clear hk); (try clear hi); have p23 : 0 ≤ (10 : Int) := (by omega); have q23 : (10 : Int) < ((y333.length : Int) : Int) := of_decide_eq_true (by first | (with_reducible assumption) | assumption); have qi23 : (10 < y333.length) = True := eq_true (by omega); obtain ⟨go23, co23, eo23, gb23, gl23, cl23, HG23⟩ := Kd.R_form HO335.out (by omega); (first | cases eo23 | (injection eo23 with ea_ en_ ec_; (first | subst ea_ | (injection ea_ with ea_; subst ea_)); subst ec_; clear en_)); have GB23 := Aside0.mk gb23; have GG23 := Aside0.mk HG23; clear gb23 gl23 HG23; obtain ⟨hx23_0, hf23_0⟩ := Kd.R_celln 0 HO335.out (10 : Int) p23 q23; (try rw [show ((10 : Int)).toNat = 10 from rfl] at hx23_0); (try simp only [Nat.reduceMul, Nat.zero_mul, Nat.zero_add, Nat.reduceAdd] at hx23_0); (try rw [show ((10 : Int)).toNat = 10 from rfl] at hf23_0); (try simp only [Nat.reduceMul, Nat.zero_mul, Nat.zero_add, Nat.reduceAdd] at hf23_0); replace p23 := eq_true p23; replace q23 := eq_true q23; obtain ⟨hy51_, hz51_⟩ := Kd.R_celln 0 HO335.out (10 : Int) (by omega) (of_decide_eq_true (by first | (with_reducible assumption) | assumption)); (try simp only [Int.reduceToNat, Int.toNat_zero, Int.toNat_ofNat, Nat.reduceMul, Nat.zero_mul, Nat.zero_add] at hy51_ hz51_); (try rw [show ((10 : Int)).toNat = 10 from rfl] at hy51_); (try rw [show ((10 : Int)).toNat = 10 from rfl] at hz51_); have HP51 := Kd.R_putg HO335.out (10 : Int) ((t336 / 256) % 256)) | ((with_reducible refine gate_store (t := 5) (p := 90) rfl ?_); refine store_event (t := 5) (p := 90) (v := ?vo_w52) (w1 := (w50.setCell ⟨go23, (10 : Int).toNat, none⟩ (.int .u8 ((t336 / 256) % 256)))) ?hg ?ho ?hn ?hr ?_; (case ho => rfl); (case hg => rfl); (case hn => rfl); (case hr => first | (go_simp; done) | (go_simp; rfl)); intro w52 hw; have hg : w50.grownBy w52 (some go23) := (by rw [hw]; exact HP51.2); have hp_ : Kd.R (Kd.int .u8) 5 w52 w.heap.size (fun k_ => some k_ ≠ (.slice Ao42 y321.length co42 : Value).ownBlock) (.slice (some ⟨go23, 0, none⟩) y333.length co49) y337 := (by rw [hw, Ny337.out]; exact HP51.1); clear HP51; have n0_ := Aside0.mk (blk_grown (kz BK308) hg (Kd.R_ne HO335.out BK308.out (by decide))); have n1_ := Aside0.mk (Kd.R_after (v := (.slice (some ⟨go23, 0, none⟩) y333.length co49)) (v1 := (.slice (some ⟨go23, 0, none⟩) y333.length co49)) (ok := (fun _ => True)) (Kd.rz HO323) hg (.inl rfl)); have n2_ := Aside0.mk (hp_); have n3_ := Aside0.mk ((by rw [hw]; exact below_set (HB.out) GB23.out : Below w.heap.size w w52)); clear BK308; clear HO323; clear HO335; clear HB; have BK308 := n0_; have HO323 := n1_; have HO335 := n2_; have HB := n3_; clear n0_ n1_ n2_ n3_; clear hg hw hp_; have p25 : 0 ≤ (11 : Int) := (by omega); have q25 : (11 : Int) < ((y333.length : Int) : Int) := of_decide_eq_true (by first | (with_reducible assumption) | assumption); have qi25 : (11 < y333.length) = True := eq_true (by omega); obtain ⟨hx25_0, hf25_0⟩ := Kd.R_celln 0 HO335.out (11 : Int) p25 q25; (try rw [show ((11 : Int)).toNat = 11 from rfl] at hx25_0); (try simp only [Nat.reduceMul, Nat.zero_mul, Nat.zero_add, Nat.reduceAdd] at hx25_0); (try rw [show ((11 : Int)).toNat = 11 from rfl] at hf25_0); (try simp only [Nat.reduceMul, Nat.zero_mul, Nat.zero_add, Nat.reduceAdd] at hf25_0); replace p25 := eq_true p25; replace q25 := eq_true q25; obtain ⟨hy53_, hz53_⟩ := Kd.R_celln 0 HO335.out (11 : Int) (by omega) (of_decide_eq_true (by first | (with_reducible assumption) | assumption)); (try simp only [Int.reduceToNat, Int.toNat_zero, Int.toNat_ofNat, Nat.reduceMul, Nat.zero_mul, Nat.zero_add] at hy53_ hz53_); (try rw [show ((11 : Int)).toNat = 11 from rfl] at hy53_); (try rw [show ((11 : Int)).toNat = 11 from rfl] at hz53_); have HP53 := Kd.R_putg HO335.out (11 : Int) ((t336) % 256)) | ((with_reducible refine gate_store (t := 5) (p := 91) rfl ?_); refine store_event (t := 5) (p := 91) (v := ?vo_w54) (w1 := (w52.setCell ⟨go23, (11 : Int).toNat, none⟩ (.int .u8 ((t336) % 256)))) ?hg ?ho ?hn ?hr ?_; (case ho => rfl); (case hg => rfl); (case hn => rfl); (case hr => first | (go_simp; done) | (go_simp; rfl)); intro w54 hw; have hg : w52.grownBy w54 (some go23) := (by rw [hw]; exact HP53.2); have hp_ : Kd.R (Kd.int .u8) 5 w54 w.heap.size (fun k_ => some k_ ≠ (.slice Ao42 y321.length co42 : Value).ownBlock) (.slice (some ⟨go23, 0, none⟩) y333.length co49) y338 := (by rw [hw, Ny338.out]; exact HP53.1); clear HP53; have n0_ := Aside0.mk (blk_grown (kz BK308) hg (Kd.R_ne HO335.out BK308.out (by decide))); have n1_ := Aside0.mk (Kd.R_after (v := (.slice (some ⟨go23, 0, none⟩) y333.length co49)) (v1 := (.slice (some ⟨go23, 0, none⟩) y333.length co49)) (ok := (fun _ => True)) (Kd.rz HO323) hg (.inl rfl)); have n2_ := Aside0.mk (hp_); have n3_ := Aside0.mk ((by rw [hw]; exact below_set (HB.out) GB23.out : Below w.heap.size w w54)); clear BK308; clear HO323; clear HO335; clear HB; have BK308 := n0_; have HO323 := n1_; have HO335 := n2_; have HB := n3_; clear n0_ n1_ n2_ n3_; clear hg hw hp_; have hcz55_0 : w54.cell? ⟨gb308, 0, none⟩ = some (.int .u8 a0_0) := cz BK308.out 0 rfl; have hcz55_1 : w54.cell? ⟨gb308, 1, none⟩ = some (.int .u8 a0_1) := cz BK308.out 1 rfl; have hcz55_2 : w54.cell? ⟨gb308, 2, none⟩ = some (.int .u8 a0_2) := cz BK308.out 2 rfl; have hcz55_3 : w54.cell? ⟨gb308, 3, none⟩ = some (.int .u16 a0_3) := cz BK308.out 3 rfl; have hcz55_4 : w54.cell? ⟨gb308, 4, none⟩ = some (.int .u8 a0_4) := cz BK308.out 4 rfl; have hcz55_5 : w54.cell? ⟨gb308, 5, none⟩ = some (.int .u16 a0_5) := cz BK308.out 5 rfl; have hcz55_6 : w54.cell? ⟨gb308, 6, none⟩ = some (.int .u32 a0_6) := cz BK308.out 6 rfl; have hcz55_7 : w54.cell? ⟨gb308, 7, none⟩ = some (.int .u32 a0_7) := cz BK308.out 7 rfl; have hcz55_8 : w54.cell? ⟨gb308, 8, none⟩ = some (.slice A0_8 l0_8.length c0_8) := cz BK308.out 8 rfl; have hcz55_9 : w54.cell? ⟨gb308, 9, none⟩ = some (.slice A0_9 l0_9.length c0_9) := cz BK308.out 9 rfl; have hfz55_0 := blk_frozen BK308.out 0; have hfz55_1 := blk_frozen BK308.out 1; have hfz55_2 := blk_frozen BK308.out 2; have hfz55_3 := blk_frozen BK308.out 3; have hfz55_4 := blk_frozen BK308.out 4; have hfz55_5 := blk_frozen BK308.out 5; have hfz55_6 := blk_frozen BK308.out 6; have hfz55_7 := blk_frozen BK308.out 7; have hfz55_8 := blk_frozen BK308.out 8; have hfz55_9 := blk_frozen BK308.out 9) | ((with_reducible refine gate_builtin (b := .append) (xs := #[.tmp 92, .tmp 94]) rfl ?_); (try (refine gate_guard (by rfl) ?_; dsimp only)); at_builtin; refine Kd.R_append_rows (Kd.int .u8) (w0 := w) w.heap.size rfl (.tmp 92) (.tmp 94) 23 5 (.int .u8 0) 1 rfl Try.underlying23 info5 rfl (by decide) (by omega) (.slice (some ⟨go23, 0, none⟩) y333.length co49) y338 l0_9 _ _ _ (fun k_ => some k_ ≠ (.slice Ao42 y321.length co42 : Value).ownBlock) (fun _ => False) rfl rfl ?aO ?aR (fun _ _ h => h) (fun _ h => h.elim) ?aF ?aB ?aS ?aL ?_; (case aR => exact Kd.C_below HR0_9.out (bz HB)); (case aB => exact bz HB); (case aF => exact (fun k_ hk => Kd.fresh' (Kd.R_lt (Kd.rz HO323)) k_ hk)); (case aO => exact (Kd.rz HO335)); (case aS => exact (below_size (bz HB))); (case aL => have := LMc26.out; omega); intro v340 w56 ho hb hg hat; rw [← Ny339.out] at ho; have n0_ := Aside0.mk (blk_grown (kz BK308) hg (Kd.R_ne HO335.out BK308.out (by decide))); have n1_ := Aside0.mk (Kd.R_after (ok := (fun _ => True)) (Kd.rz HO323) hg hat); have n2_ := Aside0.mk (hb); have n3_ := Aside0.mk (ho); clear BK308; clear HO323; clear HB; clear HO335; have BK308 := n0_; have HO323 := n1_; have HB := n2_; have HO341 := n3_; clear n0_ n1_ n2_ n3_; clear ho hb hg hat))
          go_ret2
          exact ⟨_, by first | rfl | (simp [errW_none, errW_some] <;> rfl) | (simp [*, errW_none, errW_some] <;> rfl), by (with_reducible repeat (first | apply Kd.R_alloc | apply Kd.R_drewN | apply Kd.R_drew)); exact Kd.R_mono HO341.out (fun _ hk => trivial), bz HB⟩
         ·rw [if_neg c26] at H
          exact absurd H (by simp)
        ·rw [if_neg c24] at H
         exact absurd H (by simp)
       ·rw [if_neg c22] at H
        exact absurd H (by simp)
      ·rw [if_neg c20] at H
       exact absurd H (by simp)
     ·rw [if_neg c17] at H
      exact absurd H (by simp)
theorem lychref1_EthBytes.lies {W : World} {g o : Nat} {t : TypeId} {cs : Array Value} {x0 x1 x2 x3 x4 x5 : Int} (h : W.heap[g]? = some (.cells cs t (0, 0))) (h0 : cs[o]? = some (.int .u8 x0)) (h1 : cs[o + 1]? = some (.int .u8 x1)) (h2 : cs[o + 2]? = some (.int .u8 x2)) (h3 : cs[o + 3]? = some (.int .u8 x3)) (h4 : cs[o + 4]? = some (.int .u8 x4)) (h5 : cs[o + 5]? = some (.int .u8 x5)) :
  Kd.C (Kd.int .u8) W (some ⟨g, o, none⟩) 6 [x0, x1, x2, x3, x4, x5] := by
 refine Kd.C_of_reads (enc := Value.int .u8) (d := (0 : Int)) (h1 := fun _ => rfl) ⟨rfl, by omega, fun _ => ⟨_, rfl, fun j hj => ?_⟩⟩
 have e : ∀ j, (⟨g, o, none⟩ : Addr).add j = ⟨g, o + j, none⟩ := fun j => by unfold Addr.add; split <;> simp_all
 rw [e, blk_cell h]
 match j, hj with
 | 0, _ => exact h0
 | 1, _ => exact h1
 | 2, _ => exact h2
 | 3, _ => exact h3
 | 4, _ => exact h4
 | 5, _ => exact h5
def lychref1_EthBytes.T3 : Bool × List (List Nat × List Nat) := (true, [([], []), ([0], [0]), ([1], [1]), ([], []), ([3], [3]), ([2, 4, 2], [2, 4]), ([5, 5, 0, 1, 2, 3, 4, 5], [5])])
def lychref1_EthBytes.B3 : List Nat := [0, 1, 3, 0, 8, 31, 63]
theorem lychref1_EthBytes.tab3 : rtab .any (opsOf Try.f46 3) = lychref1_EthBytes.T3 := by kernel_rfl
theorem lychref1_EthBytes.bits3 : waitsOk lychref1_EthBytes.T3.2 lychref1_EthBytes.B3 = true := by kernel_rfl
def lychref1_EthBytes.T4 : Bool × List (List Nat × List Nat) := (true, [([], []), ([], []), ([1], [1]), ([0, 2], [0, 2]), ([], []), ([4], [4]), ([3, 5, 3], [3, 5]), ([6, 6, 0, 1, 2, 3, 4, 5, 6], [6]), ([7, 0, 1, 2, 3, 4, 5, 6, 7], [])])
def lychref1_EthBytes.B4 : List Nat := [0, 0, 2, 7, 0, 16, 63, 127, 255]
theorem lychref1_EthBytes.tab4 : rtab .any (opsOf Try.f46 4) = lychref1_EthBytes.T4 := by kernel_rfl
theorem lychref1_EthBytes.bits4 : waitsOk lychref1_EthBytes.T4.2 lychref1_EthBytes.B4 = true := by kernel_rfl
def lychref1_EthBytes.f (a0_0 : Int) (a0_1 : Int) (a0_2 : Int) (a0_3 : Int) (a0_4 : Int) (a0_5 : Int) (a0_6 : Int) (a0_7 : Int) (a0_8 : Int) (a0_9 : Int) (a0_10 : Int) (a0_11 : Int) (a0_12 : Int) (l0_13 : List Int) : Option (List Int × Int) := if (l0_13.length : Int) > 1586 then some ([], 23) else (lychref1_Put16.f ([a0_0, a0_1, a0_2, a0_3, a0_4, a0_5] ++ [a0_6, a0_7, a0_8, a0_9, a0_10, a0_11]) a0_12).bind fun b => if b.length + l0_13.length < 140737488355328 then some (b ++ l0_13, 0) else none
theorem lychref1_EthBytes.calls (a0_0 : Int) (a0_1 : Int) (a0_2 : Int) (a0_3 : Int) (a0_4 : Int) (a0_5 : Int) (a0_6 : Int) (a0_7 : Int) (a0_8 : Int) (a0_9 : Int) (a0_10 : Int) (a0_11 : Int) (a0_12 : Int) (A0_13 : Option Addr) (c0_13 : Nat) (l0_13 : List Int) (r1 : List Int) (r2 : Int) (w : World) (hr0_13 : Kd.C (Kd.int .u8) w A0_13 l0_13.length l0_13) (hc0_13 : l0_13.length ≤ c0_13) (h : lychref1_EthBytes.f a0_0 a0_1 a0_2 a0_3 a0_4 a0_5 a0_6 a0_7 a0_8 a0_9 a0_10 a0_11 a0_12 l0_13 = some (r1, r2)) :
  Calls Try.prog 46 #[.agg #[.int .u8 a0_0, .int .u8 a0_1, .int .u8 a0_2, .int .u8 a0_3, .int .u8 a0_4, .int .u8 a0_5, .int .u8 a0_6, .int .u8 a0_7, .int .u8 a0_8, .int .u8 a0_9, .int .u8 a0_10, .int .u8 a0_11, .int .u16 a0_12, .slice A0_13 l0_13.length c0_13]] w fun e w' => ∃ v0_ : Value, e = .returned (.tuple #[v0_, .int .i64 r2]) ∧ Kd.R (Kd.int .u8) 5 w' w.heap.size (fun _ => True) v0_ r1 ∧ Below w.heap.size w w' := by
 have hu28 := Try.underlying58
 have HR0 := Aside0.mk hr0_13
 have HC0 := Aside0.mk hc0_13
 clear hr0_13 hc0_13
 have HB := Aside0.mk (Below.refl w.heap.size w)
 unfold lychref1_EthBytes.f at h
 by_cases c1 : (l0_13.length : Int) > 1586
 ·rw [if_pos c1] at h
  simp only [Option.some.injEq, Prod.mk.injEq] at h
  obtain ⟨rfl, rfl⟩ := h
  have c1b : decide (1586 < (l0_13.length : Int)) = true := decide_eq_true c1
  clear c1
  go_enter Try.func46, Try.ntmps46
  go_upto_region 1 with (first | ((with_reducible refine gate_dst (N := 1) rfl ?_); refine box_event ?hg (N := 1) ?hd (cs := #[.int .u8 a0_0, .int .u8 a0_1, .int .u8 a0_2, .int .u8 a0_3, .int .u8 a0_4, .int .u8 a0_5, .int .u8 a0_6, .int .u8 a0_7, .int .u8 a0_8, .int .u8 a0_9, .int .u8 a0_10, .int .u8 a0_11, .int .u16 a0_12, .slice A0_13 l0_13.length c0_13]) (t := 58) ?hr ?_; (case hd => rfl); (case hg => rfl); (case hr => first | (go_simp; done) | (go_simp; rfl)); intro gp hg w1 hbox hb; have n0_ := Aside0.mk (below_step (bz HB) hb); have HP := Aside0.mk hbox; have GP := Aside0.mk ((by rw [hg]; exact (below_size (bz HB))) : w.heap.size ≤ gp); clear HB; have HB := n0_; clear n0_ hb hbox hg))
  have hp12 := cz HP.out 12 rfl
  have hp13 := cz HP.out 13 rfl
  go_wp2
  go_ret2
  exact ⟨_, rfl, Kd.R_nil _ _ _ _ _, bz HB⟩
 ·rw [if_neg c1] at h
  have c1b : decide (1586 < (l0_13.length : Int)) = false := decide_eq_false c1
  obtain ⟨b, hb, h⟩ := Option.bind_eq_some_iff.mp h
  have A1 := Aside0.mk hb
  by_cases c2 : b.length + l0_13.length < 140737488355328
  ·rw [if_pos c2] at h
   simp only [Option.some.injEq, Prod.mk.injEq] at h
   obtain ⟨rfl, rfl⟩ := h
   have LM := Aside0.mk c2
   clear c1 c2 hb
   go_enter Try.func46, Try.ntmps46
   go_upto_region 1 with (first | ((with_reducible refine gate_dst (N := 1) rfl ?_); refine box_event ?hg (N := 1) ?hd (cs := #[.int .u8 a0_0, .int .u8 a0_1, .int .u8 a0_2, .int .u8 a0_3, .int .u8 a0_4, .int .u8 a0_5, .int .u8 a0_6, .int .u8 a0_7, .int .u8 a0_8, .int .u8 a0_9, .int .u8 a0_10, .int .u8 a0_11, .int .u16 a0_12, .slice A0_13 l0_13.length c0_13]) (t := 58) ?hr ?_; (case hd => rfl); (case hg => rfl); (case hr => first | (go_simp; done) | (go_simp; rfl)); intro gp hg w1 hbox hb; have n0_ := Aside0.mk (below_step (bz HB) hb); have HP := Aside0.mk hbox; have GP := Aside0.mk ((by rw [hg]; exact (below_size (bz HB))) : w.heap.size ≤ gp); clear HB; have HB := n0_; clear n0_ hb hbox hg))
   have hp12 := cz HP.out 12 rfl
   have hp13 := cz HP.out 13 rfl
   go_upto_region 3 with (fail)
   clear hp12 hp13
   refine start_ (n := 7) (S := fun _ => True) (ds := []) #[false, false, false, false, false, false, false] (by kernel_rfl) rfl rfl trivial (fun hHeld => ?_)
   refine with_tabW lychref1_EthBytes.tab3 lychref1_EthBytes.bits3 (fun HT_ HW_ => ?_)
   have n0_ := Aside0.mk (blk_drew HP.out)
   have n1_ := Aside0.mk (below_drew1 HB.out)
   clear HP HB
   have HP := n0_
   have HB := n1_
   clear n0_ n1_
   generalize w1.drew = w2 at HP HB ⊢
   refine pz 0 9 HT_ ?_
   refine pz 1 10 HT_ ?_
   refine pz 3 12 HT_ ?_
   refine pz 4 13 HT_ ?_
   refine oz 2 (some 11) HT_ (fun K hK => ?_)
   refine Kd.R_append_rows_step (Kd.int .u8) (w0 := w) w.heap.size (by rfl) (.const (.slice none 0 0)) (.tmp 10) 23 5 (.int .u8 0) 1 rfl Try.underlying23 info5 rfl (by decide) (by omega) (.slice none 0 0) ([] : List Int) [a0_0, a0_1, a0_2, a0_3, a0_4, a0_5] _ _ _ (fun _ => True) (fun _ => False) rfl (by first | rfl | (go_simp; done)) ?aO ?aR (fun _ _ h => h) (fun _ h => h.elim) ?aF ?aB ?aS ?aL ?_
   (case aR => exact lychref1_EthBytes.lies (o := 0) (kz HP) rfl rfl rfl rfl rfl rfl)
   (case aB => exact bz HB)
   (case aF => exact (fun _ _ => trivial))
   (case aO => exact Kd.R_nil _ _ _ _ _)
   (case aS => exact (below_size (bz HB)))
   (case aL => simp)
   intro v1 w3 ho hb hg hat
   have n0_ := Aside0.mk (blk_grown (kz HP) hg (fun h_ => by cases h_))
   have n2_ := Aside0.mk hb
   have n3_ := Aside0.mk ho
   clear HP HB ho hb hg hat
   have HP := n0_
   have HB := n2_
   have Hv1 := n3_
   clear n0_ n2_ n3_
   refine hK.out _ _ trivial (fun _ => ?_)
   clear hK K
   refine nz 11 ?_
   refine oz 5 (some 14) HT_ (fun K hK => ?_)
   refine Kd.R_append_rows_step (Kd.int .u8) (w0 := w) w.heap.size (by rfl) (.tmp 11) (.tmp 13) 23 5 (.int .u8 0) 1 rfl Try.underlying23 info5 rfl (by decide) (by omega) v1 ([] ++ [a0_0, a0_1, a0_2, a0_3, a0_4, a0_5]) [a0_6, a0_7, a0_8, a0_9, a0_10, a0_11] _ _ _ (fun _ => True) (fun _ => False) rfl (by first | rfl | (go_simp; done)) ?aO ?aR (fun _ _ h => h) (fun _ h => h.elim) ?aF ?aB ?aS ?aL ?_
   (case aR => exact lychref1_EthBytes.lies (o := 6) (kz HP) rfl rfl rfl rfl rfl rfl)
   (case aB => exact bz HB)
   (case aF => exact (fun _ _ => trivial))
   (case aO => exact (Kd.rz Hv1))
   (case aS => exact (below_size (bz HB)))
   (case aL => simp)
   intro v2 w4 ho hb hg hat
   have n0_ := Aside0.mk (blk_grown (kz HP) hg (Kd.R_ne Hv1.out HP.out (by decide)))
   have n2_ := Aside0.mk hb
   have n3_ := Aside0.mk ho
   clear HP HB ho hb hg hat
   have HP := n0_
   have HB := n2_
   have Hv2 := n3_
   clear n0_ n2_ n3_
   refine hK.out _ _ trivial (fun _ => ?_)
   clear hK K
   refine nz 14 ?_
   refine pz 6 4 HT_ ?_
   refine dz HT_ ?_
   clear HT_ HW_ hHeld
   have HX : Aside0 (Kd.R (Kd.int .u8) 5 w4 w.heap.size (fun _ => True) v2 ([a0_0, a0_1, a0_2, a0_3, a0_4, a0_5] ++ [a0_6, a0_7, a0_8, a0_9, a0_10, a0_11])) := ⟨Hv2.out⟩
   clear Hv1 Hv2
   obtain ⟨X, hX⟩ : ∃ X, X = [a0_0, a0_1, a0_2, a0_3, a0_4, a0_5] ++ [a0_6, a0_7, a0_8, a0_9, a0_10, a0_11] := ⟨_, rfl⟩
   rw [← hX] at HX A1
   have LX : Aside0 (X.length = 12) := ⟨by rw [hX]; rfl⟩
   clear hX
   obtain ⟨Xo, xc, ex⟩ := Kd.R_slice HX.out
   subst ex
   go_upto_region 4 with (fail)
   refine start_ (n := 9) (S := fun w' => w'.cell? ⟨gp, 12, none⟩ = some (.int .u16 a0_12) ∧ w'.cell? ⟨gp, 13, none⟩ = some (.slice A0_13 l0_13.length c0_13)) (ds := []) #[false, false, false, false, false, false, false, false, false] (by kernel_rfl) rfl rfl ⟨cz HP.out 12 rfl, cz HP.out 13 rfl⟩ (fun hHeld => ?_)
   refine with_tabW lychref1_EthBytes.tab4 lychref1_EthBytes.bits4 (fun HT_ HW_ => ?_)
   have n0_ := Aside0.mk (blk_drew HP.out)
   have n1_ := Aside0.mk (below_drew1 HB.out)
   have n2_ := Aside0.mk (Kd.R_drew HX.out)
   clear HP HB HX
   have HP := n0_
   have HB := n1_
   have HX := n2_
   clear n0_ n1_ n2_
   generalize w4.drew = w5 at HP HB HX hHeld ⊢
   refine pz 0 15 HT_ ?_
   refine pz 1 16 HT_ ?_
   refine take_ (i := 2) (N := some 17) (v := ?_) (a' := ?_) #[true, true, true, false, false, false, false, false, false] rfl rfl (take_ofW HT_.out HW_.out (by kernel_rfl)) (fun _ _ _ h => h) (Or.inl ⟨by rfl, ?_⟩) hHeld ?_ ?_
   rotate_left
   ·rintro w' ⟨s0, s1⟩
    go_simp
    with_reducible rfl
   rotate_left
   ·simp only [ps_]
    rfl
   refine pz 4 19 HT_ ?_
   refine take_ (i := 5) (N := some 20) (v := ?_) (a' := ?_) #[true, true, true, false, true, true, false, false, false] rfl rfl (take_ofW HT_.out HW_.out (by kernel_rfl)) (fun _ _ _ h => h) (Or.inl ⟨by rfl, ?_⟩) hHeld ?_ ?_
   rotate_left
   ·rintro w' ⟨s0, s1⟩
    go_simp
    with_reducible rfl
   rotate_left
   ·simp only [ps_]
    rfl
   refine oz 3 (some 18) HT_ (fun K hK => ?_)
   refine goes_ Try.func83 (by kernel_rfl) rfl #[.slice Xo X.length xc, .int .u16 a0_12] (by rfl) rfl rfl (by first | rfl | (go_simp; done)) ?_
   with_reducible refine (lychref1_Put16.calls (fun k_ => some k_ = (.slice Xo X.length xc : Value).ownBlock) (.slice Xo X.length xc) X a0_12 b w _ ?side1 ?side2 A1.out).mono ?_
   (case side1 => exact HB.out)
   (case side2 => exact Kd.R_tight rfl HX.out)
   rintro e w6 ⟨v3, rfl, ho, hb, hkp⟩
   refine ⟨_, rfl, ?_⟩
   have n0_ := Aside0.mk (blk_kept HP.out hkp (fun hs_ => (fun e_ => (Kd.R_ne HX.out HP.out (by decide)) e_) hs_))
   have n1_ := Aside0.mk (Kd.R_mono (ok' := fun k_ => True) ho (fun k_ hk_ => trivial))
   have n2_ := Aside0.mk hb
   clear HP HB HX ho hb hkp
   have HP := n0_
   have HO := n1_
   have HB := n2_
   clear n0_ n1_ n2_
   obtain ⟨Bo, bc, eb⟩ := Kd.R_slice HO.out
   subst eb
   refine hK.out _ _ ⟨cz HP.out 12 rfl, cz HP.out 13 rfl⟩ (fun hHeld => ?_)
   clear hK K
   refine nz 18 ?_
   refine oz 6 (some 21) HT_ (fun K hK => ?_)
   refine Kd.R_append_rows_step (Kd.int .u8) (w0 := w) w.heap.size (by rfl) (.tmp 18) (.tmp 20) 23 5 (.int .u8 0) 1 rfl Try.underlying23 info5 rfl (by decide) (by omega) (.slice Bo b.length bc) b l0_13 _ _ _ (fun _ => True) (fun _ => False) rfl (by first | rfl | (go_simp; done)) ?aO ?aR (fun _ _ h => h) (fun _ h => h.elim) ?aF ?aB ?aS ?aL ?_
   (case aR => exact Kd.C_below HR0.out (bz HB))
   (case aB => exact bz HB)
   (case aF => exact (fun _ _ => trivial))
   (case aO => exact (Kd.rz HO))
   (case aS => exact (below_size (bz HB)))
   (case aL => have := LM.out; omega)
   intro v4 w7 ho hb hg hat
   have n0_ := Aside0.mk (blk_grown (kz HP) hg (Kd.R_ne HO.out HP.out (by decide)))
   have n2_ := Aside0.mk hb
   have n3_ := Aside0.mk ho
   clear HP HB ho hb hg hat
   have HP := n0_
   have HB := n2_
   have Hv4 := n3_
   clear n0_ n2_ n3_
   obtain ⟨Co, cc, ec⟩ := Kd.R_slice Hv4.out
   subst ec
   refine hK.out _ _ ⟨cz HP.out 12 rfl, cz HP.out 13 rfl⟩ (fun hHeld => ?_)
   clear hK K
   refine nz 21 ?_
   refine pz 7 2 HT_ ?_
   refine pz 8 3 HT_ ?_
   refine dz HT_ ?_
   (try go_wp2)
   go_ret2
   exact ⟨.slice Co (b ++ l0_13).length cc, by first | rfl | (simp; done), Hv4.out, HB.out⟩
  ·rw [if_neg c2] at h
   cases h
def lychref1_VxlanBytes.f (a0 : Int) (l1 : List Int) : Option (List Int × Int) := if a0 > 16777215 then (some (([] : List Int), 21)) else (if (l1.length : Int) > 1592 then (some (([] : List Int), 23)) else ((lychref1_Put32.f (([8, 0, 0, 0] : List Int)) ((a0 * 256) % 4294967296)).bind fun t345 => (if t345.length + l1.length < 140737488355328 then (some ((t345 ++ l1), 0)) else (none))))
theorem lychref1_VxlanBytes.calls (a0 : Int) (A1 : Option Addr) (c1 : Nat) (l1 : List Int) (r1 : List Int) (r2 : Int) (w : World) (hr1 : Kd.C (Kd.int .u8) w A1 l1.length l1) (hc1 : l1.length ≤ c1) (h : lychref1_VxlanBytes.f a0 l1 = some (r1, r2)) :
  Calls Try.prog 47 #[.int .u32 a0, .slice A1 l1.length c1] w fun e w' => ∃ v0_ : Value, e = .returned (.tuple #[v0_, .int .i64 r2]) ∧ Kd.R (Kd.int .u8) 5 w' w.heap.size (fun _ => True) v0_ r1 ∧ Below w.heap.size w w' := by
 have HR1 := Aside0.mk hr1
 have HC1 := Aside0.mk hc1
 clear hr1 hc1
 have HB := Aside0.mk (Below.refl w.heap.size w)
 have H : (if a0 > 16777215 then (some (([] : List Int), 21)) else (if (l1.length : Int) > 1592 then (some (([] : List Int), 23)) else ((lychref1_Put32.f (([8, 0, 0, 0] : List Int)) ((a0 * 256) % 4294967296)).bind fun t345 => (if t345.length + l1.length < 140737488355328 then (some ((t345 ++ l1), 0)) else (none))))) = some (r1, r2) := h
 clear h
 by_cases c3 : a0 > 16777215
 ·rw [if_pos c3] at H
  have c3b0 : decide (16777215 < a0) = true := decide_eq_true c3
  clear c3
  simp only [Option.some.injEq, Prod.mk.injEq] at H
  obtain ⟨rfl, rfl⟩ := H
  go_enter Try.func47, Try.ntmps47
  go_wp2
  go_ret2
  exact ⟨_, by first | rfl | (simp [errW_none, errW_some] <;> rfl) | (simp [*, errW_none, errW_some] <;> rfl), by first | exact Kd.R_nil _ _ _ _ _ | exact Kd.N_nil _ _ _ _ _ | exact Kd.V_nil _ _ _ _ _ | exact Kd.Q_nil _ _ _ _ _ | exact Kd.S_nil _ _ _ _ _, bz HB⟩
 ·rw [if_neg c3] at H
  have c3b0 : decide (16777215 < a0) = false := decide_eq_false c3
  clear c3
  by_cases c4 : (l1.length : Int) > 1592
  ·rw [if_pos c4] at H
   have c4b0 : decide (1592 < (l1.length : Int)) = true := decide_eq_true c4
   have c4b1 : decide (1592 < l1.length) = true := decide_eq_true (by omega)
   clear c4
   simp only [Option.some.injEq, Prod.mk.injEq] at H
   obtain ⟨rfl, rfl⟩ := H
   go_enter Try.func47, Try.ntmps47
   go_wp2
   go_ret2
   exact ⟨_, by first | rfl | (simp [errW_none, errW_some] <;> rfl) | (simp [*, errW_none, errW_some] <;> rfl), by first | exact Kd.R_nil _ _ _ _ _ | exact Kd.N_nil _ _ _ _ _ | exact Kd.V_nil _ _ _ _ _ | exact Kd.Q_nil _ _ _ _ _ | exact Kd.S_nil _ _ _ _ _, bz HB⟩
  ·rw [if_neg c4] at H
   have c4b0 : decide (1592 < (l1.length : Int)) = false := decide_eq_false c4
   have c4b1 : decide (1592 < l1.length) = false := decide_eq_false (by omega)
   clear c4
   obtain ⟨y342, hy342⟩ : ∃ y_ : List Int, y_ = (([8, 0, 0, 0] : List Int)) := ⟨_, rfl⟩
   replace H : ((lychref1_Put32.f y342 ((a0 * 256) % 4294967296)).bind fun t345 => (if t345.length + l1.length < 140737488355328 then (some ((t345 ++ l1), 0)) else (none))) = some (r1, r2) := by first | (rw [hy342]; with_reducible exact H) | (have H2_ := (Option.bind_some _ _).symm.trans H; rw [hy342]; with_reducible exact H2_) | (have H2_ := (Option.bind_some _ _).symm.trans H; with_reducible exact H2_) | with_reducible exact H | (rw [hy342]; exact H) | exact H
   have Ny342 := Aside0.mk hy342
   clear hy342
   replace H := Option.bind_eq_some_iff.mp H
   obtain ⟨t345, A50, H⟩ := H
   replace H : (if t345.length + l1.length < 140737488355328 then (some ((t345 ++ l1), 0)) else (none)) = some (r1, r2) := H
   have A5 := Aside0.mk A50
   clear A50
   by_cases c6 : t345.length + l1.length < 140737488355328
   ·rw [if_pos c6] at H
    have LMc6 := Aside0.mk c6
    clear c6
    obtain ⟨y348, hy348⟩ : ∃ y_ : List Int, y_ = (t345 ++ l1) := ⟨_, rfl⟩
    replace H : (some (y348, 0)) = some (r1, r2) := by first | (rw [hy348]; with_reducible exact H) | (have H2_ := (Option.bind_some _ _).symm.trans H; rw [hy348]; with_reducible exact H2_) | (have H2_ := (Option.bind_some _ _).symm.trans H; with_reducible exact H2_) | with_reducible exact H | (rw [hy348]; exact H) | exact H
    have Ny348 := Aside0.mk hy348
    clear hy348
    simp only [Option.some.injEq, Prod.mk.injEq] at H
    obtain ⟨rfl, rfl⟩ := H
    go_enter Try.func47, Try.ntmps47
    go_wp2_with (first | ((with_reducible refine gate_dst (N := 11) rfl ?_); refine Kd.R_lit (Kd.int .u8) _ 5 ?hg (N := 11) ?hd (xs := ([8, 0, 0, 0] : List Int)) (inner := [.int .u8 8, .int .u8 0, .int .u8 0, .int .u8 0]) (ok := fun _ => True) (okp := fun _ => True) ?hr ?hp (fun _ hk => hk) trivial (Below.refl _ _) (Nat.le_refl _) (by simp) ?_; (case hd => rfl); (case hg => rfl); (case hr => first | (go_simp; done) | (go_simp; rfl)); (case hp => exact (Reps.one (show Kd.M (Kd.int .u8) _ _ _ 8 [.int .u8 8] from rfl) (Reps.one (show Kd.M (Kd.int .u8) _ _ _ 0 [.int .u8 0] from rfl) (Reps.one (show Kd.M (Kd.int .u8) _ _ _ 0 [.int .u8 0] from rfl) (Reps.one (show Kd.M (Kd.int .u8) _ _ _ 0 [.int .u8 0] from rfl) (Reps.none _ _)))))); intro v343 w7 ho8 hb hg_ hnew_; clear hg_ hnew_; (first | rw [← Ny342.out] at ho8 | (simp only [Int.reduceToNat] at ho8; rw [← Ny342.out] at ho8)); have n0_ := Aside0.mk (Kd.R_lower ho8 (below_size (bz HB))); have n1_ := Aside0.mk (below_step (bz HB) hb); clear HB; have HO344 := n0_; have HB := n1_; clear n0_ n1_; clear hb ho8; obtain ⟨Ao9, co9, eo9⟩ := Kd.R_slice HO344.out; subst eo9) | ((with_reducible refine gate_callee (f := 84) rfl ?_); refine gL 14 Try.func84 #[.slice Ao9 y342.length co9, .int .u32 ((a0 * 256) % 4294967296)] ?_; (with_reducible refine (lychref1_Put32.calls (fun k_ => some k_ = (.slice Ao9 y342.length co9 : Value).ownBlock) (.slice Ao9 y342.length co9) y342 ((a0 * 256) % 4294967296) t345 w _ ?side1 ?side2 A5.out).mono ?_); (case side1 => exact bz HB); (case side2 => exact Kd.R_tight rfl HO344.out); rintro e w10 ⟨v346, rfl, ho0, hb, hkp⟩; refine ⟨_, rfl, ?_⟩; have n0_ := Aside0.mk (Kd.R_mono (ok' := fun k_ => True) ho0 (fun k_ hk_ => trivial)); have n1_ := Aside0.mk (hb); clear HB; clear HO344; have HO347 := n0_; have HB := n1_; clear n0_ n1_; (try clear hb); (try clear hkp); (try clear ho0)) | ((with_reducible refine gate_builtin (b := .append) (xs := #[.tmp 14, .tmp 15]) rfl ?_); at_builtin; refine Kd.R_append_rows (Kd.int .u8) (w0 := w) w.heap.size rfl (.tmp 14) (.tmp 15) 23 5 (.int .u8 0) 1 rfl Try.underlying23 info5 rfl (by decide) (by omega) v346 t345 l1 _ _ _ (fun _ => True) (fun _ => False) rfl rfl ?aO ?aR (fun _ _ h => h) (fun _ h => h.elim) ?aF ?aB ?aS ?aL ?_; (case aR => exact Kd.C_below HR1.out (bz HB)); (case aB => exact bz HB); (case aF => exact (fun _ _ => trivial)); (case aO => exact (Kd.rz HO347)); (case aS => exact (below_size (bz HB))); (case aL => have := LMc6.out; omega); intro v349 w11 ho hb hg hat; rw [← Ny348.out] at ho; have n0_ := Aside0.mk (hb); have n1_ := Aside0.mk (ho); clear HB; clear HO347; have HB := n0_; have HO350 := n1_; clear n0_ n1_; clear ho hb hg hat))
    go_ret2
    exact ⟨_, by first | rfl | (simp [errW_none, errW_some] <;> rfl) | (simp [*, errW_none, errW_some] <;> rfl), by (with_reducible repeat (first | apply Kd.R_alloc | apply Kd.R_drewN | apply Kd.R_drew)); exact HO350.out, bz HB⟩
   ·rw [if_neg c6] at H
    exact absurd H (by simp)
def lychref1_UdpBytes.f (a0_0 : Int) (a0_1 : Int) (a0_2 : Int) (l0_3 : List Int) : Option (List Int × Int) := if (l0_3.length : Int) > 65527 then (some (([] : List Int), 23)) else ((lychref1_Put16.f ([] : List Int) a0_0).bind fun t352 => ((lychref1_Put16.f t352 a0_1).bind fun t355 => ((lychref1_Put16.f t355 (IntKind.u16.wrap (wrap64 (8 + (l0_3.length : Int))))).bind fun t358 => ((lychref1_Put16.f t358 a0_2).bind fun t361 => (if t361.length + l0_3.length < 140737488355328 then (some ((t361 ++ l0_3), 0)) else (none))))))
def lychref1_UdpBytes.T4 : Bool × List (List Nat × List Nat) := (true, [([], []), ([], []), ([1], [1]), ([2], [2]), ([3], [3]), ([4], [4]), ([0, 5], [0, 5]), ([], []), ([7], [7]), ([6, 8, 6], [6, 8]), ([9, 9, 0, 1, 2, 3, 4, 5, 6, 7, 8, 9], [0, 9])])
def lychref1_UdpBytes.B4 : List Nat := [0, 0, 2, 6, 14, 30, 63, 0, 128, 511, 1023]
theorem lychref1_UdpBytes.tab4 : rtab .any (opsOf Try.f48 4) = lychref1_UdpBytes.T4 := by kernel_rfl
theorem lychref1_UdpBytes.bits4 : waitsOk lychref1_UdpBytes.T4.2 lychref1_UdpBytes.B4 = true := by kernel_rfl
theorem lychref1_UdpBytes.calls (a0_0 : Int) (a0_1 : Int) (a0_2 : Int) (A0_3 : Option Addr) (c0_3 : Nat) (l0_3 : List Int) (r1 : List Int) (r2 : Int) (w : World) (hr0_3 : Kd.C (Kd.int .u8) w A0_3 l0_3.length l0_3) (hc0_3 : l0_3.length ≤ c0_3) (h : lychref1_UdpBytes.f a0_0 a0_1 a0_2 l0_3 = some (r1, r2)) :
  Calls Try.prog 48 #[.agg #[.int .u16 a0_0, .int .u16 a0_1, .int .u16 a0_2, .slice A0_3 l0_3.length c0_3]] w fun e w' => ∃ v0_ : Value, e = .returned (.tuple #[v0_, .int .i64 r2]) ∧ Kd.R (Kd.int .u8) 5 w' w.heap.size (fun _ => True) v0_ r1 ∧ Below w.heap.size w w' := by
 have hu83 := Try.underlying83
 have HR0_3 := Aside0.mk hr0_3
 have HC0_3 := Aside0.mk hc0_3
 clear hr0_3 hc0_3
 have HB := Aside0.mk (Below.refl w.heap.size w)
 have H : (if (l0_3.length : Int) > 65527 then (some (([] : List Int), 23)) else ((lychref1_Put16.f ([] : List Int) a0_0).bind fun t352 => ((lychref1_Put16.f t352 a0_1).bind fun t355 => ((lychref1_Put16.f t355 (IntKind.u16.wrap (wrap64 (8 + (l0_3.length : Int))))).bind fun t358 => ((lychref1_Put16.f t358 a0_2).bind fun t361 => (if t361.length + l0_3.length < 140737488355328 then (some ((t361 ++ l0_3), 0)) else (none))))))) = some (r1, r2) := h
 clear h
 by_cases c2 : (l0_3.length : Int) > 65527
 ·rw [if_pos c2] at H
  have c2b0 : decide (65527 < (l0_3.length : Int)) = true := decide_eq_true c2
  have c2b1 : decide (65527 < l0_3.length) = true := decide_eq_true (by omega)
  clear c2
  simp only [Option.some.injEq, Prod.mk.injEq] at H
  obtain ⟨rfl, rfl⟩ := H
  go_enter Try.func48, Try.ntmps48
  go_wp2_with (first | ((with_reducible refine gate_dst (N := 1) rfl ?_); refine box_event ?hg (N := 1) ?hd (cs := #[.int .u16 a0_0, .int .u16 a0_1, .int .u16 a0_2, .slice A0_3 l0_3.length c0_3]) (t := 83) ?hr ?_; (case hd => rfl); (case hg => rfl); (case hr => first | (go_simp; done) | (go_simp; rfl)); intro gb351 hg w3 hbox hb; have n0_ := Aside0.mk (below_step (bz HB) hb); have n1_ := Aside0.mk (hbox); have n2_ := Aside0.mk ((by rw [hg]; exact (below_size (bz HB)) : w.heap.size ≤ gb351)); have n3_ := Aside0.mk ((by rw [hg]; exact (below_size (bz HB)) : w.heap.size ≤ gb351)); clear HB; have HB := n0_; have BK351 := n1_; have GW351 := n2_; have GE351 := n3_; clear n0_ n1_ n2_ n3_; clear hb hbox hg; have hcz4_0 : w3.cell? ⟨gb351, 0, none⟩ = some (.int .u16 a0_0) := cz BK351.out 0 rfl; have hcz4_1 : w3.cell? ⟨gb351, 1, none⟩ = some (.int .u16 a0_1) := cz BK351.out 1 rfl; have hcz4_2 : w3.cell? ⟨gb351, 2, none⟩ = some (.int .u16 a0_2) := cz BK351.out 2 rfl; have hcz4_3 : w3.cell? ⟨gb351, 3, none⟩ = some (.slice A0_3 l0_3.length c0_3) := cz BK351.out 3 rfl; have hfz4_0 := blk_frozen BK351.out 0; have hfz4_1 := blk_frozen BK351.out 1; have hfz4_2 := blk_frozen BK351.out 2; have hfz4_3 := blk_frozen BK351.out 3))
  go_ret2
  exact ⟨_, by first | rfl | (simp [errW_none, errW_some] <;> rfl) | (simp [*, errW_none, errW_some] <;> rfl), by first | exact Kd.R_nil _ _ _ _ _ | exact Kd.N_nil _ _ _ _ _ | exact Kd.V_nil _ _ _ _ _ | exact Kd.Q_nil _ _ _ _ _ | exact Kd.S_nil _ _ _ _ _, bz HB⟩
 ·rw [if_neg c2] at H
  have c2b0 : decide (65527 < (l0_3.length : Int)) = false := decide_eq_false c2
  have c2b1 : decide (65527 < l0_3.length) = false := decide_eq_false (by omega)
  clear c2
  replace H := Option.bind_eq_some_iff.mp H
  obtain ⟨t352, A50, H⟩ := H
  replace H : ((lychref1_Put16.f t352 a0_1).bind fun t355 => ((lychref1_Put16.f t355 (IntKind.u16.wrap (wrap64 (8 + (l0_3.length : Int))))).bind fun t358 => ((lychref1_Put16.f t358 a0_2).bind fun t361 => (if t361.length + l0_3.length < 140737488355328 then (some ((t361 ++ l0_3), 0)) else (none))))) = some (r1, r2) := H
  have A5 := Aside0.mk A50
  clear A50
  replace H := Option.bind_eq_some_iff.mp H
  obtain ⟨t355, A60, H⟩ := H
  replace H : ((lychref1_Put16.f t355 (IntKind.u16.wrap (wrap64 (8 + (l0_3.length : Int))))).bind fun t358 => ((lychref1_Put16.f t358 a0_2).bind fun t361 => (if t361.length + l0_3.length < 140737488355328 then (some ((t361 ++ l0_3), 0)) else (none)))) = some (r1, r2) := H
  have A6 := Aside0.mk A60
  clear A60
  replace H := Option.bind_eq_some_iff.mp H
  obtain ⟨t358, A70, H⟩ := H
  replace H : ((lychref1_Put16.f t358 a0_2).bind fun t361 => (if t361.length + l0_3.length < 140737488355328 then (some ((t361 ++ l0_3), 0)) else (none))) = some (r1, r2) := H
  have A7 := Aside0.mk A70
  clear A70
  replace H := Option.bind_eq_some_iff.mp H
  obtain ⟨t361, A80, H⟩ := H
  replace H : (if t361.length + l0_3.length < 140737488355328 then (some ((t361 ++ l0_3), 0)) else (none)) = some (r1, r2) := H
  have A8 := Aside0.mk A80
  clear A80
  by_cases c9 : t361.length + l0_3.length < 140737488355328
  ·rw [if_pos c9] at H
   have LMc9 := Aside0.mk c9
   clear c9
   obtain ⟨y364, hy364⟩ : ∃ y_ : List Int, y_ = (t361 ++ l0_3) := ⟨_, rfl⟩
   replace H : (some (y364, 0)) = some (r1, r2) := by first | (rw [hy364]; with_reducible exact H) | (have H2_ := (Option.bind_some _ _).symm.trans H; rw [hy364]; with_reducible exact H2_) | (have H2_ := (Option.bind_some _ _).symm.trans H; with_reducible exact H2_) | with_reducible exact H | (rw [hy364]; exact H) | exact H
   have Ny364 := Aside0.mk hy364
   clear hy364
   simp only [Option.some.injEq, Prod.mk.injEq] at H
   obtain ⟨rfl, rfl⟩ := H
   go_enter Try.func48, Try.ntmps48
   try go_wp2_with (first | ((with_reducible refine gate_dst (N := 1) rfl ?_); refine box_event ?hg (N := 1) ?hd (cs := #[.int .u16 a0_0, .int .u16 a0_1, .int .u16 a0_2, .slice A0_3 l0_3.length c0_3]) (t := 83) ?hr ?_; (case hd => rfl); (case hg => rfl); (case hr => first | (go_simp; done) | (go_simp; rfl)); intro gb351 hg w10 hbox hb; have n0_ := Aside0.mk (below_step (bz HB) hb); have n1_ := Aside0.mk (hbox); have n2_ := Aside0.mk ((by rw [hg]; exact (below_size (bz HB)) : w.heap.size ≤ gb351)); have n3_ := Aside0.mk ((by rw [hg]; exact (below_size (bz HB)) : w.heap.size ≤ gb351)); clear HB; have HB := n0_; have BK351 := n1_; have GW351 := n2_; have GE351 := n3_; clear n0_ n1_ n2_ n3_; clear hb hbox hg; have hcz11_0 : w10.cell? ⟨gb351, 0, none⟩ = some (.int .u16 a0_0) := cz BK351.out 0 rfl; have hcz11_1 : w10.cell? ⟨gb351, 1, none⟩ = some (.int .u16 a0_1) := cz BK351.out 1 rfl; have hcz11_2 : w10.cell? ⟨gb351, 2, none⟩ = some (.int .u16 a0_2) := cz BK351.out 2 rfl; have hcz11_3 : w10.cell? ⟨gb351, 3, none⟩ = some (.slice A0_3 l0_3.length c0_3) := cz BK351.out 3 rfl; have hfz11_0 := blk_frozen BK351.out 0; have hfz11_1 := blk_frozen BK351.out 1; have hfz11_2 := blk_frozen BK351.out 2; have hfz11_3 := blk_frozen BK351.out 3))
   have n0_ := Aside0.mk (blk_drew BK351.out)
   have n1_ := Aside0.mk (below_drew1 HB.out)
   clear BK351
   clear HB
   have BK351 := n0_
   have HB := n1_
   clear n0_ n1_
   refine start_ (n := 7) (S := fun w' => w'.cell? ⟨gb351, 0, none⟩ = some (.int .u16 a0_0) ∧ w'.cell? ⟨gb351, 1, none⟩ = some (.int .u16 a0_1) ∧ w'.cell? ⟨gb351, 2, none⟩ = some (.int .u16 a0_2) ∧ w'.cell? ⟨gb351, 3, none⟩ = some (.slice A0_3 l0_3.length c0_3)) (ds := []) #[false, false, false, false, false, false, false] (by kernel_rfl) rfl rfl ⟨cz BK351.out 0 rfl, cz BK351.out 1 rfl, cz BK351.out 2 rfl, cz BK351.out 3 rfl⟩ (fun hHeld => ?_)
   generalize w10.drew = w12 at BK351 HB hHeld ⊢
   refine pure_ (i := 0) (N := some 9) (v := ?_) (a' := ?_) #[true, false, false, false, false, false, false] rfl rfl (by kernel_rfl) (fun _ _ _ h => h) (Or.inl ⟨by rfl, ?_⟩) ?_ ?_
   rotate_left
   ·intro w'
    go_simp
    with_reducible rfl
   rotate_left
   ·simp only [ps_]
    rfl
   refine pure_ (i := 3) (N := some 12) (v := ?_) (a' := ?_) #[true, false, false, true, false, false, false] rfl rfl (by kernel_rfl) (fun _ _ _ h => h) (Or.inl ⟨by rfl, ?_⟩) ?_ ?_
   rotate_left
   ·intro w'
    go_simp
    with_reducible rfl
   rotate_left
   ·simp only [ps_]
    rfl
   refine take_ (i := 1) (N := some 10) (v := ?_) (a' := ?_) #[true, true, false, true, false, false, false] rfl rfl (by kernel_rfl) (fun _ _ _ h => h) (Or.inl ⟨by rfl, ?_⟩) hHeld ?_ ?_
   rotate_left
   ·rintro w' ⟨s0, s1, s2, s3⟩
    go_simp
    with_reducible rfl
   rotate_left
   ·simp only [ps_]
    rfl
   refine take_ (i := 4) (N := some 13) (v := ?_) (a' := ?_) #[true, true, false, true, true, false, false] rfl rfl (by kernel_rfl) (fun _ _ _ h => h) (Or.inl ⟨by rfl, ?_⟩) hHeld ?_ ?_
   rotate_left
   ·rintro w' ⟨s0, s1, s2, s3⟩
    go_simp
    with_reducible rfl
   rotate_left
   ·simp only [ps_]
    rfl
   refine one_ (i := 2) (N := some 11) #[true, true, true, true, true, false, false] rfl rfl (by kernel_rfl) (by decide) (fun K hK => ?_)
   refine gG Try.func83 #[.slice none 0 0, .int .u16 a0_0] ?_
   refine (lychref1_Put16.calls (fun k_ => some k_ = (.slice none 0 0 : Value).ownBlock) (.slice none 0 0) ([] : List Int) a0_0 t352 w _ ?side1 ?side2 A5.out).mono ?_
   (case side1 => exact bz HB)
   (case side2 => exact Kd.R_nil _ _ _ _ _)
   rintro e w13 ⟨v353, rfl, ho0, hb, hkp⟩
   refine ⟨_, rfl, ?_⟩
   have n0_ := Aside0.mk (blk_kept (kz BK351) hkp (fun hs_ => (fun e_ => by simp [Value.ownBlock] at e_) hs_))
   have n1_ := Aside0.mk (Kd.R_mono (ok' := fun k_ => True) ho0 (fun k_ hk_ => trivial))
   have n2_ := Aside0.mk (hb)
   clear BK351
   clear HB
   have BK351 := n0_
   have HO354 := n1_
   have HB := n2_
   clear n0_ n1_ n2_
   (try clear hb)
   (try clear hkp)
   (try clear ho0)
   obtain ⟨Ao14, co14, eo14⟩ := Kd.R_slice HO354.out
   (first | subst eo14 | (injection eo14 with f1_ f2_ f3_; have f4_ := f1_.symm; have f5_ := f3_.symm; clear f1_ f2_ f3_; subst f4_; subst f5_))
   refine hK.out _ _ ⟨cz BK351.out 0 rfl, cz BK351.out 1 rfl, cz BK351.out 2 rfl, cz BK351.out 3 rfl⟩ (fun hHeld => ?_)
   clear hK K
   refine nz 11 ?_
   refine one_ (i := 5) (N := some 14) #[true, true, true, true, true, true, false] rfl rfl (by kernel_rfl) (by decide) (fun K hK => ?_)
   refine gG Try.func83 #[.slice Ao14 t352.length co14, .int .u16 a0_1] ?_
   with_reducible refine (lychref1_Put16.calls (fun k_ => some k_ = (.slice Ao14 t352.length co14 : Value).ownBlock) (.slice Ao14 t352.length co14) t352 a0_1 t355 w _ ?side1 ?side2 A6.out).mono ?_
   (case side1 => exact bz HB)
   (case side2 => exact Kd.R_tight rfl HO354.out)
   rintro e w15 ⟨v356, rfl, ho0, hb, hkp⟩
   refine ⟨_, rfl, ?_⟩
   have n0_ := Aside0.mk (blk_kept (kz BK351) hkp (fun hs_ => (fun e_ => (Kd.R_ne HO354.out BK351.out (by decide)) e_) hs_))
   have n1_ := Aside0.mk (Kd.R_mono (ok' := fun k_ => True) ho0 (fun k_ hk_ => trivial))
   have n2_ := Aside0.mk (hb)
   clear BK351
   clear HB
   clear HO354
   have BK351 := n0_
   have HO357 := n1_
   have HB := n2_
   clear n0_ n1_ n2_
   (try clear hb)
   (try clear hkp)
   (try clear ho0)
   refine hK.out _ _ ⟨cz BK351.out 0 rfl, cz BK351.out 1 rfl, cz BK351.out 2 rfl, cz BK351.out 3 rfl⟩ (fun hHeld => ?_)
   clear hK K
   refine nz 14 ?_
   refine pure_ (i := 6) (N := some 4) (v := ?_) (a' := ?_) #[true, true, true, true, true, true, true] rfl rfl (by kernel_rfl) (fun _ _ _ h => h) (Or.inl ⟨by rfl, ?_⟩) ?_ ?_
   rotate_left
   ·intro w'
    go_simp
    with_reducible rfl
   rotate_left
   ·simp only [ps_]
    rfl
   refine done_ (by kernel_rfl) ?_
   try go_wp2
   have n0_ := Aside0.mk (Kd.R_drew HO357.out)
   have n1_ := Aside0.mk (blk_drew BK351.out)
   have n2_ := Aside0.mk (below_drew1 HB.out)
   clear HO357
   clear BK351
   clear HB
   have HO357 := n0_
   have BK351 := n1_
   have HB := n2_
   clear n0_ n1_ n2_
   obtain ⟨Ao17, co17, eo17⟩ := Kd.R_slice HO357.out
   (first | subst eo17 | (injection eo17 with f1_ f2_ f3_; have f4_ := f1_.symm; have f5_ := f3_.symm; clear f1_ f2_ f3_; subst f4_; subst f5_))
   refine start_ (n := 11) (S := fun w' => w'.cell? ⟨gb351, 0, none⟩ = some (.int .u16 a0_0) ∧ w'.cell? ⟨gb351, 1, none⟩ = some (.int .u16 a0_1) ∧ w'.cell? ⟨gb351, 2, none⟩ = some (.int .u16 a0_2) ∧ w'.cell? ⟨gb351, 3, none⟩ = some (.slice A0_3 l0_3.length c0_3)) (ds := []) #[false, false, false, false, false, false, false, false, false, false, false] (by kernel_rfl) rfl rfl ⟨cz BK351.out 0 rfl, cz BK351.out 1 rfl, cz BK351.out 2 rfl, cz BK351.out 3 rfl⟩ (fun hHeld => ?_); refine with_tabW lychref1_UdpBytes.tab4 lychref1_UdpBytes.bits4 (fun HT_ HW_ => ?_)
   generalize w15.drew = w16 at HO357 BK351 HB hHeld ⊢
   refine pz 0 15 HT_ ?_
   refine pz 1 16 HT_ ?_
   refine pz 7 22 HT_ ?_
   refine take_ (i := 2) (N := some 17) (v := ?_) (a' := ?_) #[true, true, true, false, false, false, false, true, false, false, false] rfl rfl (take_ofW HT_.out HW_.out (by kernel_rfl)) (fun _ _ _ h => h) (Or.inl ⟨by rfl, ?_⟩) hHeld ?_ ?_
   rotate_left
   ·rintro w' ⟨s0, s1, s2, s3⟩
    go_simp
    with_reducible rfl
   rotate_left
   ·simp only [ps_]
    rfl
   refine pz 3 18 HT_ ?_
   refine pz 4 19 HT_ ?_
   refine pz 5 20 HT_ ?_
   refine take_ (i := 8) (N := some 23) (v := ?_) (a' := ?_) #[true, true, true, true, true, true, false, true, true, false, false] rfl rfl (take_ofW HT_.out HW_.out (by kernel_rfl)) (fun _ _ _ h => h) (Or.inl ⟨by rfl, ?_⟩) hHeld ?_ ?_
   rotate_left
   ·rintro w' ⟨s0, s1, s2, s3⟩
    go_simp
    with_reducible rfl
   rotate_left
   ·simp only [ps_]
    rfl
   refine oz 6 (some 21) HT_ (fun K hK => ?_)
   refine gG Try.func83 #[.slice Ao17 t355.length co17, .int .u16 (IntKind.u16.wrap (wrap64 (8 + (l0_3.length : Int))))] ?_
   with_reducible refine (lychref1_Put16.calls (fun k_ => some k_ = (.slice Ao17 t355.length co17 : Value).ownBlock) (.slice Ao17 t355.length co17) t355 (IntKind.u16.wrap (wrap64 (8 + (l0_3.length : Int)))) t358 w _ ?side1 ?side2 A7.out).mono ?_
   (case side1 => exact bz HB)
   (case side2 => exact Kd.R_tight rfl HO357.out)
   rintro e w18 ⟨v359, rfl, ho0, hb, hkp⟩
   refine ⟨_, rfl, ?_⟩
   have n0_ := Aside0.mk (blk_kept (kz BK351) hkp (fun hs_ => (fun e_ => (Kd.R_ne HO357.out BK351.out (by decide)) e_) hs_))
   have n1_ := Aside0.mk (Kd.R_mono (ok' := fun k_ => True) ho0 (fun k_ hk_ => trivial))
   have n2_ := Aside0.mk (hb)
   clear BK351
   clear HB
   clear HO357
   have BK351 := n0_
   have HO360 := n1_
   have HB := n2_
   clear n0_ n1_ n2_
   (try clear hb)
   (try clear hkp)
   (try clear ho0)
   obtain ⟨Ao19, co19, eo19⟩ := Kd.R_slice HO360.out
   (first | subst eo19 | (injection eo19 with f1_ f2_ f3_; have f4_ := f1_.symm; have f5_ := f3_.symm; clear f1_ f2_ f3_; subst f4_; subst f5_))
   refine hK.out _ _ ⟨cz BK351.out 0 rfl, cz BK351.out 1 rfl, cz BK351.out 2 rfl, cz BK351.out 3 rfl⟩ (fun hHeld => ?_)
   clear hK K
   refine nz 21 ?_
   refine oz 9 (some 24) HT_ (fun K hK => ?_)
   refine gG Try.func83 #[.slice Ao19 t358.length co19, .int .u16 a0_2] ?_
   with_reducible refine (lychref1_Put16.calls (fun k_ => some k_ = (.slice Ao19 t358.length co19 : Value).ownBlock) (.slice Ao19 t358.length co19) t358 a0_2 t361 w _ ?side1 ?side2 A8.out).mono ?_
   (case side1 => exact bz HB)
   (case side2 => exact Kd.R_tight rfl HO360.out)
   rintro e w20 ⟨v362, rfl, ho0, hb, hkp⟩
   refine ⟨_, rfl, ?_⟩
   have n0_ := Aside0.mk (blk_kept (kz BK351) hkp (fun hs_ => (fun e_ => (Kd.R_ne HO360.out BK351.out (by decide)) e_) hs_))
   have n1_ := Aside0.mk (Kd.R_mono (ok' := fun k_ => True) ho0 (fun k_ hk_ => trivial))
   have n2_ := Aside0.mk (hb)
   clear BK351
   clear HB
   clear HO360
   have BK351 := n0_
   have HO363 := n1_
   have HB := n2_
   clear n0_ n1_ n2_
   (try clear hb)
   (try clear hkp)
   (try clear ho0)
   refine hK.out _ _ ⟨cz BK351.out 0 rfl, cz BK351.out 1 rfl, cz BK351.out 2 rfl, cz BK351.out 3 rfl⟩ (fun hHeld => ?_)
   clear hK K
   refine nz 24 ?_
   refine pz 10 4 HT_ ?_
   refine dz HT_ ?_
   have hcz21_0_ := cs4 BK351.out
   have hfz21_0_ := blk_frozen BK351.out
   try go_wp2_with (first | ((with_reducible refine gate_builtin (b := .append) (xs := #[.tmp 25, .tmp 27]) rfl ?_); at_builtin; refine Kd.R_append_rows (Kd.int .u8) (w0 := w) w.heap.size rfl (.tmp 25) (.tmp 27) 23 5 (.int .u8 0) 1 rfl Try.underlying23 info5 rfl (by decide) (by omega) v362 t361 l0_3 _ _ _ (fun _ => True) (fun _ => False) rfl rfl ?aO ?aR (fun _ _ h => h) (fun _ h => h.elim) ?aF ?aB ?aS ?aL ?_; (case aR => exact Kd.C_below HR0_3.out (bz HB)); (case aB => exact bz HB); (case aF => exact (fun _ _ => trivial)); (case aO => exact (Kd.rz HO363)); (case aS => exact (below_size (bz HB))); (case aL => have := LMc9.out; omega); intro v365 w22 ho hb hg hat; rw [← Ny364.out] at ho; have n0_ := Aside0.mk (blk_grown (kz BK351) hg (Kd.R_ne HO363.out BK351.out (by decide))); have n1_ := Aside0.mk (hb); have n2_ := Aside0.mk (ho); clear BK351; clear HB; clear HO363; have BK351 := n0_; have HB := n1_; have HO366 := n2_; clear n0_ n1_ n2_; clear ho hb hg hat))
   go_ret2
   exact ⟨_, by first | rfl | (simp [errW_none, errW_some] <;> rfl) | (simp [*, errW_none, errW_some] <;> rfl), by (with_reducible repeat (first | apply Kd.R_alloc | apply Kd.R_drewN | apply Kd.R_drew)); exact HO366.out, bz HB⟩
  ·rw [if_neg c9] at H
   exact absurd H (by simp)
end Go.Proofs.Ytkmimamminddiaa.PB
namespace Go.Proofs.Ytkmimamminddiaa.PB
open Go.RowKit Go.Proofs.YtkmimamminddiaaW.PrintWords Go.Proofs.YtkmimamminddiaaW.PrintLast Go.Proofs.YtkmimamminddiaaW.PrintMore
set_option linter.unusedVariables false
set_option linter.unusedSimpArgs false
def seatInF (k : Nat) (vni ad : Int) (ip m1 m2 m3 m4 m5 m6 : Int) (p : List Int) : Option (List Int) :=
 (lychseat_Addr.f 10 9 0 ad).bind fun a => (lychref1_EthBytes.f m1 m2 m3 m4 m5 m6 2 7 0 0 0 0 2048 p).bind fun x => (lychref1_VxlanBytes.f vni x.1).bind fun v => (lychref1_UdpBytes.f 7777 4789 0 v.1).bind fun u => (lychref1_IpBytes.f k 0 9 17 0 0 0 a ip [] u.1).bind fun q => (lychref1_EthBytes.f m1 m2 m3 m4 m5 m6 2 9 0 0 0 0 2048 q.1).bind fun o => some o.1
def seat_Inside0.R5.T : Bool × List (List Nat × List Nat) := (true, [([], []), ([0], [0]), ([1], [1]), ([2], [2]), ([], []), ([4], [4]), ([], []), ([3, 5, 6], [3, 5, 6]), ([7, 3], [7]), ([8], [8]), ([9], [9]), ([9], [9]), ([10, 8, 0, 1, 2, 3, 4, 5, 6, 7, 8, 9, 10], [10]), ([11, 12, 0, 1, 2, 3, 4, 5, 6, 7, 8, 9, 10, 11, 12], [11])])
theorem seat_Inside0.R5.tab : rtab .any (opsOf Try.f16 5) = seat_Inside0.R5.T := by kernel_rfl
theorem seat_Inside0.R5.bits : waitsOk seat_Inside0.R5.T.2 [0, 1, 3, 7, 0, 16, 0, 127, 255, 511, 1023, 1023, 2047, 8191] = true := by kernel_rfl
theorem seat_Inside0.calls (k : Nat) (a0_0 a0_1 a0_2 a0_3 a0_4 a0_5 a0_6 a0_7 a0_8 a0_9 a0_10 a0_11 a0_12 a0_13 a0_14 a0_15 a0_16 a0_17 a0_18 a0_19 a0_20 a0_21 a0_22 a0_23 a0_24 a0_25 a0_26 a0_27 : Int) (A0_28 : Option Addr) (n0_28 c0_28 : Nat) (A2 : Option Addr) (c2 : Nat) (l2 : List Int) (r : List Int) (w : World) (hr2 : Kd.C (Kd.int .u8) w A2 l2.length l2) (hc2 : l2.length ≤ c2) (h : seatInF k 100 1 a0_0 a0_1 a0_2 a0_3 a0_4 a0_5 a0_6 l2 = some r) :
  Calls Try.prog 16 #[.agg #[.int .u32 a0_0, .int .u8 a0_1, .int .u8 a0_2, .int .u8 a0_3, .int .u8 a0_4, .int .u8 a0_5, .int .u8 a0_6, .int .u8 a0_7, .int .u8 a0_8, .int .u8 a0_9, .int .u8 a0_10, .int .u8 a0_11, .int .u8 a0_12, .int .u8 a0_13, .int .u8 a0_14, .int .u8 a0_15, .int .u8 a0_16, .int .u8 a0_17, .int .u8 a0_18, .int .u8 a0_19, .int .u8 a0_20, .int .u8 a0_21, .int .u8 a0_22, .int .u8 a0_23, .int .u8 a0_24, .int .u8 a0_25, .int .u8 a0_26, .int .u32 a0_27, .slice A0_28 n0_28 c0_28], .int .i64 0, .slice A2 l2.length c2] w fun e w' => ∃ v0_ : Value, e = .returned v0_ ∧ Kd.R (Kd.int .u8) 5 w' w.heap.size (fun _ => True) v0_ r ∧ Below w.heap.size w w' := by
 have hu33 := Try.underlying33
 have hu29 := Try.underlying29
 have hu73 := Try.underlying73
 have hu83 := Try.underlying83
 have hu58 := Try.underlying58
 have HK2 := Aside0.mk hr2
 have HC2 := Aside0.mk hc2
 have HB := Aside0.mk (Below.refl w.heap.size w)
 clear hr2 hc2
 have H : seatInF k 100 1 a0_0 a0_1 a0_2 a0_3 a0_4 a0_5 a0_6 l2 = some r := h
 clear h
 unfold seatInF at H
 obtain ⟨ad_, had, H⟩ := bind_some_ H
 obtain ⟨⟨x, xe⟩, hx, H⟩ := bind_some_ H
 obtain ⟨⟨v, ve⟩, hv, H⟩ := bind_some_ H
 obtain ⟨⟨u, ue⟩, hu, H⟩ := bind_some_ H
 obtain ⟨⟨q, qe⟩, hq, H⟩ := bind_some_ H
 obtain ⟨⟨o, oe⟩, hz, H⟩ := bind_some_ H
 obtain rfl := Option.some.inj H
 have HA := Aside0.mk had
 have HIP := Aside0.mk hq
 go_enter Try.func16, Try.ntmps16
 go_upto_region 1 with (((with_reducible refine gate_dst (N := 3) rfl ?_); refine box_event ?hg (N := 3) ?hd (cs := #[.int .u32 a0_0, .int .u8 a0_1, .int .u8 a0_2, .int .u8 a0_3, .int .u8 a0_4, .int .u8 a0_5, .int .u8 a0_6, .int .u8 a0_7, .int .u8 a0_8, .int .u8 a0_9, .int .u8 a0_10, .int .u8 a0_11, .int .u8 a0_12, .int .u8 a0_13, .int .u8 a0_14, .int .u8 a0_15, .int .u8 a0_16, .int .u8 a0_17, .int .u8 a0_18, .int .u8 a0_19, .int .u8 a0_20, .int .u8 a0_21, .int .u8 a0_22, .int .u8 a0_23, .int .u8 a0_24, .int .u8 a0_25, .int .u8 a0_26, .int .u32 a0_27, .slice A0_28 n0_28 c0_28]) (t := 33) ?hr ?_; (case hd => rfl); (case hg => rfl); (case hr => first | (go_simp; done) | (go_simp; rfl)); intro gp hg w1 hbox hb; have n0_ := Aside0.mk (below_step (by repeat (first | exact HB.out | apply below_alloc | apply pw_below_drewN | apply below_drew1)) hb); have HQ := Aside0.mk hbox; clear HB ; have HB := n0_; clear n0_  hb hbox hg))
 have gp1 := cz HQ.out 1 rfl
 have gp2 := cz HQ.out 2 rfl
 have gp3 := cz HQ.out 3 rfl
 have gp4 := cz HQ.out 4 rfl
 have gp5 := cz HQ.out 5 rfl
 have gp6 := cz HQ.out 6 rfl
 have n_K := Aside0.mk (Kd.C_below HK2.out HB.out)
 clear HK2
 go_wp2_with fail
 clear gp1 gp2 gp3 gp4 gp5 gp6
 refine (lychref1_EthBytes.calls a0_1 a0_2 a0_3 a0_4 a0_5 a0_6 2 7 0 0 0 0 2048 A2 c2 l2 x xe _ n_K.out HC2.out hx).mono ?_
 rintro e w2 ⟨v_, rfl, ho, hb⟩
 obtain ⟨Ax, cx, rfl, hcx, hkx⟩ := Kd.R_reads ho
 have HKx := Aside0.mk hkx
 have HCx := Aside0.mk hcx
 clear ho hkx hcx n_K hx
 have hb_ := hb
 have n_HB := Aside0.mk (below_step HB.out hb_)
 have n_HQ := Aside0.mk (blk_below HQ.out hb_)
 clear HB HQ hb_
 have HB := n_HB
 have HQ := n_HQ
 clear n_HB n_HQ
 clear hb
 (try dsimp only)
 go_wp2_with fail
 refine (lychref1_VxlanBytes.calls 100 Ax cx x v ve _ HKx.out HCx.out hv).mono ?_
 rintro e w3 ⟨v_, rfl, ho, hb⟩
 obtain ⟨Av, cv, rfl, hcv, hkv⟩ := Kd.R_reads ho
 have HKv := Aside0.mk hkv
 have HCv := Aside0.mk hcv
 clear ho hkv hcv HKx hv
 have hb_ := hb
 have n_HB := Aside0.mk (below_step HB.out hb_)
 have n_HQ := Aside0.mk (blk_below HQ.out hb_)
 clear HB HQ hb_
 have HB := n_HB
 have HQ := n_HQ
 clear n_HB n_HQ
 clear hb
 (try dsimp only)
 go_upto_region 4 with (((refine ev_skip_ rfl rfl (st_new_ rfl rfl rfl (by kernel_rfl) rfl (by simp [Value.oneCell'])) ?_)))
 obtain ⟨gu, hgu⟩ : ∃ x_, x_ = w3.heap.size := ⟨_, rfl⟩
 have HXu : Aside0 ((w3.alloc (.cells #[.int .u16 7777, .int .u16 4789, .int .u16 0, .slice Av v.length cv] 83)).heap[gu]? = some (.cells #[.int .u16 7777, .int .u16 4789, .int .u16 0, .slice Av v.length cv] 83 (0, 0))) := ⟨by rw [hgu]; exact blk_new' _ _⟩
 rw [← hgu]
 clear hgu
 have hb_ := below_alloc (Below.refl w3.heap.size w3) (.cells #[.int .u16 7777, .int .u16 4789, .int .u16 0, .slice Av v.length cv] 83)
 have n_HB := Aside0.mk (below_step HB.out hb_)
 have n_HQ := Aside0.mk (blk_below HQ.out hb_)
 have n_HKv := Aside0.mk (Kd.C_below HKv.out hb_)
 clear HB HQ HKv hb_
 have HB := n_HB
 have HQ := n_HQ
 have HKv := n_HKv
 clear n_HB n_HQ n_HKv
 generalize (w3.alloc (.cells #[.int .u16 7777, .int .u16 4789, .int .u16 0, .slice Av v.length cv] 83)) = w4 at HXu HB HQ HKv ⊢
 have gu0 := cz HXu.out 0 rfl
 have gu1 := cz HXu.out 1 rfl
 have gu2 := cz HXu.out 2 rfl
 have gu3 := cz HXu.out 3 rfl
 (try dsimp only)
 go_wp2_with fail
 clear gu0 gu1 gu2 gu3 HXu
 refine (lychref1_UdpBytes.calls 7777 4789 0 Av cv v u ue _ HKv.out HCv.out hu).mono ?_
 rintro e w6 ⟨v_, rfl, ho, hb⟩
 obtain ⟨Au, cu, rfl, hcu, hku⟩ := Kd.R_reads ho
 have HKu := Aside0.mk hku
 have HCu := Aside0.mk hcu
 clear ho hku hcu HKv hu
 have hb_ := hb
 have n_HB := Aside0.mk (below_step HB.out hb_)
 have n_HQ := Aside0.mk (blk_below HQ.out hb_)
 clear HB HQ hb_
 have HB := n_HB
 have HQ := n_HQ
 clear n_HB n_HQ
 clear hb
 (try dsimp only)
 go_upto_region 5 with (fail)
 refine start_ (n := 14) (S := fun w' => w'.cell? ⟨gp, 0, none⟩ = some (.int .u32 a0_0)) (ds := []) #[false, false, false, false, false, false, false, false, false, false, false, false, false, false] (by kernel_rfl) rfl rfl ((blk_cell HQ.out 0).trans rfl) (fun hHeld => ?_)
 refine with_tabW seat_Inside0.R5.tab seat_Inside0.R5.bits (fun HT_ HW_ => ?_)
 have hb_ := below_drew1 (Below.refl w6.heap.size w6)
 have n_HB := Aside0.mk (below_step HB.out hb_)
 have n_HQ := Aside0.mk (blk_below HQ.out hb_)
 have n_HKu := Aside0.mk (Kd.C_below HKu.out hb_)
 clear HB HQ HKu hb_
 have HB := n_HB
 have HQ := n_HQ
 have HKu := n_HKu
 clear n_HB n_HQ n_HKu
 generalize w6.drew = w6 at HB HQ HKu hHeld ⊢
 refine pz 0 43 HT_ ?_
 refine pure_ (i := 1) (N := some 44) (v := ?_) (a' := ?_) #[true, true, false, false, false, false, false, false, false, false, false, false, false, false] rfl rfl (any_of HT_.out (by kernel_rfl)) (fun _ _ _ h => h) (Or.inl ⟨by rfl, ?_⟩) ?_ ?_
 rotate_left
 ·intro w'
  go_simp
  first | exact (show Value.int .u8 (IntKind.u8.wrap 0) = Value.int .u8 0 from rfl) | with_reducible rfl
 rotate_left
 ·simp only [ps_]
  rfl
 refine pure_ (i := 2) (N := some 45) (v := ?_) (a' := ?_) #[true, true, true, false, false, false, false, false, false, false, false, false, false, false] rfl rfl (any_of HT_.out (by kernel_rfl)) (fun _ _ _ h => h) (Or.inl ⟨by rfl, ?_⟩) ?_ ?_
 rotate_left
 ·intro w'
  go_simp
  first | exact (show Value.int .u8 (IntKind.u8.wrap (0 + 1)) = Value.int .u8 1 from rfl) | with_reducible rfl
 rotate_left
 ·simp only [ps_]
  rfl
 refine pz 4 47 HT_ ?_
 refine pz 6 49 HT_ ?_
 refine tz 5 48 HT_ HW_ hHeld ?_
 refine oz 3 (some 46) HT_ (fun K hK => ?_)
 refine goes_ Try.func44 (by kernel_rfl) rfl #[.int .u8 10, .int .u8 9, .int .u8 0, .int .u8 1] (by rfl) rfl rfl (by first | rfl | (go_simp; done) | (go_simp; rfl) | (go_simp; decide)) ?_
 refine (lychseat_Addr.calls 10 9 0 1 ad_ _ HA.out).mono ?_
 rintro e w_ ⟨rfl, ⟨nd, rfl⟩⟩
 refine ⟨_, rfl, ?_⟩
 have hb_ := pw_below_drewN (Below.refl w6.heap.size w6) nd
 have n_HB := Aside0.mk (below_step HB.out hb_)
 have n_HQ := Aside0.mk (blk_below HQ.out hb_)
 have n_HKu := Aside0.mk (Kd.C_below HKu.out hb_)
 clear HB HQ HKu hb_
 have HB := n_HB
 have HQ := n_HQ
 have HKu := n_HKu
 clear n_HB n_HQ n_HKu
 refine hK.out _ _ ((blk_cell HQ.out 0).trans rfl) (fun hHeld => ?_)
 clear hK K
 refine nz 46 ?_
 refine pz 7 50 HT_ ?_
 refine oz 8 (some 51) HT_ (fun K hK => ?_)
 refine goes_ Try.func41 (by kernel_rfl) rfl #[.agg #[.int .u8 0, .int .u8 9, .int .u8 17, .int .u16 0, .int .u8 0, .int .u16 0, .int .u32 ad_, .int .u32 a0_0, .slice none 0 0, .slice Au u.length cu]] (by rfl) rfl rfl (by first | rfl | (go_simp; done) | (go_simp; rfl) | (go_simp; decide)) ?_
 refine (lychref1_IpBytes.calls k 0 9 17 0 0 0 ad_ a0_0 none 0 [] Au cu u q qe _ (Kd.C_nil _ _) (Nat.le_refl _) HKu.out HCu.out HIP.out).mono ?_
 rintro e w7 ⟨v_, rfl, ho, hb⟩
 obtain ⟨Aq, cq, rfl, hcq, hkq⟩ := Kd.R_reads ho
 have HKq := Aside0.mk hkq
 have HCq := Aside0.mk hcq
 clear ho HKu hkq hcq
 refine ⟨_, rfl, ?_⟩
 have hb_ := hb
 have n_HB := Aside0.mk (below_step HB.out hb_)
 have n_HQ := Aside0.mk (blk_below HQ.out hb_)
 clear HB HQ hb_
 have HB := n_HB
 have HQ := n_HQ
 clear n_HB n_HQ
 clear hb
 refine hK.out _ _ ((blk_cell HQ.out 0).trans rfl) (fun hHeld => ?_)
 clear hK K
 refine nz 51 ?_
 refine pz 9 42 HT_ ?_
 refine pz 10 52 HT_ ?_
 refine pz 11 53 HT_ ?_
 refine pz 12 14 HT_ ?_
 refine pz 13 15 HT_ ?_
 refine dz HT_ ?_
 clear HT_ HW_ hHeld
 (try dsimp only)
 have gp1 := cz HQ.out 1 rfl
 have gp2 := cz HQ.out 2 rfl
 have gp3 := cz HQ.out 3 rfl
 have gp4 := cz HQ.out 4 rfl
 have gp5 := cz HQ.out 5 rfl
 have gp6 := cz HQ.out 6 rfl
 go_wp2_with fail
 clear gp1 gp2 gp3 gp4 gp5 gp6
 refine (lychref1_EthBytes.calls a0_1 a0_2 a0_3 a0_4 a0_5 a0_6 2 9 0 0 0 0 2048 Aq cq q o oe _ HKq.out HCq.out hz).mono ?_
 rintro e w8 ⟨v_, rfl, ho, hb⟩
 have HO := Aside0.mk (Kd.R_lower ho (below_size HB.out))
 obtain ⟨Ao, co, rfl, _, _⟩ := Kd.R_reads ho
 clear ho HKq
 have hb_ := hb
 have n_HB := Aside0.mk (below_step HB.out hb_)
 clear HB hb_
 have HB := n_HB
 clear n_HB
 clear hb
 (try dsimp only)
 go_wp2
 (try simp only [Exit.inBlock, Exit.then])
 go_ret
 exact ⟨_, rfl, HO.out, HB.out⟩
end Go.Proofs.Ytkmimamminddiaa.PB
