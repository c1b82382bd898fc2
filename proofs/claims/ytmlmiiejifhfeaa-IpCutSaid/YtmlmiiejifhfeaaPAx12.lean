-- written by a patched print
import Derived.Test.YtmlmiiejifhfeaaPAx0
import Derived.Test.YtmlmiiejifhfeaaPAx11
namespace Go.Proofs.Ytmlmiiejifhfeaa.PA
open Go.RowKit Go.Proofs.YtmlmiiejifhfeaaW.PrintWords Go.Proofs.YtmlmiiejifhfeaaW.PrintLast Go.Proofs.YtmlmiiejifhfeaaW.PrintMore
attribute [local go_sem] max2_int min2_int max_two min_two max_three min_three max_four min_four   -- for this text's walks alone
set_option linter.unusedVariables false
set_option linter.unusedSimpArgs false

/-! ### lychref1_Get32: function 24 -/
def lychref1_Get32.f (l0 : List Int) (a1 : Int) : Option (Int) := (lychref1_Get16.f l0 a1).bind fun t240 => ((lychref1_Get16.f l0 (wrap64 (a1 + 2))).bind fun t241 => (some (Go.bits .or .u32 ((((t240) % 4294967296) * 65536) % 4294967296) ((t241) % 4294967296))))
set_option maxHeartbeats 8000000 in
set_option maxRecDepth 100000 in
theorem lychref1_Get32.calls (A0 : Option Addr) (c0 : Nat) (l0 : List Int) (a1 : Int) (r : Int) (w : World) (hr0 : Kd.C (Kd.int .u8) w A0 l0.length l0) (hc0 : l0.length ≤ c0) (h : lychref1_Get32.f l0 a1 = some r) :
  Calls Try.prog 24 #[.slice A0 l0.length c0, .int .i64 a1] w fun e w' => e = .returned (.int .u32 r) ∧ Drawn0 w w' := by
 have HR0 := Aside0.mk hr0
 have HC0 := Aside0.mk hc0
 clear hr0 hc0
 have H : ((lychref1_Get16.f l0 a1).bind fun t240 => ((lychref1_Get16.f l0 (wrap64 (a1 + 2))).bind fun t241 => (some (Go.bits .or .u32 ((((t240) % 4294967296) * 65536) % 4294967296) ((t241) % 4294967296))))) = some r := h
 clear h
 replace H := Option.bind_eq_some_iff.mp H
 obtain ⟨t240, A30, H⟩ := H
 replace H : ((lychref1_Get16.f l0 (wrap64 (a1 + 2))).bind fun t241 => (some (Go.bits .or .u32 ((((t240) % 4294967296) * 65536) % 4294967296) ((t241) % 4294967296)))) = some r := H
 have A3 := Aside0.mk A30
 clear A30
 replace H := Option.bind_eq_some_iff.mp H
 obtain ⟨t241, A40, H⟩ := H
 replace H : (some (Go.bits .or .u32 ((((t240) % 4294967296) * 65536) % 4294967296) ((t241) % 4294967296))) = some r := H
 have A4 := Aside0.mk A40
 clear A40
 obtain rfl := Option.some.inj H
 go_enter Try.func24, Try.ntmps24
 go_wp2_with (first | ((with_reducible refine gate_callee (f := 23) rfl ?_); refine goesL_ (some 7) rfl rfl Try.func23 (by kernel_rfl) rfl #[.slice A0 l0.length c0, .int .i64 a1] rfl (by (try simp only [List.map_toArray, List.map_cons, List.map_nil]); first | done | rfl | (simp only [List.length_drop, List.length_take]; rfl) | (go_simp; done) | (simp [Act.eval, IntKind.signed]; done) | (simp [Act.eval, IntKind.signed]; rfl)) ?_; (with_reducible refine (lychref1_Get16.calls _ _ l0 a1 t240 _ ?side1 ?side2 A3.out).mono ?_); (case side1 => repeat (first | exact HR0.out | (with_reducible refine Kd.C_alloc ?_ _) | (with_reducible refine Kd.C_drewN ?_ _) | (with_reducible refine Kd.C_drew ?_))); (case side2 => exact HC0.out); rintro e w' ⟨rfl, ⟨nd, rfl⟩⟩; refine ⟨_, rfl, ?_⟩) | ((with_reducible refine gate_callee (f := 23) rfl ?_); refine goesL_ (some 13) rfl rfl Try.func23 (by kernel_rfl) rfl #[.slice A0 l0.length c0, .int .i64 (wrap64 (a1 + 2))] rfl (by (try simp only [List.map_toArray, List.map_cons, List.map_nil]); first | done | rfl | (simp only [List.length_drop, List.length_take]; rfl) | (go_simp; done) | (simp [Act.eval, IntKind.signed]; done) | (simp [Act.eval, IntKind.signed]; rfl)) ?_; (with_reducible refine (lychref1_Get16.calls _ _ l0 (wrap64 (a1 + 2)) t241 _ ?side1 ?side2 A4.out).mono ?_); (case side1 => repeat (first | exact HR0.out | (with_reducible refine Kd.C_alloc ?_ _) | (with_reducible refine Kd.C_drewN ?_ _) | (with_reducible refine Kd.C_drew ?_))); (case side2 => exact HC0.out); rintro e w' ⟨rfl, ⟨nd, rfl⟩⟩; refine ⟨_, rfl, ?_⟩))
 go_ret
 exact ⟨by first | rfl | (simp; done) | (simp [*]; done), by repeat (first | exact Drawn0.refl _ | apply Drawn0.step)⟩

/-! ### lychref1_cut: function 25 -/
def lychref1_cut.f (l0 : List Int) (a1 : Int) (a2 : Int) : Option (List Int) := if 0 ≤ a1 then (if a1 ≤ a2 then (if a2 ≤ (l0.length : Int) then (if ([] : List Int).length + ((l0.take (a2 : Int).toNat).drop (a1 : Int).toNat).length < 140737488355328 then (some (([] : List Int) ++ ((l0.take (a2 : Int).toNat).drop (a1 : Int).toNat))) else (none)) else (none)) else (none)) else (none)
set_option maxHeartbeats 8000000 in
set_option maxRecDepth 100000 in
theorem lychref1_cut.calls (A0 : Option Addr) (c0 : Nat) (l0 : List Int) (a1 : Int) (a2 : Int) (r : List Int) (w : World) (hr0 : Kd.C (Kd.int .u8) w A0 l0.length l0) (hc0 : l0.length ≤ c0) (h : lychref1_cut.f l0 a1 a2 = some r) :
  Calls Try.prog 25 #[.slice A0 l0.length c0, .int .i64 a1, .int .i64 a2] w fun e w' => ∃ v0_ : Value, e = .returned (v0_) ∧ Kd.R (Kd.int .u8) 5 w' w.heap.size (fun _ => True) v0_ r ∧ Below w.heap.size w w' := by
 have HR0 := Aside0.mk hr0
 have HC0 := Aside0.mk hc0
 clear hr0 hc0
 have HB := Aside0.mk (Below.refl w.heap.size w)
 have H : (if 0 ≤ a1 then (if a1 ≤ a2 then (if a2 ≤ (l0.length : Int) then (if ([] : List Int).length + ((l0.take (a2 : Int).toNat).drop (a1 : Int).toNat).length < 140737488355328 then (some (([] : List Int) ++ ((l0.take (a2 : Int).toNat).drop (a1 : Int).toNat))) else (none)) else (none)) else (none)) else (none)) = some r := h
 clear h
 by_cases c4 : 0 ≤ a1
 ·rw [if_pos c4] at H
  have c4b0 := eq_true c4
  have c4b1 : decide (0 ≤ a1) = true := decide_eq_true c4
  clear c4
  by_cases c5 : a1 ≤ a2
  ·rw [if_pos c5] at H
   have c5b0 := eq_true c5
   have c5b1 : decide (a1 ≤ a2) = true := decide_eq_true c5
   clear c5
   by_cases c6 : a2 ≤ (l0.length : Int)
   ·rw [if_pos c6] at H
    have c6b0 := eq_true c6
    have c6b1 : decide (a2 ≤ (l0.length : Int)) = true := decide_eq_true c6
    clear c6
    by_cases c7 : ([] : List Int).length + ((l0.take (a2 : Int).toNat).drop (a1 : Int).toNat).length < 140737488355328
    ·rw [if_pos c7] at H
     have LMc7 := Aside0.mk c7
     clear c7
     obtain ⟨y243, hy243⟩ : ∃ y_ : List Int, y_ = (([] : List Int) ++ ((l0.take (a2 : Int).toNat).drop (a1 : Int).toNat)) := ⟨_, rfl⟩
     replace H : (some y243) = some r := by first | (rw [hy243]; with_reducible exact H) | (have H2_ := (Option.bind_some _ _).symm.trans H; rw [hy243]; with_reducible exact H2_) | (have H2_ := (Option.bind_some _ _).symm.trans H; with_reducible exact H2_) | with_reducible exact H | (rw [hy243]; exact H) | exact H
     have Ny243 := Aside0.mk hy243
     clear hy243
     obtain rfl := Option.some.inj H
     obtain ⟨i08, hi08, _, hsz8, _⟩ := info_parts info5
     obtain ⟨A8, hcut8, hA8, hC8⟩ := print_mid_of (P := Try.prog) (Value.int .u8) 0 22 5 .i64 .i64 Try.underlying22 hi08 hsz8 A0 c0 l0 a1 a2 (of_decide_eq_true (by first | (with_reducible assumption) | assumption)) (by first | omega | exact of_decide_eq_true (by first | (with_reducible assumption) | assumption)) (of_decide_eq_true (by first | (with_reducible assumption) | assumption)) HC0.out
     have HR242 := Aside0.mk (Kd.C_of_reads (h1 := fun _ => rfl) (hA8 _ (Kd.reads_of_C HR0.out)))
     have HC242 := Aside0.mk hC8
     clear hA8 hC8 hi08 hsz8
     go_enter Try.func25, Try.ntmps25
     go_wp2_with (first | ((with_reducible refine gate_builtin (b := .append) (xs := #[.const (.slice none 0 0), .tmp 10]) rfl ?_); at_builtin; refine Kd.R_append_rows (Kd.int .u8) (w0 := w) w.heap.size rfl (.const (.slice none 0 0)) (.tmp 10) 22 5 (.int .u8 0) 1 rfl Try.underlying22 info5 rfl (by decide) (by omega) (.slice none 0 0) ([] : List Int) ((l0.take (a2 : Int).toNat).drop (a1 : Int).toNat) _ _ _ (fun _ => True) (fun _ => False) rfl rfl ?aO ?aR (fun _ _ h => h) (fun _ h => h.elim) ?aF ?aB ?aS ?aL ?_; (case aR => first | (rw [← show ((l0.take (a2 : Int).toNat).drop (a1 : Int).toNat).length = (a2.toNat - a1.toNat) from (by rw [List.length_drop, List.length_take]; have h_ : (a2 : Int) ≤ (l0.length : Int) := of_decide_eq_true (by first | (with_reducible assumption) | assumption); omega)]; repeat (first | exact HR242.out | (with_reducible refine Kd.C_alloc ?_ _) | (with_reducible refine Kd.C_drewN ?_ _) | (with_reducible refine Kd.C_drew ?_))) | (repeat (first | exact HR242.out | (with_reducible refine Kd.C_alloc ?_ _) | (with_reducible refine Kd.C_drewN ?_ _) | (with_reducible refine Kd.C_drew ?_)))); (case aB => exact (by repeat (first | (with_reducible first | exact HB.out | apply below_alloc | apply pw_below_drewN | apply below_drew1) | exact HB.out))); (case aF => exact (fun _ _ => trivial)); (case aO => exact ((Kd.R_nil _ _ _ _ (fun _ => True)))); (case aS => exact (below_size (by repeat (first | (with_reducible first | exact HB.out | apply below_alloc | apply pw_below_drewN | apply below_drew1) | exact HB.out)))); (case aL => have := LMc7.out; have hlx_ := (show ((l0.take (a2 : Int).toNat).drop (a1 : Int).toNat).length = (a2.toNat - a1.toNat) from (by rw [List.length_drop, List.length_take]; have h_ : (a2 : Int) ≤ (l0.length : Int) := of_decide_eq_true (by first | (with_reducible assumption) | assumption); omega)); omega); intro v244 w9 ho hb hg hat; rw [← Ny243.out] at ho; have n0_ := Aside0.mk (hb); have n1_ := Aside0.mk (ho); clear HB; have HB := n0_; have HO245 := n1_; clear n0_ n1_; clear ho hb hg hat))
     go_ret
     exact ⟨_, by first | rfl | (simp [errW_none, errW_some] <;> rfl) | (simp [*, errW_none, errW_some] <;> rfl), by (with_reducible repeat (first | apply Kd.R_alloc | apply Kd.R_drewN | apply Kd.R_drew)); exact HO245.out, by repeat (first | (with_reducible first | exact HB.out | apply below_alloc | apply pw_below_drewN | apply below_drew1) | exact HB.out)⟩
    ·rw [if_neg c7] at H
     exact absurd H (by simp)
   ·rw [if_neg c6] at H
    exact absurd H (by simp)
  ·rw [if_neg c5] at H
   exact absurd H (by simp)
 ·rw [if_neg c4] at H
  exact absurd H (by simp)

end Go.Proofs.Ytmlmiiejifhfeaa.PA
