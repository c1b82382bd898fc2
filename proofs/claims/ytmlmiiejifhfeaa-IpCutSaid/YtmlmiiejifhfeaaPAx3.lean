-- written by a patched print
import Derived.Test.YtmlmiiejifhfeaaPAx0
import Derived.Test.YtmlmiiejifhfeaaPAx1
import Derived.Test.YtmlmiiejifhfeaaPAx2
namespace Go.Proofs.Ytmlmiiejifhfeaa.PA
open Go.RowKit Go.Proofs.YtmlmiiejifhfeaaW.PrintWords Go.Proofs.YtmlmiiejifhfeaaW.PrintLast Go.Proofs.YtmlmiiejifhfeaaW.PrintMore
attribute [local go_sem] max2_int min2_int max_two min_two max_three min_three max_four min_four   -- for this text's walks alone
set_option linter.unusedVariables false
set_option linter.unusedSimpArgs false

/-! ### sum_Add: function 33 -/
def sum_Add.l0 : Nat → Int → List Int → Int → Int → Option (Int)
  | 0, _, _, _, _ => none
  | k + 1, x0, x10, x11, x12 => if x12 < x11 then (if 0 ≤ x12 then (if x12 < (x10.length : Int) then ((bits_Add32.f x0 ((rd x10 x12) % 4294967296) 0).bind fun bt115 => (sum_Add.l0 k ((bt115.1 + bt115.2) % 4294967296) x10 x11 (wrap64 (x12 + 1)))) else (none)) else (none)) else (some x0)
def sum_Add.f (k : Nat) (a0 : Int) (l1 : List Int) : Option (Int) := (sum_Words.f k l1).bind fun t111 => (sum_Add.l0 k a0 t111 (t111.length : Int) 0)
theorem sum_Add.mono_l : ∀ k, (∀ y0 y1 y2 y3, LeO (sum_Add.l0 k y0 y1 y2 y3) (sum_Add.l0 (k + 1) y0 y1 y2 y3))
  | 0 => fun _ _ _ _ r h => by simp [sum_Add.l0] at h
  | k + 1 => by
    have ih0 := sum_Add.mono_l k
    · intro y0 y1 y2 y3
      unfold sum_Add.l0
      repeat' first
      | (with_reducible exact ih0 _ _ _ _)
      | (with_reducible exact sum_Words.mono _ _)
      | (with_reducible exact LeO.refl _)
      | (with_reducible exact LeO.none _)
      | (with_reducible refine LeO.ite ?_ ?_)
      | (with_reducible refine LeO.bind ?_ (fun _ => ?_))
      | exact ih0 _ _ _ _
      | exact sum_Words.mono _ _
      | exact LeO.none _
      | refine LeO.ite ?_ ?_
      | refine LeO.bind ?_ (fun _ => ?_)
theorem sum_Add.mono : ∀ a0 a1 k, LeO (sum_Add.f k a0 a1) (sum_Add.f (k + 1) a0 a1) := by
  intro a0 a1 k
  have ih0 := sum_Add.mono_l k
  unfold sum_Add.f
  repeat' first
      | (with_reducible exact ih0 _ _ _ _)
      | (with_reducible exact sum_Words.mono _ _)
      | (with_reducible exact LeO.refl _)
      | (with_reducible exact LeO.none _)
      | (with_reducible refine LeO.ite ?_ ?_)
      | (with_reducible refine LeO.bind ?_ (fun _ => ?_))
      | exact ih0 _ _ _ _
      | exact sum_Words.mono _ _
      | exact LeO.none _
      | refine LeO.ite ?_ ?_
      | refine LeO.bind ?_ (fun _ => ?_)
set_option maxHeartbeats 8000000 in
set_option maxRecDepth 100000 in
theorem sum_Add.calls (k : Nat) (a0 : Int) (A1 : Option Addr) (c1 : Nat) (l1 : List Int) (r : Int) (w : World) (hr1 : Kd.C (Kd.int .u8) w A1 l1.length l1) (hc1 : l1.length ≤ c1) (h : sum_Add.f k a0 l1 = some r) :
    Calls Try.prog 33 #[.int .u32 a0, .slice A1 l1.length c1] w fun e w' => e = .returned (.int .u32 r) ∧ Below w.heap.size w w' := by
  have HR1 := Aside0.mk hr1
  have HC1 := Aside0.mk hc1
  clear hr1 hc1
  have HB := Aside0.mk (Below.refl w.heap.size w)
  have H : ((sum_Words.f k l1).bind fun t111 => (sum_Add.l0 k a0 t111 (t111.length : Int) 0)) = some r := h
  clear h
  replace H := Option.bind_eq_some_iff.mp H
  obtain ⟨t111, A30, H⟩ := H
  replace H : (sum_Add.l0 k a0 t111 (t111.length : Int) 0) = some r := H
  have A3 := Aside0.mk A30
  clear A30
  have H' := Aside0.mk H
  clear H
  go_enter Try.func33, Try.ntmps33
  go_wp2_with (first | ((with_reducible refine gate_callee (f := 36) rfl ?_); refine goesL_ (some 10) rfl rfl Try.func36 (by kernel_rfl) rfl #[.slice A1 l1.length c1] rfl (by (try simp only [List.map_toArray, List.map_cons, List.map_nil]); first | done | rfl | (simp only [List.length_drop, List.length_take]; rfl) | (go_simp; done) | (simp [Act.eval, IntKind.signed]; done) | (simp [Act.eval, IntKind.signed]; rfl)) ?_; (with_reducible refine (sum_Words.calls k _ _ l1 t111 _ ?side1 ?side2 A3.out).mono ?_); (case side1 => repeat (first | exact HR1.out | (with_reducible refine Kd.C_alloc ?_ _) | (with_reducible refine Kd.C_drewN ?_ _) | (with_reducible refine Kd.C_drew ?_))); (case side2 => exact HC1.out); rintro e w4 ⟨v112, rfl, ho0, hb⟩; refine ⟨_, rfl, ?_⟩; have n0_ := Aside0.mk (Kd.R_lower ho0 (below_size (by repeat (first | (with_reducible first | exact HB.out | apply below_alloc | apply pw_below_drewN | apply below_drew1) | exact HB.out)))); have n1_ := Aside0.mk (below_step (by repeat (first | (with_reducible first | exact HB.out | apply below_alloc | apply pw_below_drewN | apply below_drew1) | exact HB.out)) hb); clear HB; have HO113 := n0_; have HB := n1_; clear n0_ n1_; (try clear hb); (try clear hb2); (try clear hk); (try clear hi); (try clear ho0); obtain ⟨Ao5, co5, eo5⟩ := Kd.R_slice HO113.out; subst eo5))
  go_loopg [0, 12] k (fun kq v0 v12 w' => ∃ (x0_1 : Int) (x12_1 : Int), v0 = .int .u32 x0_1 ∧ v12 = .int .i64 x12_1 ∧ Aside0 (sum_Add.l0 kq x0_1 t111 (t111.length : Int) x12_1 = some r) ∧ Aside0 (kq ≤ k) ∧ Aside0 (Kd.R (Kd.int .u16) 25 w' w.heap.size (fun _ => True) (.slice Ao5 t111.length co5) t111) ∧ Aside0 (Below w.heap.size w w'))
  case atStart => exact ⟨(a0), (0), (by first | rfl | (simp; done) | (simp [*]; done)), (by first | rfl | (simp; done) | (simp [*]; done)), H', ⟨Nat.le_refl _⟩, ⟨by (with_reducible repeat (first | apply Kd.R_alloc | apply Kd.R_drewN | apply Kd.R_drew)); exact HO113.out⟩, ⟨by repeat (first | (with_reducible first | exact HB.out | apply below_alloc | apply pw_below_drewN | apply below_drew1) | exact HB.out)⟩⟩
  case round =>
    clear H'
    try clear c1
    try clear p2
    try clear c3
    obtain ⟨x0_1, x12_1, rfl, rfl, HA, HK1, HO_10, HB⟩ := hrel
    cases gk with
    | zero => exact absurd HA.out (by simp [sum_Add.l0])
    | succ k1 =>
      have H := HA.out
      clear HA
      simp only [sum_Add.l0] at H
      by_cases c6 : x12_1 < (t111.length : Int)
      · rw [if_pos c6] at H
        have c6b0 : decide (x12_1 < (t111.length : Int)) = true := decide_eq_true c6
        clear c6
        by_cases c7 : 0 ≤ x12_1
        · rw [if_pos c7] at H
          have c7b0 : decide (0 ≤ x12_1) = true := decide_eq_true c7
          clear c7
          by_cases c8 : x12_1 < (t111.length : Int)
          · rw [if_pos c8] at H
            have c8b0 : decide (x12_1 < (t111.length : Int)) = true := decide_eq_true c8
            clear c8
            replace H := Option.bind_eq_some_iff.mp H
            obtain ⟨⟨t115, t116⟩, A90, H⟩ := H
            replace H : (sum_Add.l0 k1 ((t115 + t116) % 4294967296) t111 (t111.length : Int) (wrap64 (x12_1 + 1))) = some r := H
            have A9 := Aside0.mk A90
            clear A90
            have H' := Aside0.mk H
            clear H
            have p114 : 0 ≤ (x12_1 : Int) := of_decide_eq_true (by first | (with_reducible assumption) | assumption)
            have q114 : x12_1 < (t111.length : Int) := of_decide_eq_true (by first | (with_reducible assumption) | assumption)
            obtain ⟨ad114, e114, hx114_0⟩ := Kd.at_int (Kd.R_reads' HO_10.out).2.2 x12_1 p114 q114
            cases e114
            replace p114 := eq_true p114
            replace q114 := eq_true q114
            go_wp2_with (first | ((with_reducible refine gate_callee (f := 37) rfl ?_); refine goesL_ (some 20) rfl rfl Try.func37 (by kernel_rfl) rfl #[.int .u32 x0_1, .int .u32 ((rd t111 x12_1) % 4294967296), .int .u32 0] rfl (by (try simp only [List.map_toArray, List.map_cons, List.map_nil]); first | done | rfl | (simp only [List.length_drop, List.length_take]; rfl) | (go_simp; done) | (simp [Act.eval, IntKind.signed]; done) | (simp [Act.eval, IntKind.signed]; rfl)) ?_; (with_reducible refine (bits_Add32.calls x0_1 ((rd t111 x12_1) % 4294967296) 0 t115 t116 _ A9.out).mono ?_); rintro e w' ⟨rfl, ⟨nd, rfl⟩⟩; refine ⟨_, rfl, ?_⟩))
            go_roundg k1
            case measure => have := HK1.out; omega
            case rel => exact ⟨((t115 + t116) % 4294967296), (wrap64 (x12_1 + 1)), (by first | rfl | (simp; done) | (simp [*]; done)), (by first | rfl | (simp; done) | (simp [*]; done)), H', ⟨by have := HK1.out; omega⟩, ⟨by (with_reducible repeat (first | apply Kd.R_alloc | apply Kd.R_drewN | apply Kd.R_drew)); exact HO_10.out⟩, ⟨by repeat (first | (with_reducible first | exact HB.out | apply below_alloc | apply pw_below_drewN | apply below_drew1) | exact HB.out)⟩⟩
          · rw [if_neg c8] at H
            exact absurd H (by simp)
        · rw [if_neg c7] at H
          exact absurd H (by simp)
      · rw [if_neg c6] at H
        have c6b0 : decide (x12_1 < (t111.length : Int)) = false := decide_eq_false c6
        clear c6
        obtain rfl := Option.some.inj H
        go_wp2
        go_ret
        exact ⟨by first | rfl | (simp [errW_none, errW_some] <;> rfl) | (simp [*, errW_none, errW_some] <;> rfl), by repeat (first | (with_reducible first | exact HB.out | apply below_alloc | apply pw_below_drewN | apply below_drew1) | exact HB.out)⟩

/-! ### ip_reader_four: function 34 -/
def ip_reader_four.f (l0 : List Int) (a1 : Int) : Option (Int) := (ip_reader_two.f l0 a1).bind fun t117 => ((ip_reader_two.f l0 (wrap64 (a1 + 2))).bind fun t118 => (some (Go.bits .or .u32 ((((t117) % 4294967296) * 65536) % 4294967296) ((t118) % 4294967296))))
set_option maxHeartbeats 8000000 in
set_option maxRecDepth 100000 in
theorem ip_reader_four.calls (A0 : Option Addr) (c0 : Nat) (l0 : List Int) (a1 : Int) (r : Int) (w : World) (hr0 : Kd.C (Kd.int .u8) w A0 l0.length l0) (hc0 : l0.length ≤ c0) (h : ip_reader_four.f l0 a1 = some r) :
    Calls Try.prog 34 #[.slice A0 l0.length c0, .int .i64 a1] w fun e w' => e = .returned (.int .u32 r) ∧ Drawn0 w w' := by
  have HR0 := Aside0.mk hr0
  have HC0 := Aside0.mk hc0
  clear hr0 hc0
  have H : ((ip_reader_two.f l0 a1).bind fun t117 => ((ip_reader_two.f l0 (wrap64 (a1 + 2))).bind fun t118 => (some (Go.bits .or .u32 ((((t117) % 4294967296) * 65536) % 4294967296) ((t118) % 4294967296))))) = some r := h
  clear h
  replace H := Option.bind_eq_some_iff.mp H
  obtain ⟨t117, A30, H⟩ := H
  replace H : ((ip_reader_two.f l0 (wrap64 (a1 + 2))).bind fun t118 => (some (Go.bits .or .u32 ((((t117) % 4294967296) * 65536) % 4294967296) ((t118) % 4294967296)))) = some r := H
  have A3 := Aside0.mk A30
  clear A30
  replace H := Option.bind_eq_some_iff.mp H
  obtain ⟨t118, A40, H⟩ := H
  replace H : (some (Go.bits .or .u32 ((((t117) % 4294967296) * 65536) % 4294967296) ((t118) % 4294967296))) = some r := H
  have A4 := Aside0.mk A40
  clear A40
  obtain rfl := Option.some.inj H
  go_enter Try.func34, Try.ntmps34
  go_wp2_with (first | ((with_reducible refine gate_callee (f := 31) rfl ?_); refine goesL_ (some 7) rfl rfl Try.func31 (by kernel_rfl) rfl #[.slice A0 l0.length c0, .int .i64 a1] rfl (by (try simp only [List.map_toArray, List.map_cons, List.map_nil]); first | done | rfl | (simp only [List.length_drop, List.length_take]; rfl) | (go_simp; done) | (simp [Act.eval, IntKind.signed]; done) | (simp [Act.eval, IntKind.signed]; rfl)) ?_; (with_reducible refine (ip_reader_two.calls _ _ l0 a1 t117 _ ?side1 ?side2 A3.out).mono ?_); (case side1 => repeat (first | exact HR0.out | (with_reducible refine Kd.C_alloc ?_ _) | (with_reducible refine Kd.C_drewN ?_ _) | (with_reducible refine Kd.C_drew ?_))); (case side2 => exact HC0.out); rintro e w' ⟨rfl, ⟨nd, rfl⟩⟩; refine ⟨_, rfl, ?_⟩) | ((with_reducible refine gate_callee (f := 31) rfl ?_); refine goesL_ (some 13) rfl rfl Try.func31 (by kernel_rfl) rfl #[.slice A0 l0.length c0, .int .i64 (wrap64 (a1 + 2))] rfl (by (try simp only [List.map_toArray, List.map_cons, List.map_nil]); first | done | rfl | (simp only [List.length_drop, List.length_take]; rfl) | (go_simp; done) | (simp [Act.eval, IntKind.signed]; done) | (simp [Act.eval, IntKind.signed]; rfl)) ?_; (with_reducible refine (ip_reader_two.calls _ _ l0 (wrap64 (a1 + 2)) t118 _ ?side1 ?side2 A4.out).mono ?_); (case side1 => repeat (first | exact HR0.out | (with_reducible refine Kd.C_alloc ?_ _) | (with_reducible refine Kd.C_drewN ?_ _) | (with_reducible refine Kd.C_drew ?_))); (case side2 => exact HC0.out); rintro e w' ⟨rfl, ⟨nd, rfl⟩⟩; refine ⟨_, rfl, ?_⟩))
  go_ret
  exact ⟨by first | rfl | (simp; done) | (simp [*]; done), by repeat (first | exact Drawn0.refl _ | apply Drawn0.step)⟩

/-! ### ip_reader_byte: function 35 -/
def ip_reader_byte.f (l0 : List Int) : Option (List Int) := if l0.length < 140737488355328 then some l0 else none
set_option maxHeartbeats 8000000 in
set_option maxRecDepth 100000 in
theorem ip_reader_byte.calls (A0 : Option Addr) (c0 : Nat) (l0 : List Int) (r : List Int) (w : World) (hr0 : Kd.C (Kd.int .u8) w A0 l0.length l0) (hc0 : l0.length ≤ c0) (h : ip_reader_byte.f l0 = some r) :
    Calls Try.prog 35 #[.slice A0 l0.length c0] w fun e w' => ∃ v0_ : Value, e = .returned (v0_) ∧ Kd.R (Kd.int .u8) 5 w' w.heap.size (fun _ => True) v0_ r ∧ Below w.heap.size w w' := by
  unfold ip_reader_byte.f at h
  by_cases c7 : l0.length < 140737488355328
  · rw [if_pos c7] at h
    obtain rfl := Option.some.inj h
    clear h
    have LMc7 := Aside0.mk c7
    clear c7
    have HR0 := Aside0.mk hr0
    have HC0 := Aside0.mk hc0
    clear hr0 hc0
    have HB := Aside0.mk (Below.refl w.heap.size w)
    cases A0 with
    | none =>
      have e := kd_none_nil HR0.out
      subst e
      have hq := fun (W : World) (n c : Nat) => Go.Lib.run_eql_slice_nil (P := Try.prog) W 54 5 none n c 0 0 Try.underlying54
      go_enter Try.func35, Try.ntmps35
      go_wp2
      go_ret
      exact ⟨_, rfl, Kd.R_nil _ _ _ _ _, Below.refl _ _⟩
    | some ad =>
      have hq := fun (W : World) (n c : Nat) => Go.Lib.run_eql_slice_nil (P := Try.prog) W 54 5 (some ad) n c 0 0 Try.underlying54
      go_enter Try.func35, Try.ntmps35
      have HO1 : Aside0 (Kd.R (Kd.int .u8) 5 (w.alloc (.cells #[] 5)) w.heap.size (fun _ => True) (.slice (some ⟨w.heap.size, 0, none⟩) 0 0) ([] : List Int)) := ⟨kd_empty_new w .u8 5⟩
      have HB1 : Aside0 (Below w.heap.size w (w.alloc (.cells #[] 5))) := ⟨below_alloc HB.out _⟩
      go_wp2_with (first
       | ((with_reducible refine gate_builtin (b := .append) (xs := #[.tmp 5, .tmp 6]) rfl ?_); at_builtin; refine Kd.R_append_rows (Kd.int .u8) (w0 := w) w.heap.size rfl (.tmp 5) (.tmp 6) 54 5 (.int .u8 0) 1 rfl Try.underlying54 info5 rfl (by decide) (by omega) (.slice (some ⟨w.heap.size, 0, none⟩) 0 0) ([] : List Int) l0 _ _ _ (fun _ => True) (fun _ => False) rfl rfl ?aO ?aR (fun _ _ h => h) (fun _ h => h.elim) ?aF ?aB ?aS ?aL ?_; (case aR => exact Kd.C_below HR0.out HB1.out); (case aB => exact HB1.out); (case aF => exact (fun _ _ => trivial)); (case aO => exact HO1.out); (case aS => exact (below_size HB1.out)); (case aL => have := LMc7.out; simp; omega); intro v2 w2 ho hb hg hat; clear hg hat; have HB2 := Aside0.mk hb; have HO2 := Aside0.mk ho; clear hb ho))
      go_ret
      exact ⟨_, rfl, by simpa using HO2.out, HB2.out⟩
  · rw [if_neg c7] at h
    cases h

end Go.Proofs.Ytmlmiiejifhfeaa.PA
