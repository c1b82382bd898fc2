/- IpCut: for every input that the statement speaks of, the Go function returns true, and each argument reads as before. -/
import Derived.Test.YtmlmiiejifhfeaaRows
import Derived.Test.YtmlmiiejifhfeaaPAx30
import Derived.Test.YtmlmiiejifhfeaaStatIpCut
import Derived.Test.YtmlmiiejifhfeaaPureIpCut
import Derived.Test.YtmlmiiejifhfeaaAggWords
import Derived.WalkKit
import Derived.ProofKit
import Derived.OpenShut
import Derived.ShutString
import Derived.ChangeOld
import Derived.Below
import Derived.SizedLaws
import Derived.Lib.SmallJoins
namespace Go.Proofs.Ytmlmiiejifhfeaa.ipCut
open Go.ChangeShapes Go.WideShapes Go.ChangeAt Go.RowKit Go.Joins Go.Proofs.YtmlmiiejifhfeaaW.PrintWords Go.Proofs.YtmlmiiejifhfeaaW.AggWords
open Go.ChangeMaps (open_string shut_string)
set_option linter.unusedVariables false
set_option linter.unusedSimpArgs false
theorem own : ownKnob Try.prog.godebug = none := by kernel_rfl
theorem laidOut : laidOutB Try.prog = true := by kernel_rfl
set_option maxRecDepth 100000 in
theorem lifted (os : Os) (started : os.Started) (H : Type) (enc : TypeId × Value → H) :
    ReturnsInHanded {} Try.checked os 7 .any (Rows.ipCutSpec.pre6 enc Try.prog Try.f7 Rows.ipCutRow.domain false) (Rows.ipCutSpec.post enc Try.prog Try.f7 false true false false) := by
  refine returnsInHanded_of_change_sized (C := Try.checked) own started (by kernel_rfl) Try.func7
    (ChangeSpec.witness6 (enc := enc) (C := Try.checked) false ⟨#[], #[.agg #[.int .u8 0, .int .u8 0, .int .u8 0, .int .u16 0, .int .u8 0, .int .u16 0, .int .u32 0, .int .u32 0, .slice none 0 0, .slice none 0 0], .int .i64 0, .slice none 0 0], []⟩ 8 (by kernel_rfl) (by kernel_rfl) (by kernel_rfl) (by kernel_rfl)) ?_
  intro W base args ds gs before hval0 hW hcnd hsz0 _
  have hval : ∀ (j : Nat) t v, Try.f7.params[j]? = some t → args[j]? = some v → Value.okWide Try.prog W .any base t v := hval0
  have hW' := hW
  obtain ⟨p, q, hA0, hV, rfl, hfz, hnd⟩ := hW
  have hA : DataW.TrodAll enc Try.prog W 0 (fun _ => true) true Try.f7.params.toList args.toList ds p := hA0
  rw [Try.params7] at hA hval
  obtain ⟨v0, vs0, d0, ds0, p0, q0, hargs, rfl, rfl, h0, r0⟩ := trodAll_cons hA
  obtain ⟨v1, vs1, d1, ds1, p1, q1, rfl, rfl, rfl, h1, r1⟩ := trodAll_cons r0
  obtain ⟨v2, vs2, d2, ds2, p2, q2, rfl, rfl, rfl, h2, r2⟩ := trodAll_cons r1
  obtain ⟨rfl, rfl, rfl⟩ := trodAll_nil r2
  obtain rfl : args = #[v0, v1, v2] := by cases args; simp_all
  obtain ⟨rfl, rfl⟩ := trodVars_none hV
  have k0 := h0
  have lt0 : ∀ x ∈ p0, x.block < W.heap.size := by obtain ⟨m, hm⟩ := k0; exact DataW.trod_lt m _ _ _ hm
  obtain ⟨c0_0, c0_1, c0_2, c0_3, c0_4, c0_5, c0_6, c0_7, c0_8, c0_9, y0_0, y0_1, y0_2, y0_3, y0_4, y0_5, y0_6, y0_7, y0_8, y0_9, f0, rfl, ed0, ep0, hy0_0, hy0_1, hy0_2, hy0_3, hy0_4, hy0_5, hy0_6, hy0_7, hy0_8, hy0_9⟩ := open_agg10 Try.underlying30 (by kernel_rfl) (by kernel_rfl) (hval 0 30 v0 rfl rfl) h0
  obtain ⟨a0_0, e0_0, _, wf0_0⟩ := DataW.trod_int Try.underlying5 hy0_0
  obtain rfl := List.head_eq_of_cons_eq e0_0
  clear e0_0
  obtain ⟨a0_1, e0_1, _, wf0_1⟩ := DataW.trod_int Try.underlying5 hy0_1
  obtain rfl := List.head_eq_of_cons_eq e0_1
  clear e0_1
  obtain ⟨a0_2, e0_2, _, wf0_2⟩ := DataW.trod_int Try.underlying5 hy0_2
  obtain rfl := List.head_eq_of_cons_eq e0_2
  clear e0_2
  obtain ⟨a0_3, e0_3, _, wf0_3⟩ := DataW.trod_int Try.underlying25 hy0_3
  obtain rfl := List.head_eq_of_cons_eq e0_3
  clear e0_3
  obtain ⟨a0_4, e0_4, _, wf0_4⟩ := DataW.trod_int Try.underlying5 hy0_4
  obtain rfl := List.head_eq_of_cons_eq e0_4
  clear e0_4
  obtain ⟨a0_5, e0_5, _, wf0_5⟩ := DataW.trod_int Try.underlying25 hy0_5
  obtain rfl := List.head_eq_of_cons_eq e0_5
  clear e0_5
  obtain ⟨a0_6, e0_6, _, wf0_6⟩ := DataW.trod_int Try.underlying28 hy0_6
  obtain rfl := List.head_eq_of_cons_eq e0_6
  clear e0_6
  obtain ⟨a0_7, e0_7, _, wf0_7⟩ := DataW.trod_int Try.underlying28 hy0_7
  obtain rfl := List.head_eq_of_cons_eq e0_7
  clear e0_7
  obtain ⟨A0_8, n0_8, cc0_8, e0_8⟩ := slice_form Try.underlying22 hy0_8
  obtain rfl := List.head_eq_of_cons_eq e0_8
  clear e0_8
  obtain ⟨z0_8, w0_8⟩ := row_of Try.underlying22 Try.underlying5 (by kernel_rfl) hy0_8
  obtain ⟨l0_8, rfl, hr0_8, hm0_8, hw0_8, hc0_8⟩ := ReadsInt.ofRowC w0_8
  obtain ⟨A0_9, n0_9, cc0_9, e0_9⟩ := slice_form Try.underlying22 hy0_9
  obtain rfl := List.head_eq_of_cons_eq e0_9
  clear e0_9
  obtain ⟨z0_9, w0_9⟩ := row_of Try.underlying22 Try.underlying5 (by kernel_rfl) hy0_9
  obtain ⟨l0_9, rfl, hr0_9, hm0_9, hw0_9, hc0_9⟩ := ReadsInt.ofRowC w0_9
  obtain ⟨a1, rfl, rfl, rfl, wf1⟩ := open_int Try.underlying3 (hval 1 3 v1 rfl rfl) h1
  obtain ⟨A2, n2, c2, rfl⟩ := okWide_slice Try.underlying22 (hval 2 22 v2 rfl rfl)
  have k2 := h2
  have lt2 : ∀ x ∈ p2, x.block < W.heap.size := by obtain ⟨m, hm⟩ := k2; exact DataW.trod_lt m _ _ _ hm
  obtain ⟨fuel2, hf2⟩ := h2
  obtain ⟨z2, w2⟩ := row_of Try.underlying22 Try.underlying5 (by kernel_rfl) hf2
  obtain ⟨l2, rfl, hr2, hm2, hw2, hc2⟩ := ReadsInt.ofRowC w2
  clear hA0 hval0 hsz0
  obtain ⟨k, hk⟩ := Pure.IpCut a0_0 a0_1 a0_2 a0_3 a0_4 a0_5 a0_6 a0_7 l0_8 l0_9 a1 l2 wf0_0 wf0_1 wf0_2 wf0_3 wf0_4 wf0_5 wf0_6 wf0_7 hm0_8 hw0_8 hm0_9 hw0_9 wf1 hm2 hw2
  refine (PA.lychlaw3_IpCut.calls (k := k) (r := true) (w := W) (hr0_8 := Kd.C_of_reads (d := (0 : Int)) (h1 := fun _ => rfl) hr0_8) (hc0_8 := hc0_8) (hr0_9 := Kd.C_of_reads (d := (0 : Int)) (h1 := fun _ => rfl) hr0_9) (hc0_9 := hc0_9) (hr2 := Kd.C_of_reads (d := (0 : Int)) (h1 := fun _ => rfl) hr2) (hc2 := hc2) (h := hk)).mono fun e W' ⟨he, bel0⟩ => ?_
  have bel : Below W.heap.size W W' := by first | exact bel0 | exact bel0.below
  subst he
  exact ⟨_, rfl, _, _, _, [], _, [], hW', trodAll_mk1 (shut_bool Try.underlying4 _), (trodAll_cons_mk (Below.trod laidOut (by kernel_rfl) (of_decide_eq_true (by kernel_rfl)) k0 bel lt0) (trodAll_cons_mk (shut_int Try.underlying3 wf1) (trodAll_cons_mk (Below.trod laidOut (by kernel_rfl) (of_decide_eq_true (by kernel_rfl)) k2 bel lt2) trodAll_mk0))), rfl, bel.frame _, fun h => by cases h⟩
theorem over : Rows.ipCutRow.holds Try.pinned (OpenSpec.ofChange Rows.ipCutSpec) :=
  OpenClaim.holds_of_wide 7 Try.f7 rfl rfl rfl rfl rfl rfl rfl ⟨rfl, rfl, rfl, rfl, rfl⟩ rfl rfl rfl rfl rfl (by kernel_rfl) Try.func7 (by kernel_rfl)
    (of_decide_eq_true (by kernel_rfl)) (by unfold Func.isWrapper; first | (rw [if_pos (by decide +kernel)]; kernel_rfl) | (rw [if_neg (by decide +kernel)]; exact ⟨rfl, rfl⟩))
    (fun os started H enc _ => lifted os started H enc)
theorem proved : Rows.IpCutSaid := over
#print axioms proved
end Go.Proofs.Ytmlmiiejifhfeaa.ipCut
namespace Go.Proofs.Ytmlmiiejifhfeaa
/-- The row, under a short name, for the claim. -/
theorem ipCut_holds : Rows.IpCutSaid := ipCut.proved
end Go.Proofs.Ytmlmiiejifhfeaa
