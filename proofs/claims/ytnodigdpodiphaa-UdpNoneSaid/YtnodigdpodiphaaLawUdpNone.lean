/- UdpNone: for every input that the statement speaks of, the Go function returns true, and each argument reads as before. -/
import Derived.Test.YtnodigdpodiphaaRows
import Derived.Test.YtnodigdpodiphaaPAx12
import Derived.Test.YtnodigdpodiphaaStatUdpNone
import Derived.Test.YtnodigdpodiphaaPureUdpNone
import Derived.Test.YtnodigdpodiphaaAggWords
import Derived.WalkKit
import Derived.ProofKit
import Derived.OpenShut
import Derived.ShutString
import Derived.ChangeOld
import Derived.Below
import Derived.SizedLaws
import Derived.Lib.SmallJoins
namespace Go.Proofs.Ytnodigdpodiphaa.udpNone
open Go.ChangeShapes Go.WideShapes Go.ChangeAt Go.RowKit Go.Joins Go.Proofs.YtnodigdpodiphaaW.PrintWords Go.Proofs.YtnodigdpodiphaaW.AggWords
open Go.ChangeMaps (open_string shut_string)
set_option linter.unusedVariables false
set_option linter.unusedSimpArgs false
theorem own : ownKnob Try.prog.godebug = none := by kernel_rfl
theorem laidOut : laidOutB Try.prog = true := by kernel_rfl
set_option maxRecDepth 100000 in
theorem lifted (os : Os) (started : os.Started) (H : Type) (enc : TypeId × Value → H) :
    ReturnsInHanded {} Try.checked os 8 .any (Rows.udpNoneSpec.pre6 enc Try.prog Try.f8 Rows.udpNoneRow.domain false) (Rows.udpNoneSpec.post enc Try.prog Try.f8 false true false false) := by
  refine returnsInHanded_of_change_sized (C := Try.checked) own started (by kernel_rfl) Try.func8
    (ChangeSpec.witness6 (enc := enc) (C := Try.checked) false ⟨#[], #[.int .u32 0, .int .u32 0, .agg #[.int .u16 0, .int .u16 0, .int .u16 0, .slice none 0 0]], []⟩ 8 (by kernel_rfl) (by kernel_rfl) (by kernel_rfl) (by kernel_rfl)) ?_
  intro W base args ds gs before hval0 hW hcnd hsz0 _
  have hval : ∀ (j : Nat) t v, Try.f8.params[j]? = some t → args[j]? = some v → Value.okWide Try.prog W .any base t v := hval0
  have hW' := hW
  obtain ⟨p, q, hA0, hV, rfl, hfz, hnd⟩ := hW
  have hA : DataW.TrodAll enc Try.prog W 0 (fun _ => true) true Try.f8.params.toList args.toList ds p := hA0
  rw [Try.params8] at hA hval
  obtain ⟨v0, vs0, d0, ds0, p0, q0, hargs, rfl, rfl, h0, r0⟩ := trodAll_cons hA
  obtain ⟨v1, vs1, d1, ds1, p1, q1, rfl, rfl, rfl, h1, r1⟩ := trodAll_cons r0
  obtain ⟨v2, vs2, d2, ds2, p2, q2, rfl, rfl, rfl, h2, r2⟩ := trodAll_cons r1
  obtain ⟨rfl, rfl, rfl⟩ := trodAll_nil r2
  obtain rfl : args = #[v0, v1, v2] := by cases args; simp_all
  obtain ⟨rfl, rfl⟩ := trodVars_none hV
  obtain ⟨a0, rfl, rfl, rfl, wf0⟩ := open_int Try.underlying40 (hval 0 40 v0 rfl rfl) h0
  obtain ⟨a1, rfl, rfl, rfl, wf1⟩ := open_int Try.underlying40 (hval 1 40 v1 rfl rfl) h1
  have k2 := h2
  have lt2 : ∀ x ∈ p2, x.block < W.heap.size := by obtain ⟨m, hm⟩ := k2; exact DataW.trod_lt m _ _ _ hm
  obtain ⟨c2_0, c2_1, c2_2, c2_3, y2_0, y2_1, y2_2, y2_3, f2, rfl, ed2, ep2, hy2_0, hy2_1, hy2_2, hy2_3⟩ := open_agg4 Try.underlying26 (by kernel_rfl) (by kernel_rfl) (hval 2 26 v2 rfl rfl) h2
  obtain ⟨a2_0, e2_0, _, wf2_0⟩ := DataW.trod_int Try.underlying24 hy2_0
  obtain rfl := List.head_eq_of_cons_eq e2_0
  clear e2_0
  obtain ⟨a2_1, e2_1, _, wf2_1⟩ := DataW.trod_int Try.underlying24 hy2_1
  obtain rfl := List.head_eq_of_cons_eq e2_1
  clear e2_1
  obtain ⟨a2_2, e2_2, _, wf2_2⟩ := DataW.trod_int Try.underlying24 hy2_2
  obtain rfl := List.head_eq_of_cons_eq e2_2
  clear e2_2
  obtain ⟨A2_3, n2_3, cc2_3, e2_3⟩ := slice_form Try.underlying22 hy2_3
  obtain rfl := List.head_eq_of_cons_eq e2_3
  clear e2_3
  obtain ⟨z2_3, w2_3⟩ := row_of Try.underlying22 Try.underlying5 (by kernel_rfl) hy2_3
  obtain ⟨l2_3, rfl, hr2_3, hm2_3, hw2_3, hc2_3⟩ := ReadsInt.ofRowC w2_3
  clear hA0 hval0 hsz0
  obtain ⟨k, hk⟩ := Pure.UdpNone a0 a1 a2_0 a2_1 a2_2 l2_3 wf0 wf1 wf2_0 wf2_1 wf2_2 hm2_3 hw2_3
  refine (PA.lychlaw4_UdpNone.calls (k := k) (r := true) (w := W) (hr2_3 := Kd.C_of_reads (d := (0 : Int)) (h1 := fun _ => rfl) hr2_3) (hc2_3 := hc2_3) (h := hk)).mono fun e W' ⟨he, bel0⟩ => ?_
  have bel : Below W.heap.size W W' := by first | exact bel0 | exact bel0.below
  subst he
  exact ⟨_, rfl, _, _, _, [], _, [], hW', trodAll_mk1 (shut_bool Try.underlying4 _), (trodAll_cons_mk (shut_int Try.underlying40 wf0) (trodAll_cons_mk (shut_int Try.underlying40 wf1) (trodAll_cons_mk (Below.trod laidOut (by kernel_rfl) (of_decide_eq_true (by kernel_rfl)) k2 bel lt2) trodAll_mk0))), rfl, bel.frame _, fun h => by cases h⟩
theorem over : Rows.udpNoneRow.holds Try.pinned (OpenSpec.ofChange Rows.udpNoneSpec) :=
  OpenClaim.holds_of_wide 8 Try.f8 rfl rfl rfl rfl rfl rfl rfl ⟨rfl, rfl, rfl, rfl, rfl⟩ rfl rfl rfl rfl rfl (by kernel_rfl) Try.func8 (by kernel_rfl)
    (of_decide_eq_true (by kernel_rfl)) (by unfold Func.isWrapper; first | (rw [if_pos (by decide +kernel)]; kernel_rfl) | (rw [if_neg (by decide +kernel)]; exact ⟨rfl, rfl⟩))
    (fun os started H enc _ => lifted os started H enc)
theorem proved : Rows.UdpNoneSaid := over
#print axioms proved
end Go.Proofs.Ytnodigdpodiphaa.udpNone
namespace Go.Proofs.Ytnodigdpodiphaa
/-- The row, under a short name, for the claim. -/
theorem udpNone_holds : Rows.UdpNoneSaid := udpNone.proved
end Go.Proofs.Ytnodigdpodiphaa
