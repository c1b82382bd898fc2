/- EthBack: for every input that the statement speaks of, the Go function returns true, and each argument reads as before. -/
import Derived.Test.YtnfgmcjgmccggaaAggEth
import Derived.Test.YtnfgmcjgmccggaaRows
import Derived.Test.YtnfgmcjgmccggaaPAx13
import Derived.Test.YtnfgmcjgmccggaaStatEthBack
import Derived.Test.YtnfgmcjgmccggaaPureEthBack
import Derived.Test.YtnfgmcjgmccggaaAggWords
import Derived.WalkKit
import Derived.ProofKit
import Derived.OpenShut
import Derived.ShutString
import Derived.ChangeOld
import Derived.Below
import Derived.SizedLaws
import Derived.Lib.SmallJoins
namespace Go.Proofs.Ytnfgmcjgmccggaa.ethBack
open Go.ChangeShapes Go.WideShapes Go.ChangeAt Go.RowKit Go.Joins Go.Proofs.YtnfgmcjgmccggaaW.PrintWords Go.Proofs.YtnfgmcjgmccggaaW.AggWords
open Go.ChangeMaps (open_string shut_string)
set_option linter.unusedVariables false
set_option linter.unusedSimpArgs false
theorem own : ownKnob Try.prog.godebug = none := by kernel_rfl
theorem laidOut : laidOutB Try.prog = true := by kernel_rfl
set_option maxRecDepth 100000 in
theorem lifted (os : Os) (started : os.Started) (H : Type) (enc : TypeId × Value → H) :
    ReturnsInHanded {} Try.checked os 4 .any (Rows.ethBackSpec.pre6 enc Try.prog Try.f4 Rows.ethBackRow.domain false) (Rows.ethBackSpec.post enc Try.prog Try.f4 false true false false) := by
  refine returnsInHanded_of_change_sized (C := Try.checked) own started (by kernel_rfl) Try.func4
    (ChangeSpec.witness6 (enc := enc) (C := Try.checked) false ⟨#[], #[.agg #[.int .u8 0, .int .u8 0, .int .u8 0, .int .u8 0, .int .u8 0, .int .u8 0, .int .u8 0, .int .u8 0, .int .u8 0, .int .u8 0, .int .u8 0, .int .u8 0, .int .u16 0, .slice none 0 0], .int .u16 0], []⟩ 8 (by kernel_rfl) (by kernel_rfl) (by kernel_rfl) (by kernel_rfl)) ?_
  intro W base args ds gs before hval0 hW hcnd hsz0 _
  have hval : ∀ (j : Nat) t v, Try.f4.params[j]? = some t → args[j]? = some v → Value.okWide Try.prog W .any base t v := hval0
  have hW' := hW
  obtain ⟨p, q, hA0, hV, rfl, hfz, hnd⟩ := hW
  have hA : DataW.TrodAll enc Try.prog W 0 (fun _ => true) true Try.f4.params.toList args.toList ds p := hA0
  rw [Try.params4] at hA hval
  obtain ⟨v0, vs0, d0, ds0, p0, q0, hargs, rfl, rfl, h0, r0⟩ := trodAll_cons hA
  obtain ⟨v1, vs1, d1, ds1, p1, q1, rfl, rfl, rfl, h1, r1⟩ := trodAll_cons r0
  obtain ⟨rfl, rfl, rfl⟩ := trodAll_nil r1
  obtain rfl : args = #[v0, v1] := by cases args; simp_all
  obtain ⟨rfl, rfl⟩ := trodVars_none hV
  have k0 := h0
  have lt0 : ∀ x ∈ p0, x.block < W.heap.size := by obtain ⟨m, hm⟩ := k0; exact DataW.trod_lt m _ _ _ hm
  obtain ⟨a0_0, a0_1, a0_2, a0_3, a0_4, a0_5, a0_6, a0_7, a0_8, a0_9, a0_10, a0_11, a0_12, c0_13, y0_13, f0, rfl, ⟨wf0_0, wf0_1, wf0_2, wf0_3, wf0_4, wf0_5⟩, ⟨wf0_6, wf0_7, wf0_8, wf0_9, wf0_10, wf0_11⟩, wf0_12, hy0_13⟩ := open_eth Try.underlying28 (by kernel_rfl) (by kernel_rfl) (by kernel_rfl) Try.underlying26 Try.underlying26 Try.underlying5 (by kernel_rfl) Try.underlying23 (hval 0 28 v0 rfl rfl) h0
  obtain ⟨A0_13, n0_13, cc0_13, e0_13⟩ := slice_form Try.underlying22 hy0_13
  obtain rfl := List.head_eq_of_cons_eq e0_13
  clear e0_13
  obtain ⟨z0_13, w0_13⟩ := row_of Try.underlying22 Try.underlying5 (by kernel_rfl) hy0_13
  obtain ⟨l0_13, rfl, hr0_13, hm0_13, hw0_13, hc0_13⟩ := ReadsInt.ofRowC w0_13
  obtain ⟨a1, rfl, rfl, rfl, wf1⟩ := open_int Try.underlying23 (hval 1 23 v1 rfl rfl) h1
  clear hA0 hval0 hsz0
  obtain ⟨k, hk⟩ := Pure.EthBack a0_0 a0_1 a0_2 a0_3 a0_4 a0_5 a0_6 a0_7 a0_8 a0_9 a0_10 a0_11 a0_12 l0_13 a1 wf0_0 wf0_1 wf0_2 wf0_3 wf0_4 wf0_5 wf0_6 wf0_7 wf0_8 wf0_9 wf0_10 wf0_11 wf0_12 hm0_13 hw0_13 wf1
  refine (PA.lychlaw2_EthBack.calls (k := k) (r := true) (w := W) (hr0_13 := Kd.C_of_reads (d := (0 : Int)) (h1 := fun _ => rfl) hr0_13) (hc0_13 := hc0_13) (h := hk)).mono fun e W' ⟨he, bel0⟩ => ?_
  have bel : Below W.heap.size W W' := by first | exact bel0 | exact bel0.below
  subst he
  exact ⟨_, rfl, _, _, _, [], _, [], hW', trodAll_mk1 (shut_bool Try.underlying4 _), (trodAll_cons_mk (Below.trod laidOut (by kernel_rfl) (of_decide_eq_true (by kernel_rfl)) k0 bel lt0) (trodAll_cons_mk (shut_int Try.underlying23 wf1) trodAll_mk0)), rfl, bel.frame _, fun h => by cases h⟩
theorem over : Rows.ethBackRow.holds Try.pinned (OpenSpec.ofChange Rows.ethBackSpec) :=
  OpenClaim.holds_of_wide 4 Try.f4 rfl rfl rfl rfl rfl rfl rfl ⟨rfl, rfl, rfl, rfl, rfl⟩ rfl rfl rfl rfl rfl (by kernel_rfl) Try.func4 (by kernel_rfl)
    (of_decide_eq_true (by kernel_rfl)) (by unfold Func.isWrapper; first | (rw [if_pos (by decide +kernel)]; kernel_rfl) | (rw [if_neg (by decide +kernel)]; exact ⟨rfl, rfl⟩))
    (fun os started H enc _ => lifted os started H enc)
theorem proved : Rows.EthBackSaid := over
#print axioms proved
end Go.Proofs.Ytnfgmcjgmccggaa.ethBack
namespace Go.Proofs.Ytnfgmcjgmccggaa
/-- The row, under a short name, for the claim. -/
theorem ethBack_holds : Rows.EthBackSaid := ethBack.proved
end Go.Proofs.Ytnfgmcjgmccggaa
