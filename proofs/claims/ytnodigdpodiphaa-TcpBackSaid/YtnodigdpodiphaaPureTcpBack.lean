/- TcpBack, the plain statement: for every input the printed law returns true. -/
import Derived.Test.YtnodigdpodiphaaPAx21
import Derived.Test.YtnodigdpodiphaaStatTcpBack
import Derived.Test.YtnodigdpodiphaaPureTcpsC
namespace Go.Proofs.Ytnodigdpodiphaa.Pure
set_option linter.unusedVariables false
set_option linter.unusedSimpArgs false
open Go.RowKit Go.Proofs.Ytnodigdpodiphaa.PA Go.Proofs.YtnodigdpodiphaaW.PrintWords Go.Proofs.YtnodigdpodiphaaW.PrintLast
open Go.Proofs.Ytnodigdpodiphaa.Spec Go.Proofs.Ytnodigdpodiphaa.BytesEq

theorem TcpBack : TcpBackPure := by
  intro s d q a f w c u o l hs hd hq ha hf hw hc hu _ ho _ hl
  have hs := u16_wf hs
  have hd := u16_wf hd
  have hq := u32_wf hq
  have ha := u32_wf ha
  have hf := u8_wf hf
  have hw := u16_wf hw
  have hc := u16_wf hc
  have hu := u16_wf hu
  have ho := isB_wf ho
  have hl := isB_wf hl
  obtain ⟨K, hK⟩ : ∃ K : Nat, 4000 ≤ K := ⟨4000, Nat.le_refl _⟩
  refine ⟨K + 2, ?_⟩
  unfold lychlaw5_TcpBack.f
  rw [tknown (K + 2) (by omega), Option.bind_some, if_pos rfl]
  by_cases c1 : (l.length : Int) > 3000
  · rw [if_pos c1, lychlaw5_TcpBack.j0, if_pos rfl]
  · rw [if_neg c1]
    by_cases c2 : (o.length : Int) > 200
    · rw [decide_eq_true c2, lychlaw5_TcpBack.j0, if_pos rfl]
    · rw [decide_eq_false c2, lychlaw5_TcpBack.j0, if_neg (by decide), tbytes_eq (by omega) (by omega) _ (by omega), Option.bind_some, rtbytes_eq (by omega) (by omega) _ (by omega), Option.bind_some, if_pos rfl, bytes_refl, Option.bind_some, if_pos rfl, lychlaw5_TcpBack.j1]
      by_cases c3 : (o.length : Int) % 4 ≠ 0 ∨ (o.length : Int) > 40
      · have ht : tout s d q a f w c u o l = ([], 21) := by unfold tout; rw [if_pos c3]
        rw [ht]; rfl
      · have c3a : (o.length : Int) % 4 = 0 := by omega
        have c3b : (o.length : Int) ≤ 40 := by omega
        have ht : tout s d q a f w c u o l = (tbytes s d q a f w c u o l, 0) := by unfold tout; rw [if_neg c3, if_neg (by omega)]
        rw [ht]
        dsimp only
        rw [if_neg (by decide), tparse_eq (l := tbytes s d q a f w c u o l) (IsB.append (thead_isB hf) (ho.append hl)) (by unfold tbytes; rw [List.length_append, List.length_append, thead_length]; omega), Option.bind_some, tseg_tbytes hs hd hq ha hw hc hu c3a c3b]
        dsimp only
        rw [if_pos rfl, tcp_refl]
        rfl
end Go.Proofs.Ytnodigdpodiphaa.Pure
