/- IpBack, the plain statement: for every input the printed law returns true. -/
import Derived.Test.YtmlmiiejifhfeaaPAx18
import Derived.Test.YtmlmiiejifhfeaaStatIpBack
import Derived.Test.YtmlmiiejifhfeaaPureIpsC
namespace Go.Proofs.Ytmlmiiejifhfeaa.Pure
set_option linter.unusedVariables false
set_option linter.unusedSimpArgs false
open Go.RowKit Go.Proofs.Ytmlmiiejifhfeaa.PA Go.Proofs.YtmlmiiejifhfeaaW.PrintWords Go.Proofs.YtmlmiiejifhfeaaW.PrintLast
open Go.Proofs.Ytmlmiiejifhfeaa.Spec Go.Proofs.Ytmlmiiejifhfeaa.BytesEq Go.Proofs.Ytmlmiiejifhfeaa.SumEq

theorem IpBack : IpBackPure := by
  intro a t pr i fl of_ s d o l m ha ht hp hi hf hg hs hd _ ho _ hl _ hm
  have ha := u8_wf ha
  have ht := u8_wf ht
  have hp := u8_wf hp
  have hi := u16_wf hi
  have hf := u8_wf hf
  have hg := u16_wf hg
  have hs := u32_wf hs
  have hd := u32_wf hd
  have ho := isB_wf ho
  have hl := isB_wf hl
  have hm := isB_wf hm
  obtain ⟨K, hK⟩ : ∃ K : Nat, 4000 ≤ K := ⟨4000, Nat.le_refl _⟩
  refine ⟨K + 2, ?_⟩
  unfold lychlaw3_IpBack.f
  rw [iknown (K + 2) (by omega), Option.bind_some, if_pos rfl]
  by_cases c1 : (l.length : Int) > 3000
  · rw [if_pos c1, lychlaw3_IpBack.j0, if_pos rfl]
  · rw [if_neg c1]
    by_cases c2 : (o.length : Int) > 200
    · rw [if_pos c2, lychlaw3_IpBack.j0, if_pos rfl]
    · rw [if_neg c2]
      by_cases c3 : (m.length : Int) > 100
      · rw [decide_eq_true c3, lychlaw3_IpBack.j0, if_pos rfl]
      · rw [decide_eq_false c3, lychlaw3_IpBack.j0, if_neg (by decide), ibytes_eq ha ht hp hf.1 hg.1 ho (by omega) (by omega) _ (by omega), Option.bind_some, ribytes_eq ha ht hp hf.1 hg.1 ho (by omega) (by omega) _ (by omega), Option.bind_some, if_pos rfl, bytes_refl, Option.bind_some, lychlaw3_IpBack.j1, if_neg (by decide)]
        rcases iout_cases a t pr i fl of_ s d o l with ⟨he, x1, x2, x3, x4, x5⟩ | he | he
        · rw [he]
          dsimp only
          have hB := (ibytes_isB (i := i) (fl := fl) (of_ := of_) (s := s) (d := d) ha ht hp ho hl x2).append hm
          have hL : (ibytes a t pr i fl of_ s d o l ++ m).length = 20 + o.length + l.length + m.length := by rw [List.length_append, ibytes_length]
          rw [if_pos rfl, if_pos (by rw [ibytes_length]; omega), iparse_eq hB (by rw [hL]; omega) K (by rw [hL]; omega), Option.bind_some, iseg_bytes ha ht hp hi ⟨hf.1, x3⟩ ⟨hg.1, x4⟩ hs hd ho x2 x1 x5 m]
          dsimp only
          rw [if_pos rfl, ip_refl, Option.bind_some]
        · rw [he, if_neg (by decide)]
        · rw [he, if_neg (by decide)]
end Go.Proofs.Ytmlmiiejifhfeaa.Pure
