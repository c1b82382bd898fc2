/- IpCut, the plain statement: for every input the printed law returns true. -/
import Derived.Test.YtmlmiiejifhfeaaPAx30
import Derived.Test.YtmlmiiejifhfeaaStatIpCut
import Derived.Test.YtmlmiiejifhfeaaPureIpsC
namespace Go.Proofs.Ytmlmiiejifhfeaa.Pure
set_option linter.unusedVariables false
set_option linter.unusedSimpArgs false
open Go.RowKit Go.Proofs.Ytmlmiiejifhfeaa.PA Go.Proofs.YtmlmiiejifhfeaaW.PrintWords Go.Proofs.YtmlmiiejifhfeaaW.PrintLast
open Go.Proofs.Ytmlmiiejifhfeaa.Spec Go.Proofs.Ytmlmiiejifhfeaa.BytesEq Go.Proofs.Ytmlmiiejifhfeaa.SumEq

theorem IpCut : IpCutPure := by
  intro a t pr i fl of_ s d o l p m ha ht hp hi hf hg hs hd _ ho _ hl hpw _ hm
  have ha := u8_wf ha
  have ht := u8_wf ht
  have hp := u8_wf hp
  have hi := u16_wf hi
  have hf := u8_wf hf
  have hg := u16_wf hg
  have hs := u32_wf hs
  have hd := u32_wf hd
  have ho := isB_wf ho
  have hl := isB_wf hl
  have hm := isB_wf hm
  have hpw := i64_wf hpw
  obtain ⟨K, hK⟩ : ∃ K : Nat, 4000 ≤ K := ⟨4000, Nat.le_refl _⟩
  refine ⟨K + 1, ?_⟩
  unfold lychlaw3_IpCut.f
  rw [iknown (K + 1) (by omega), Option.bind_some, if_pos rfl]
  by_cases c1 : (l.length : Int) > 500
  · rw [if_pos c1, lychlaw3_IpCut.j0, if_pos rfl]
  · rw [if_neg c1]
    by_cases c2 : (m.length : Int) > 500
    · rw [decide_eq_true c2, lychlaw3_IpCut.j0, if_pos rfl]
    · rw [decide_eq_false c2, lychlaw3_IpCut.j0, if_neg (by decide)]
      by_cases c3 : (o.length : Int) > 40
      · rw [ibytes_long c3 K (by omega), Option.bind_some, if_neg (by decide)]
      · rw [ibytes_eq ha ht hp hf.1 hg.1 ho (by omega) (by omega) _ (by omega), Option.bind_some]
        rcases iout_cases a t pr i fl of_ s d o l with ⟨he, x1, x2, x3, x4, x5⟩ | he | he
        · rw [he]
          dsimp only
          have hB := ibytes_isB (i := i) (fl := fl) (of_ := of_) (s := s) (d := d) ha ht hp ho hl x2
          have hL := ibytes_length (a := a) (t := t) (pr := pr) (i := i) (fl := fl) (of_ := of_) (s := s) (d := d) (o := o) (l := l)
          have hseg := iseg_bytes (l := l) ha ht hp hi ⟨hf.1, x3⟩ ⟨hg.1, x4⟩ hs hd ho x2 x1 x5 m
          have hhead : ihead (ibytes a t pr i fl of_ s d o l) = 20 + (o.length : Int) := by
            unfold ibytes
            rw [List.append_assoc]
            exact ihead_bytes _ _ x2 x1
          have hg2 : g16 (ibytes a t pr i fl of_ s d o l) 2 = 20 + (o.length : Int) + (l.length : Int) := by
            unfold ibytes
            rw [List.append_assoc]
            exact g2_bytes _ _ x5
          have h0 : (ibytes a t pr i fl of_ s d o l).getD 0 0 = 64 + (20 + (o.length : Int)) / 4 := rfl
          obtain ⟨y, hy⟩ : ∃ y, y = ibytes a t pr i fl of_ s d o l := ⟨_, rfl⟩
          rw [← hy] at hB hL hseg hhead hg2 h0 ⊢
          clear hy
          obtain ⟨q, hq, hq5⟩ := place_eq p (y.length : Int) (by omega) (by omega) hpw
          have hcode := iseg_cut (l := y) (by rw [h0]; omega) (by omega) (by omega) (by rw [hg2, hL]; omega) q (by omega)
          have hL2 : (y ++ m).length = 20 + o.length + l.length + m.length := by rw [List.length_append, hL]
          rw [if_pos rfl, hq, Option.bind_some, if_pos (by omega), if_pos (by omega), Int.toNat_natCast, iparse_eq (hB.take q) (by rw [List.length_take]; omega) K (by rw [List.length_take]; omega), Option.bind_some, if_pos (by rw [List.length_nil]; omega), Option.bind_some, List.nil_append, if_pos (by omega), iparse_eq (hB.append hm) (by rw [hL2]; omega) K (by rw [hL2]; omega), Option.bind_some, if_pos hcode, hseg]
          dsimp only
          rw [if_pos rfl, ip_refl, Option.bind_some]
        · rw [he, if_neg (by decide)]
        · rw [he, if_neg (by decide)]
end Go.Proofs.Ytmlmiiejifhfeaa.Pure
