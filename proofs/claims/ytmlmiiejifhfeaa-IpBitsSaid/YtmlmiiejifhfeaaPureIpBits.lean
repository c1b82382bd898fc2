/- IpBits, the plain statement: for every input the printed law returns true. -/
import Derived.Test.YtmlmiiejifhfeaaPAx20
import Derived.Test.YtmlmiiejifhfeaaStatIpBits
import Derived.Test.YtmlmiiejifhfeaaPureIpsC
namespace Go.Proofs.Ytmlmiiejifhfeaa.Pure
set_option linter.unusedVariables false
set_option linter.unusedSimpArgs false
open Go.RowKit Go.Proofs.Ytmlmiiejifhfeaa.PA Go.Proofs.YtmlmiiejifhfeaaW.PrintWords Go.Proofs.YtmlmiiejifhfeaaW.PrintLast
open Go.Proofs.Ytmlmiiejifhfeaa.Spec Go.Proofs.Ytmlmiiejifhfeaa.BytesEq Go.Proofs.Ytmlmiiejifhfeaa.SumEq

theorem IpBits : IpBitsPure := by
  intro a t pr i fl of_ s d o l p b ha ht hp hi hf hg hs hd _ ho _ hl hpw hbw
  have ha := u8_wf ha
  have ht := u8_wf ht
  have hp := u8_wf hp
  have hi := u16_wf hi
  have hf := u8_wf hf
  have hg := u16_wf hg
  have hs := u32_wf hs
  have hd := u32_wf hd
  have ho := isB_wf ho
  have hl := isB_wf hl
  have hpw := i64_wf hpw
  have hbw := u8_wf hbw
  obtain ⟨K, hK⟩ : ∃ K : Nat, 4000 ≤ K := ⟨4000, Nat.le_refl _⟩
  refine ⟨K + 1, ?_⟩
  unfold lychlaw3_IpBits.f
  rw [iknown (K + 1) (by omega), Option.bind_some, if_pos rfl]
  by_cases c1 : (l.length : Int) > 500
  · rw [if_pos c1, lychlaw3_IpBits.j0, if_pos rfl]
  · rw [if_neg c1]
    by_cases c2 : (o.length : Int) > 40
    · rw [decide_eq_true c2, lychlaw3_IpBits.j0, if_pos rfl]
    · rw [decide_eq_false c2, lychlaw3_IpBits.j0, if_neg (by decide), ibytes_eq ha ht hp hf.1 hg.1 ho (by omega) (by omega) _ (by omega), Option.bind_some]
      rcases iout_cases a t pr i fl of_ s d o l with ⟨he, x1, x2, x3, x4, x5⟩ | he | he
      · rw [he]
        dsimp only
        have w1 : wrap64 (20 + (o.length : Int)) = 20 + (o.length : Int) := wrap64_id (by omega) (by omega)
        obtain ⟨q, hq, hq5⟩ := place_eq p (20 + (o.length : Int)) (by omega) (by omega) hpw
        have hB := ibytes_isB (i := i) (fl := fl) (of_ := of_) (s := s) (d := d) ha ht hp ho hl x2
        have hL := ibytes_length (a := a) (t := t) (pr := pr) (i := i) (fl := fl) (of_ := of_) (s := s) (d := d) (o := o) (l := l)
        have hsum := ihd_sum (i := i) (fl := fl) (of_ := of_) (s := s) (d := d) (l := l) ha ht hp ho x2
        have hhead : ihead (ibytes a t pr i fl of_ s d o l) = 20 + (o.length : Int) := by
          unfold ibytes
          rw [List.append_assoc]
          exact ihead_bytes _ _ x2 x1
        have hiso : isumof (ibytes a t pr i fl of_ s d o l) = 65535 := by
          unfold isumof
          rw [hhead]
          have t1 : (20 + (o.length : Int)).toNat = (ihd a t pr i fl of_ s d o l (ick a t pr i fl of_ s d o l) ++ o).length := by rw [List.length_append, ihd_length]; omega
          unfold ibytes
          rw [t1, List.take_left]
          exact hsum
        have hm : 0 ≤ b % 8 ∧ b % 8 ≤ 7 := by omega
        have em : Int.tmod b 8 = b % 8 := Int.tmod_eq_emod_of_nonneg hbw.1
        have hfl := flip_eq (hB.getD q) hm
        have er : rd (ibytes a t pr i fl of_ s d o l) (q : Int) = (ibytes a t pr i fl of_ s d o l).getD q 0 := rd_nat _ _ q rfl
        rw [if_pos rfl, w1, hq, Option.bind_some, if_pos (by omega), if_pos (by rw [hL]; omega), em, if_pos hm.1, Option.bind_some, er, Int.toNat_natCast]
        obtain ⟨v, hv⟩ : ∃ v, v = Go.bits .xor .u8 ((ibytes a t pr i fl of_ s d o l).getD q 0) (shl .u8 1 (b % 8)) := ⟨_, rfl⟩
        rw [← hv] at hfl ⊢
        clear hv
        have hB2 := hB.set q hfl.1
        obtain ⟨S, f1, f2, fS⟩ := both hB2 (by rw [List.length_set, hL]; omega) K (by rw [List.length_set, hL]; omega)
        rw [f1, Option.bind_some, f2, Option.bind_some, if_pos rfl]
        by_cases c0 : S.2.2.2.2.2.2.2.2.2.2 = 0
        · have hz : (q : Int) = 0 := by
            refine Decidable.byContradiction fun hne => ?_
            have := iseg_flip hB hiso (by rw [hhead, hL]; omega) q (by omega) (by rw [hhead]; exact hq5) hfl.1 hfl.2
            rw [← fS] at this
            exact this c0
          rw [if_pos c0, if_pos hz, ip_refl, Option.bind_some]
        · rw [if_neg c0, ip_refl, Option.bind_some]
      · rw [he, if_neg (by decide)]
      · rw [he, if_neg (by decide)]
end Go.Proofs.Ytmlmiiejifhfeaa.Pure
