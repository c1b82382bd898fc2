/- SumChanges, SumStands, SumParts, SumOdd, SumSwaps, the plain statements: for all bytes, places, words and starts the printed laws return true. -/
import Derived.Test.YtfkbjfbbpbcdaaaPAx4
import Derived.Test.YtfkbjfbbpbcdaaaPAx5
import Derived.Test.YtfkbjfbbpbcdaaaPAx6
import Derived.Test.YtfkbjfbbpbcdaaaSumEq
import Derived.Test.YtfkbjfbbpbcdaaaSpecSum
namespace Go.Proofs.Ytfkbjfbbpbcdaaa.Pure
set_option linter.unusedVariables false
set_option linter.unusedSimpArgs false
open Go.RowKit Go.Proofs.Ytfkbjfbbpbcdaaa.PA Go.Proofs.YtfkbjfbbpbcdaaaW.PrintWords Go.Proofs.YtfkbjfbbpbcdaaaW.PrintLast
open Go.Proofs.Ytfkbjfbbpbcdaaa.Spec Go.Proofs.Ytfkbjfbbpbcdaaa.SumEq

theorem place_eq (a n : Int) (hn : 0 < n) (hn2 : n ≤ 1000000000) (ha : -9223372036854775808 ≤ a ∧ a ≤ 9223372036854775807) : ∃ r : Nat, lychhelp_Place.f a n = some (r : Int) ∧ (r : Int) < n := by
  unfold lychhelp_Place.f
  rw [if_neg (by omega)]
  by_cases h : 0 ≤ a
  · have e := Int.tmod_eq_emod_of_nonneg (a := a) (b := n) h
    have h1 := Int.emod_nonneg a (show n ≠ 0 by omega)
    have h2 := Int.emod_lt_of_pos a hn
    rw [e, if_neg (by omega)]
    exact ⟨(a % n).toNat, by congr 1; omega, by omega⟩
  · have e : Int.tmod a n = -((-a) % n) := by
      have := Int.neg_tmod (a := -a) (b := n)
      rw [Int.neg_neg] at this
      rw [this, Int.tmod_eq_emod_of_nonneg (by omega)]
    have h1 := Int.emod_nonneg (-a) (show n ≠ 0 by omega)
    have h2 := Int.emod_lt_of_pos (-a) hn
    rw [e]
    by_cases h3 : -((-a) % n) < 0
    · rw [if_pos h3, wrap64_id (by omega) (by omega)]
      exact ⟨(-((-a) % n) + n).toNat, by congr 1; omega, by omega⟩
    · rw [if_neg h3]
      exact ⟨(-((-a) % n)).toNat, by congr 1; omega, by omega⟩
theorem same_eq {a b : Int} (h : Same a b) : lychlaw1_same.f a b = some true := by
  unfold lychlaw1_same.f
  rcases h with rfl | ⟨rfl, rfl⟩ | ⟨rfl, rfl⟩
  · rw [if_pos rfl]
  · rfl
  · rfl
theorem w2 {t : Nat} (h : t ≤ 1000000) : wrap64 (2 * (t : Int)) = ((2 * t : Nat) : Int) := by rw [wrap64_id (by omega) (by omega)]; omega
theorem w21 {t : Nat} (h : t ≤ 1000000) : wrap64 (((2 * t : Nat) : Int) + 1) = ((2 * t + 1 : Nat) : Int) := by rw [wrap64_id (by omega) (by omega)]; omega
theorem word_bits {l : List Int} (hb : IsB l) (t : Nat) :
    Go.bits .or .u16 (IntKind.u16.wrap ((IntKind.u16.wrap (rd l ((2 * t : Nat) : Int))) * 256)) (IntKind.u16.wrap (rd l ((2 * t + 1 : Nat) : Int))) = wordAt l t := by
  have h1 := hb.getD (2 * t)
  have h2 := hb.getD (2 * t + 1)
  rw [rd_at l _ (2 * t) rfl, rd_at l _ (2 * t + 1) rfl, u16w (n := l.getD (2 * t) 0) (by omega) (by omega), u16w (n := l.getD (2 * t) 0 * 256) (by omega) (by omega), u16w (n := l.getD (2 * t + 1) 0) (by omega) (by omega), join16 h1 h2]
  rfl
theorem ck_norm {l : List Int} (hb : IsB l) : 65535 - ck l = norm (isum (words l)) := by unfold ck; omega

theorem SumChanges : lychlaw1_SumChanges.Pure := by
  intro l at_ now _ hl hb hat hnow
  have hb := isB_of hb
  have hat := wf_i64 hat
  have hnow := wf_u16 hnow
  obtain ⟨K, hK⟩ : ∃ K : Nat, 4000 ≤ K := ⟨4000, Nat.le_refl _⟩
  refine ⟨K + 1, ?_⟩
  have e : lychlaw1_SumChanges.j0 (K + 1) l at_ now (decide ((l.length : Int) > 2000 ∨ (l.length : Int) < 2)) = some true := by
    simp only [lychlaw1_SumChanges.j0]
    by_cases hc : (l.length : Int) > 2000 ∨ (l.length : Int) < 2
    · rw [if_pos (decide_eq_true hc)]
    · rw [if_neg (by simp [hc])]
      obtain ⟨t, ht, htl⟩ := place_eq at_ ((l.length : Int) / 2) (by omega) (by omega) hat
      rw [wrap64_id (n := (l.length : Int) / 2) (by omega) (by omega), ht]
      simp only [Option.bind_some, List.nil_append, List.length_nil, Nat.zero_add]
      rw [w2 (by omega), w21 (by omega), if_pos (by omega), if_pos (by omega), if_pos (by omega), if_pos (by omega), if_pos (by omega), if_pos (by omega), if_pos (by omega)]
      rw [word_bits hb t, Int.toNat_natCast, Int.toNat_natCast]
      have hw := wordAt_range hb t
      have hwl := words_length l
      have hS := isum_ge (words l) t (words_isW l hb)
      rw [wordAt_eq l t (by omega)] at hS
      have hbc : IsB ((l.set (2 * t) (now / 256 % 256)).set (2 * t + 1) (now % 256)) := (hb.set _ (by omega)).set _ (by omega)
      have hlc : ((l.set (2 * t) (now / 256 % 256)).set (2 * t + 1) (now % 256)).length = l.length := by simp
      have hck := ck_range l hb
      rw [of_eq l hb (by omega) K (by omega) (by omega), of_eq _ hbc (by omega) K (by omega) (by omega)]
      simp only [Option.bind_some]
      have hnS := isum_nonneg _ (words_isW l hb)
      have hS' := isum_change l t (now / 256 % 256) (now % 256) (by omega)
      rw [show now / 256 % 256 * 256 + now % 256 = now from by omega] at hS'
      have hn1 := norm_range (isum (words l)) hnS
      have eg : 65535 - norm (65535 - ck l + (65535 - wordAt l t) + now) = 65535 - norm (isum (words ((l.set (2 * t) (now / 256 % 256)).set (2 * t + 1) (now % 256))) + 65535) := by
        rw [ck_norm hb, Int.add_assoc, norm_add_norm hnS (by omega), hS']
        congr 2; omega
      have hS2 := isum_nonneg _ (words_isW _ hbc)
      have hn2 := norm_range (isum (words ((l.set (2 * t) (now / 256 % 256)).set (2 * t + 1) (now % 256))) + 65535) (by omega)
      rw [update_eq _ _ _ hck hw hnow K (by omega), rupdate_eq _ _ _ hck hw hnow K (by omega), eg]
      simp only [Option.bind_some]
      rw [update_eq _ _ _ (by omega) hnow hw K (by omega)]
      simp only [Option.bind_some, if_true]
      have hs1 : Same (65535 - norm (isum (words ((l.set (2 * t) (now / 256 % 256)).set (2 * t + 1) (now % 256))) + 65535)) (ck ((l.set (2 * t) (now / 256 % 256)).set (2 * t + 1) (now % 256))) := same_up hS2 (.inl rfl)
      have hs2 : Same (65535 - norm (isum (words l) + 131070)) (ck l) := same_up hnS (.inr rfl)
      rw [same_eq hs1]
      simp only [Option.bind_some, if_true]
      have eb : 65535 - norm (65535 - (65535 - norm (isum (words ((l.set (2 * t) (now / 256 % 256)).set (2 * t + 1) (now % 256))) + 65535)) + (65535 - now) + wordAt l t) = 65535 - norm (isum (words l) + 131070) := by
        rw [show ∀ x : Int, 65535 - (65535 - x) = x from fun x => by omega, Int.add_assoc, norm_add_norm (by omega) (by omega), hS']
        congr 2; omega
      rw [eb, same_eq hs2]
      rfl
  unfold lychlaw1_SumChanges.f
  rw [known_eq (K + 1) (by omega)]
  simp only [Option.bind_some, if_true]
  by_cases h1 : (l.length : Int) > 2000
  · rw [if_pos h1]; rw [← e]; congr 1; simp [h1]
  · rw [if_neg h1]; rw [← e]; congr 1; simp [h1]

theorem SumStands : lychlaw1_SumStands.Pure := by
  intro l at_ _ hl hb hat
  have hb := isB_of hb
  have hat := wf_i64 hat
  obtain ⟨K, hK⟩ : ∃ K : Nat, 4000 ≤ K := ⟨4000, Nat.le_refl _⟩
  refine ⟨K + 1, ?_⟩
  have e : lychlaw1_SumStands.j0 (K + 1) l at_ (decide ((l.length : Int) > 2000 ∨ (l.length : Int) < 2)) = some true := by
    simp only [lychlaw1_SumStands.j0]
    by_cases hc : (l.length : Int) > 2000 ∨ (l.length : Int) < 2
    · rw [if_pos (decide_eq_true hc)]
    · rw [if_neg (by simp [hc])]
      obtain ⟨t, ht, htl⟩ := place_eq at_ ((l.length : Int) / 2) (by omega) (by omega) hat
      rw [wrap64_id (n := (l.length : Int) / 2) (by omega) (by omega), ht]
      simp only [Option.bind_some, List.nil_append, List.length_nil, Nat.zero_add]
      rw [w2 (by omega), w21 (by omega), if_pos (by omega), if_pos (by omega), if_pos (by omega), if_pos (by omega), if_pos (by omega), Int.toNat_natCast, Int.toNat_natCast]
      obtain ⟨z, hz⟩ : ∃ z, z = (l.set (2 * t) 0).set (2 * t + 1) 0 := ⟨_, rfl⟩
      rw [← hz]
      have hbz : IsB z := hz ▸ (hb.set _ (by omega)).set _ (by omega)
      have hlz : z.length = l.length := by rw [hz]; simp
      rw [of_eq z hbz (by omega) K (by omega) (by omega)]
      simp only [Option.bind_some]
      have hck := ck_range z hbz
      have hwz : wordAt z t = 0 := by
        unfold wordAt
        rw [hz]
        simp [List.getD_eq_getElem?_getD, List.getElem?_set, show 2 * t + 1 < l.length from by omega, show 2 * t < l.length from by omega]
      have hS' := isum_change z t (ck z / 256 % 256) (ck z % 256) (by omega)
      rw [show ck z / 256 % 256 * 256 + ck z % 256 = ck z from by omega, hwz, Int.sub_zero] at hS'
      have hbc : IsB ((z.set (2 * t) (ck z / 256 % 256)).set (2 * t + 1) (ck z % 256)) := (hbz.set _ (by omega)).set _ (by omega)
      have hlc : ((z.set (2 * t) (ck z / 256 % 256)).set (2 * t + 1) (ck z % 256)).length = l.length := by simp [hlz]
      have hr := addw_range (words ((z.set (2 * t) (ck z / 256 % 256)).set (2 * t + 1) (ck z % 256))) 0 (by omega) (by omega) (words_isW _ hbc)
      have hn := norm_addw (words ((z.set (2 * t) (ck z / 256 % 256)).set (2 * t + 1) (ck z % 256))) 0 (by omega) (by omega) (words_isW _ hbc)
      rw [add_eq 0 _ hbc (by omega) (by omega) (by omega) K (by omega)]
      simp only [Option.bind_some]
      rw [fold_eq _ hr.1 hr.2 K (by omega), hn, Int.zero_add, hS']
      simp only [Option.bind_some]
      have := stands (isum_nonneg _ (words_isW z hbz))
      rw [show ck z = 65535 - norm (isum (words z)) from rfl, this]
      rfl
  unfold lychlaw1_SumStands.f
  rw [known_eq (K + 1) (by omega)]
  simp only [Option.bind_some, if_true]
  by_cases h1 : (l.length : Int) > 2000
  · rw [if_pos h1]; rw [← e]; congr 1; simp [h1]
  · rw [if_neg h1]; rw [← e]; congr 1; simp [h1]

theorem SumParts : lychlaw1_SumParts.Pure := by
  intro a b s _ hla hba _ hlb hbb hs
  have ha := isB_of hba
  have hb := isB_of hbb
  have hs := wf_u32 hs
  obtain ⟨K, hK⟩ : ∃ K : Nat, 4000 ≤ K := ⟨4000, Nat.le_refl _⟩
  refine ⟨K + 1, ?_⟩
  have e : lychlaw1_SumParts.j0 (K + 1) a b s (decide ((a.length : Int) > 1000 ∨ (b.length : Int) > 1000 ∨ ((a.length : Int) % 2) ≠ 0)) = some true := by
    simp only [lychlaw1_SumParts.j0]
    by_cases hc : (a.length : Int) > 1000 ∨ (b.length : Int) > 1000 ∨ ((a.length : Int) % 2) ≠ 0
    · rw [if_pos (decide_eq_true hc)]
    · rw [if_neg (by simp only [decide_eq_true_eq]; exact hc)]
      have hlen : (a ++ b).length = a.length + b.length := List.length_append
      simp only [Option.bind_some, List.nil_append, List.length_nil, Nat.zero_add]
      have hab := ha.append hb
      have hwa := words_append a b (by omega)
      have hr1 := addw_range (words a) s hs.1 hs.2 (words_isW a ha)
      have hr2 := addw_range (words b) 0 (by omega) (by omega) (words_isW b hb)
      have hr3 := addw_range (words a) (addw 0 (words b)) hr2.1 hr2.2 (words_isW a ha)
      have hr4 := addw_range (words (a ++ b)) 0 (by omega) (by omega) (words_isW _ hab)
      rw [if_pos (by omega), if_pos (by omega), add_eq s _ hab (by omega) hs.1 hs.2 K (by omega), add_eq s a ha (by omega) hs.1 hs.2 K (by omega)]
      simp only [Option.bind_some]
      rw [add_eq _ b hb (by omega) hr1.1 hr1.2 K (by omega), hwa, addw_append]
      simp only [Option.bind_some, if_true]
      rw [add_eq 0 b hb (by omega) (by omega) (by omega) K (by omega)]
      simp only [Option.bind_some]
      rw [add_eq _ a ha (by omega) hr2.1 hr2.2 K (by omega)]
      simp only [Option.bind_some]
      rw [fold_eq _ hr3.1 hr3.2 K (by omega), add_eq 0 _ hab (by omega) (by omega) (by omega) K (by omega)]
      simp only [Option.bind_some]
      rw [fold_eq _ hr4.1 hr4.2 K (by omega)]
      simp only [Option.bind_some]
      have n1 := norm_addw (words a) (addw 0 (words b)) hr2.1 hr2.2 (words_isW a ha)
      have n2 := addw_norm (words b) 0 (isum (words a)) (by omega) (by omega) (words_isW b hb) (isum_nonneg _ (words_isW a ha))
      have n3 := norm_addw (words (a ++ b)) 0 (by omega) (by omega) (words_isW _ hab)
      rw [n1, n2, n3, hwa, isum_append, same_eq (.inl (by congr 1; omega))]
      rfl
  unfold lychlaw1_SumParts.f
  rw [known_eq (K + 1) (by omega)]
  simp only [Option.bind_some, if_true]
  by_cases h1 : (a.length : Int) > 1000
  · rw [if_pos h1]; rw [← e]; congr 1; simp [h1]
  · rw [if_neg h1]
    by_cases h2 : (b.length : Int) > 1000
    · rw [if_pos h2]; rw [← e]; congr 1; simp [h2]
    · rw [if_neg h2]; rw [← e]; congr 1
      simp only [h1, h2, false_or]
      by_cases h3 : (a.length : Int) % 2 = 0 <;> simp [h3]

theorem SumOdd : lychlaw1_SumOdd.Pure := by
  intro l n _ hl hb hn
  have hb := isB_of hb
  have hn := wf_u8 hn
  obtain ⟨K, hK⟩ : ∃ K : Nat, 4000 ≤ K := ⟨4000, Nat.le_refl _⟩
  refine ⟨K, ?_⟩
  unfold lychlaw1_SumOdd.f
  rw [known_eq K (by omega)]
  simp only [Option.bind_some, if_true]
  by_cases hc : (l.length : Int) > 2000
  · rw [if_pos hc]
  · rw [if_neg hc]
    simp only [List.nil_append, List.length_nil, Nat.zero_add]
    have en : wrap64 (Int.tmod n 9) = n % 9 := by
      rw [Int.tmod_eq_emod_of_nonneg hn.1, wrap64_id (by omega) (by omega)]
    have ew : wrap64 (Int.tdiv (wrap64 ((l.length : Int) + 1)) 2) = ((l.length : Int) + 1) / 2 := by
      rw [wrap64_id (n := (l.length : Int) + 1) (by omega) (by omega), Int.tdiv_eq_ediv_of_nonneg (by omega), wrap64_id (by omega) (by omega)]
    have hw := words_length l
    have hbc := hb.append (IsB.replicate (n % 9).toNat)
    have hlc : (l ++ List.replicate (n % 9).toNat (0 : Int)).length = l.length + (n % 9).toNat := by simp
    have hbd := hb.append (IsB.replicate ((l.length : Int) % 2).toNat)
    have hld : (l ++ List.replicate ((l.length : Int) % 2).toNat (0 : Int)).length = l.length + ((l.length : Int) % 2).toNat := by simp
    rw [en, ew, if_pos (by omega), if_pos (by omega), if_pos (by omega), of_eq _ hbc (by omega) K (by omega) (by omega), of_eq l hb (by omega) K (by omega) (by omega)]
    simp only [Option.bind_some]
    have ec : ck (l ++ List.replicate (n % 9).toNat 0) = ck l := by unfold ck; rw [isum_pad]
    rw [if_pos ec, if_pos (by omega), if_pos (by omega), add_eq 7 _ hbd (by omega) (by omega) (by omega) K (by omega), add_eq 7 l hb (by omega) (by omega) (by omega) K (by omega)]
    simp only [Option.bind_some]
    have ep : words (l ++ List.replicate ((l.length : Int) % 2).toNat 0) = words l := by
      rw [show ((l.length : Int) % 2).toNat = l.length % 2 from by omega]; exact words_pad l
    rw [if_pos (by rw [ep]), words_eq l hb (by omega) K (by omega)]
    simp only [Option.bind_some]
    rw [hw, beq_iff_eq.2 (by omega)]

theorem SumSwaps : lychlaw1_SumSwaps.Pure := by
  intro l i_ k_ _ hl hb hi hk
  have hb := isB_of hb
  have hi := wf_i64 hi
  have hk := wf_i64 hk
  obtain ⟨K, hK⟩ : ∃ K : Nat, 4000 ≤ K := ⟨4000, Nat.le_refl _⟩
  refine ⟨K + 1, ?_⟩
  have e : lychlaw1_SumSwaps.j0 (K + 1) l i_ k_ (decide ((l.length : Int) > 2000 ∨ (l.length : Int) < 2)) = some true := by
    simp only [lychlaw1_SumSwaps.j0]
    by_cases hc : (l.length : Int) > 2000 ∨ (l.length : Int) < 2
    · rw [if_pos (decide_eq_true hc)]
    · rw [if_neg (by simp [hc])]
      obtain ⟨i, hti, hil⟩ := place_eq i_ ((l.length : Int) / 2) (by omega) (by omega) hi
      obtain ⟨k, htk, hkl⟩ := place_eq k_ ((l.length : Int) / 2) (by omega) (by omega) hk
      rw [wrap64_id (n := (l.length : Int) / 2) (by omega) (by omega), hti, htk]
      simp only [Option.bind_some, List.nil_append, List.length_nil, Nat.zero_add]
      rw [w2 (t := i) (by omega), w2 (t := k) (by omega), w21 (t := i) (by omega), w21 (t := k) (by omega)]
      rw [if_pos (by omega), if_pos (by omega), if_pos (by omega), if_pos (by omega), if_pos (by omega), if_pos (by omega), if_pos (by omega), if_pos (by omega), if_pos (by omega), if_pos (by omega), if_pos (by omega), if_pos (by omega), if_pos (by omega)]
      rw [rd_at l _ (2 * k) rfl, rd_at l _ (2 * k + 1) rfl, rd_at l _ (2 * i) rfl, rd_at l _ (2 * i + 1) rfl]
      simp only [Int.toNat_natCast]
      obtain ⟨m, hm⟩ : ∃ m, m = (l.set (2 * i) (l.getD (2 * k) 0)).set (2 * i + 1) (l.getD (2 * k + 1) 0) := ⟨_, rfl⟩
      rw [← hm]
      have hbm : IsB m := hm ▸ (hb.set _ (hb.getD _)).set _ (hb.getD _)
      have hlm : m.length = l.length := by rw [hm]; simp
      have hbn : IsB ((m.set (2 * k) (l.getD (2 * i) 0)).set (2 * k + 1) (l.getD (2 * i + 1) 0)) := (hbm.set _ (hb.getD _)).set _ (hb.getD _)
      have hln : ((m.set (2 * k) (l.getD (2 * i) 0)).set (2 * k + 1) (l.getD (2 * i + 1) 0)).length = l.length := by simp [hlm]
      rw [of_eq _ hbn (by omega) K (by omega) (by omega), of_eq l hb (by omega) K (by omega) (by omega)]
      simp only [Option.bind_some]
      have h1 := isum_change l i (l.getD (2 * k) 0) (l.getD (2 * k + 1) 0) (by omega)
      have h2 := isum_change m k (l.getD (2 * i) 0) (l.getD (2 * i + 1) 0) (by omega)
      rw [← hm] at h1
      have hwm : wordAt m k = wordAt l k := by
        have hg := words_set2 l i (l.getD (2 * k) 0) (l.getD (2 * k + 1) 0) (by omega)
        rw [← hm] at hg
        have hwl := words_length l
        rw [← wordAt_eq m k (by omega), ← wordAt_eq l k (by omega), hg, List.getD_eq_getElem?_getD, List.getElem?_set]
        by_cases hik : i = k
        · subst hik
          rw [if_pos rfl, if_pos (by omega), wordAt_eq l i (by omega)]
          rfl
        · rw [if_neg hik, List.getD_eq_getElem?_getD]
      have ew : ∀ t, l.getD (2 * t) 0 * 256 + l.getD (2 * t + 1) 0 = wordAt l t := fun t => rfl
      rw [ew] at h1 h2
      have : isum (words ((m.set (2 * k) (l.getD (2 * i) 0)).set (2 * k + 1) (l.getD (2 * i + 1) 0))) = isum (words l) := by rw [h2, hwm, h1]; omega
      unfold ck
      rw [this]
      simp
  unfold lychlaw1_SumSwaps.f
  rw [known_eq (K + 1) (by omega)]
  simp only [Option.bind_some, if_true]
  by_cases h1 : (l.length : Int) > 2000
  · rw [if_pos h1]; rw [← e]; congr 1; simp [h1]
  · rw [if_neg h1]; rw [← e]; congr 1; simp [h1]
end Go.Proofs.Ytfkbjfbbpbcdaaa.Pure
