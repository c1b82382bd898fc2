/- Texts of this claim, merged: LogPure, LogInv, LogState, LogHelp, LogKnown. -/
import Derived.Test.YtgeggcifhojpmaaDoorZLd
import Derived.Test.YtgeggcifhojpmaaDoorZP
import Derived.Lib.Bytes
import Derived.Lib.SlBytesConst
/- Plain: what read tells of a block that was written. -/
namespace Go.Proofs.YtgeggcifhojpmaaDoor.PB
open Go.RowKit Go.Proofs.YtgeggcifhojpmaaDoorW.PrintWords Go.Proofs.YtgeggcifhojpmaaDoorW.PrintLast Go.Proofs.YtgeggcifhojpmaaDoorW.PrintMore
attribute [local go_sem] max2_mx min2_mn max_two min_two max_three min_three max_four min_four   -- for this text's walks alone
set_option linter.unusedVariables false
set_option linter.unusedSimpArgs false

theorem take_mid (a b c : List Int) : ((a ++ (b ++ c)).drop a.length).take b.length = b := by rw [List.drop_left, List.take_left]
theorem read_blk {s : Nat} {m r ln i : Int} {b : List Int} (h36 : 36 ≤ s) (hs : s ≤ 65536) (hb : b.length ≤ s - 36) (hm : 0 < m ∧ m < 18446744073709551616) (hr : 0 ≤ r ∧ r < 18446744073709551616) (hl : 0 ≤ ln ∧ ln < 4294967296) (hi : 0 ≤ i ∧ i < 4294967296) :
    lgRead (lgBlk s m r ln i b) = some ⟨m, r, ln, i, b ++ List.replicate (s - 36 - b.length) 0⟩ := by
  have hlen := lgBlk_length (m := m) (r := r) (ln := ln) (i := i) h36 hb
  have hbl := lgBody_length (m := m) (r := r) (ln := ln) (i := i) h36 hb
  have hc := (sum_f (lgBody s m r ln i b) (by omega)).2
  have g1 : ((lgBlk s m r ln i b).drop 0).take 8 = be 8 m := by
    have := take_mid [] (be 8 m) (be 8 r ++ (be 4 ln ++ (be 4 i ++ (b ++ List.replicate (s - 36 - b.length) 0))) ++ (be 4 (crcF (lgBody s m r ln i b)) ++ be 8 m))
    rw [be_length] at this
    rw [← this]
    unfold lgBlk
    conv => lhs; arg 2; arg 2; arg 1; unfold lgBody
    simp
  have g2 : ((lgBlk s m r ln i b).drop 8).take 8 = be 8 r := by
    have := take_mid (be 8 m) (be 8 r) (be 4 ln ++ (be 4 i ++ (b ++ List.replicate (s - 36 - b.length) 0)) ++ (be 4 (crcF (lgBody s m r ln i b)) ++ be 8 m))
    rw [be_length, be_length] at this
    rw [← this]
    unfold lgBlk
    conv => lhs; arg 2; arg 2; arg 1; unfold lgBody
    simp
  have g3 : ((lgBlk s m r ln i b).drop 16).take 4 = be 4 ln := by
    have := take_mid (be 8 m ++ be 8 r) (be 4 ln) (be 4 i ++ (b ++ List.replicate (s - 36 - b.length) 0) ++ (be 4 (crcF (lgBody s m r ln i b)) ++ be 8 m))
    rw [List.length_append, be_length, be_length, be_length] at this
    rw [← this]
    unfold lgBlk
    conv => lhs; arg 2; arg 2; arg 1; unfold lgBody
    simp
  have g4 : ((lgBlk s m r ln i b).drop 20).take 4 = be 4 i := by
    have := take_mid (be 8 m ++ be 8 r ++ be 4 ln) (be 4 i) (b ++ List.replicate (s - 36 - b.length) 0 ++ (be 4 (crcF (lgBody s m r ln i b)) ++ be 8 m))
    rw [List.length_append, List.length_append, be_length, be_length, be_length, be_length] at this
    rw [← this]
    unfold lgBlk
    conv => lhs; arg 2; arg 2; arg 1; unfold lgBody
    simp
  have g5 : ((lgBlk s m r ln i b).drop 24).take (s - 36) = b ++ List.replicate (s - 36 - b.length) 0 := by
    have := take_mid (be 8 m ++ be 8 r ++ be 4 ln ++ be 4 i) (b ++ List.replicate (s - 36 - b.length) 0) (be 4 (crcF (lgBody s m r ln i b)) ++ be 8 m)
    simp only [List.length_append, be_length, List.length_replicate] at this
    rw [show b.length + (s - 36 - b.length) = s - 36 by omega] at this
    rw [← this]
    unfold lgBlk
    conv => lhs; arg 2; arg 2; arg 1; unfold lgBody
    simp
  have g6 : (lgBlk s m r ln i b).take (s - 12) = lgBody s m r ln i b := by
    unfold lgBlk
    rw [← hbl, List.take_left]
  have g7 : ((lgBlk s m r ln i b).drop (s - 12)).take 4 = be 4 (crcF (lgBody s m r ln i b)) := by
    have := take_mid (lgBody s m r ln i b) (be 4 (crcF (lgBody s m r ln i b))) (be 8 m)
    rw [hbl, be_length] at this
    exact this
  have g8 : ((lgBlk s m r ln i b).drop (s - 8)).take 8 = be 8 m := by
    have := take_mid (lgBody s m r ln i b ++ be 4 (crcF (lgBody s m r ln i b))) (be 8 m) []
    rw [List.length_append, hbl, be_length, be_length, show s - 12 + 4 = s - 8 by omega, List.append_nil, List.append_assoc] at this
    exact this
  unfold lgRead
  rw [hlen, g1, g2, g3, g4, g5, g6, g7, g8, un_be8 m (by omega) hm.2, un_be8 r hr.1 hr.2, un_be4 ln hl.1 hl.2, un_be4 i hi.1 hi.2, un_be4 _ hc.1 hc.2]
  rw [if_neg (by intro h; rcases h with h | h | h <;> first | omega | exact h rfl)]
/-- A record's bytes, block by block: one block at least. -/
def chs (e : Nat) : Nat → List Int → List (List Int)
  | 0, _ => []
  | f + 1, rest => rest.take e :: (if rest.drop e = [] then [] else chs e f (rest.drop e))
theorem recL_whole {s : Nat} {B : List (List Int)} {first : Nat} {m r ln : Int} (h36 : 37 ≤ s) (hs : s ≤ 65536) (hm : 0 < m ∧ m < 18446744073709551616) (hr : 0 ≤ r ∧ r < 18446744073709551616) (hl : 0 ≤ ln ∧ ln < 4294967296) :
    ∀ (f : Nat) (rest : List Int) (i fuel : Nat) (out : List Int), f ≤ fuel → i + f ≤ 64 → 0 < f → rest.length ≤ f * (s - 36) → ln = ((out.length + rest.length : Nat) : Int) →
    (∀ (j : Nat) (c : List Int), (chs (s - 36) f rest)[j]? = some c → B[first + i + j]? = some (lgBlk s m r ln ((i + j : Nat) : Int) c)) →
    lgRecL s B first m fuel i ln (rest.take (s - 36) ++ List.replicate (s - 36 - (rest.take (s - 36)).length) 0) out = some (some (out ++ rest))
  | 0, rest, i, fuel, out, _, _, h0, _, _, _ => by omega
  | f + 1, rest, i, fuel, out, hfu, hi64, _, hle, hln, hB => by
    obtain ⟨fuel, rfl⟩ : ∃ k, fuel = k + 1 := ⟨fuel - 1, by omega⟩
    have htl : (rest.take (s - 36)).length = min (s - 36) rest.length := List.length_take ..
    have hmn : mn (ln - (out.length : Int)) ((s - 36 : Nat) : Int) = ((rest.take (s - 36)).length : Int) := by
      unfold mn
      split <;> omega
    unfold lgRecL
    rw [hmn, if_neg (by omega), Int.toNat_natCast, List.take_left]
    by_cases hd : rest.drop (s - 36) = []
    · have h1 : rest.take (s - 36) = rest := by
        have := List.take_append_drop (s - 36) rest
        rw [hd, List.append_nil] at this
        exact this
      rw [h1, if_pos (by rw [List.length_append]; omega)]
    · have hlt : s - 36 < rest.length := by
        rcases Nat.lt_or_ge (s - 36) rest.length with h | h
        · exact h
        · exact absurd (List.drop_of_length_le h) hd
      rw [if_neg (by rw [List.length_append]; omega)]
      have hc : chs (s - 36) (f + 1) rest = rest.take (s - 36) :: chs (s - 36) f (rest.drop (s - 36)) := by
        show _ :: (if _ then _ else _) = _
        rw [if_neg hd]
      have hf0 : 0 < f := by
        rcases Nat.eq_zero_or_pos f with h | h
        · subst h; omega
        · exact h
      have hdl : (rest.drop (s - 36)).length = rest.length - (s - 36) := List.length_drop ..
      have hB' : ∀ (j : Nat) (c : List Int), (chs (s - 36) f (rest.drop (s - 36)))[j]? = some c → B[first + (i + 1) + j]? = some (lgBlk s m r ln ((i + 1 + j : Nat) : Int) c) := fun j c hj => by
        have := hB (j + 1) c (by rw [hc]; simpa using hj)
        rw [show first + (i + 1) + j = first + i + (j + 1) by omega, show i + 1 + j = i + (j + 1) by omega]
        exact this
      have hfirst : (chs (s - 36) f (rest.drop (s - 36)))[0]? = some ((rest.drop (s - 36)).take (s - 36)) := by
        obtain ⟨k, rfl⟩ : ∃ k, f = k + 1 := ⟨f - 1, by omega⟩
        rfl
      have hb1 := hB' 0 _ hfirst
      rw [show first + (i + 1) + 0 = first + i + 1 by omega, show i + 1 + 0 = i + 1 by omega] at hb1
      have hrd := read_blk (s := s) (m := m) (r := r) (ln := ln) (i := ((i + 1 : Nat) : Int)) (b := (rest.drop (s - 36)).take (s - 36)) (by omega) hs (by rw [List.length_take]; omega) hm hr hl (by omega)
      rw [hb1]
      dsimp only
      rw [hrd]
      dsimp only
      rw [if_neg (by intro h; rcases h with h | h; exact h rfl; exact h (by push_cast; rfl))]
      have ih := recL_whole h36 hs hm hr hl f (rest.drop (s - 36)) (i + 1) fuel (out ++ rest.take (s - 36)) (by omega) (by omega) hf0 (by rw [hdl]; rw [Nat.add_mul, Nat.one_mul] at hle; omega) (by rw [List.length_append]; omega) hB'
      rw [ih, List.append_assoc, List.take_append_drop]
/-- A slot that has a record, whole. -/
structure WS (s : Nat) (B : List (List Int)) (first : Nat) (m r : Int) (d : List Int) : Prop where
  mark : 0 < m ∧ m < 18446744073709551616
  num : 0 ≤ r ∧ r < 18446744073709551616
  fits : d.length ≤ 64 * (s - 36) ∧ d.length < 4294967296
  at_ : ∀ (j : Nat) (c : List Int), (chs (s - 36) 64 d)[j]? = some c → B[first + j]? = some (lgBlk s m r (d.length : Int) (j : Int) c)
theorem rec_whole {s n slot : Nat} {B : List (List Int)} {m r : Int} {d : List Int} (h : WS s B (slot * (n / 2)) m r d) (h36 : 37 ≤ s) (hs : s ≤ 65536) (hroom : d.length ≤ lgRoom n s) : lgRec s n B slot = some (some (m, r, d)) := by
  have hf : (chs (s - 36) 64 d)[0]? = some (d.take (s - 36)) := rfl
  have hb := h.at_ 0 _ hf
  rw [Nat.add_zero] at hb
  have hrd := read_blk (s := s) (m := m) (r := r) (ln := (d.length : Int)) (i := ((0 : Nat) : Int)) (b := d.take (s - 36)) (by omega) hs (by rw [List.length_take]; omega) h.mark h.num (by have := h.fits; omega) (by omega)
  unfold lgRec
  rw [hb]
  dsimp only
  rw [hrd]
  dsimp only
  rw [if_neg (by intro h; rcases h with h | h; exact h rfl; omega)]
  have hw := recL_whole (B := B) (first := slot * (n / 2)) h36 hs h.mark h.num (ln := (d.length : Int)) (by have := h.fits; omega) 64 d 0 64 [] (Nat.le_refl _) (by omega) (by omega) h.fits.1 (by simp) (fun j c hj => by
    rw [Nat.add_zero, Nat.zero_add]
    exact h.at_ j c hj)
  rw [hw]
  rfl
theorem recL_torn {s : Nat} {B : List (List Int)} {first : Nat} {m r ln : Int} (h36 : 37 ≤ s) (hs : s ≤ 65536) (hm : 0 < m ∧ m < 18446744073709551616) (hr : 0 ≤ r ∧ r < 18446744073709551616) (hl : 0 ≤ ln ∧ ln < 4294967296) {l : List Int} (hbad : lgRead l = none ∨ ∃ k, lgRead l = some k ∧ k.m ≠ m) :
    ∀ (f : Nat) (rest : List Int) (i fuel : Nat) (out : List Int) (t : Nat), f ≤ fuel → i + f ≤ 64 → rest.length ≤ f * (s - 36) → ln = ((out.length + rest.length : Nat) : Int) → 0 < t → t < (chs (s - 36) f rest).length →
    (∀ (j : Nat) (c : List Int), j < t → (chs (s - 36) f rest)[j]? = some c → B[first + i + j]? = some (lgBlk s m r ln ((i + j : Nat) : Int) c)) → B[first + i + t]? = some l →
    lgRecL s B first m fuel i ln (rest.take (s - 36) ++ List.replicate (s - 36 - (rest.take (s - 36)).length) 0) out = some none
  | 0, rest, i, fuel, out, t, _, _, _, _, _, h0, _, _ => by simp [chs] at h0
  | f + 1, rest, i, fuel, out, t, hfu, hi64, hle, hln, ht0, htl0, hB, hBt => by
    obtain ⟨fuel, rfl⟩ : ∃ k, fuel = k + 1 := ⟨fuel - 1, by omega⟩
    have htl : (rest.take (s - 36)).length = min (s - 36) rest.length := List.length_take ..
    have hmn : mn (ln - (out.length : Int)) ((s - 36 : Nat) : Int) = ((rest.take (s - 36)).length : Int) := by
      unfold mn
      split <;> omega
    have hd : rest.drop (s - 36) ≠ [] := fun hd => by
      have hc : chs (s - 36) (f + 1) rest = [rest.take (s - 36)] := by
        show _ :: (if _ then _ else _) = _
        rw [if_pos hd]
      rw [hc] at htl0
      simp at htl0
      omega
    have hlt : s - 36 < rest.length := by
      rcases Nat.lt_or_ge (s - 36) rest.length with h | h
      · exact h
      · exact absurd (List.drop_of_length_le h) hd
    unfold lgRecL
    rw [hmn, if_neg (by omega), Int.toNat_natCast, List.take_left]
    rw [if_neg (by rw [List.length_append]; omega)]
    have hc : chs (s - 36) (f + 1) rest = rest.take (s - 36) :: chs (s - 36) f (rest.drop (s - 36)) := by
      show _ :: (if _ then _ else _) = _
      rw [if_neg hd]
    have hdl : (rest.drop (s - 36)).length = rest.length - (s - 36) := List.length_drop ..
    rcases Nat.lt_or_ge 1 t with ht1 | ht1
    · have hf0 : 0 < f := by
        rcases Nat.eq_zero_or_pos f with h | h
        · subst h
          rw [hc] at htl0
          simp [chs] at htl0
          omega
        · exact h
      have hB' : ∀ (j : Nat) (c : List Int), j < t - 1 → (chs (s - 36) f (rest.drop (s - 36)))[j]? = some c → B[first + (i + 1) + j]? = some (lgBlk s m r ln ((i + 1 + j : Nat) : Int) c) := fun j c hjt hj => by
        have := hB (j + 1) c (by omega) (by rw [hc]; simpa using hj)
        rw [show first + (i + 1) + j = first + i + (j + 1) by omega, show i + 1 + j = i + (j + 1) by omega]
        exact this
      have hfirst : (chs (s - 36) f (rest.drop (s - 36)))[0]? = some ((rest.drop (s - 36)).take (s - 36)) := by
        obtain ⟨k, rfl⟩ : ∃ k, f = k + 1 := ⟨f - 1, by omega⟩
        rfl
      have hb1 := hB' 0 _ (by omega) hfirst
      rw [show first + (i + 1) + 0 = first + i + 1 by omega, show i + 1 + 0 = i + 1 by omega] at hb1
      have hrd := read_blk (s := s) (m := m) (r := r) (ln := ln) (i := ((i + 1 : Nat) : Int)) (b := (rest.drop (s - 36)).take (s - 36)) (by omega) hs (by rw [List.length_take]; omega) hm hr hl (by omega)
      rw [hb1]
      dsimp only
      rw [hrd]
      dsimp only
      rw [if_neg (by intro h; rcases h with h | h; exact h rfl; exact h (by push_cast; rfl))]
      exact recL_torn h36 hs hm hr hl hbad f (rest.drop (s - 36)) (i + 1) fuel (out ++ rest.take (s - 36)) (t - 1) (by omega) (by omega) (by rw [hdl]; rw [Nat.add_mul, Nat.one_mul] at hle; omega) (by rw [List.length_append]; omega) (by omega) (by rw [hc] at htl0; simp at htl0; omega) hB' (by rw [show first + (i + 1) + (t - 1) = first + i + t by omega]; exact hBt)
    · have ht : t = 1 := by omega
      subst ht
      rw [hBt]
      dsimp only
      rcases hbad with hn | ⟨k, hk, hkm⟩
      · rw [hn]
      · rw [hk]
        dsimp only
        rw [if_pos (Or.inl hkm)]
/-- A slot that has none: its first j blocks are of one record, the next one isn't. -/
structure NS (s half : Nat) (B : List (List Int)) (first : Nat) : Prop where
  torn : ∃ (m r : Int) (d : List Int) (t : Nat) (l : List Int), (0 < m ∧ m < 18446744073709551616) ∧ (0 ≤ r ∧ r < 18446744073709551616) ∧ (d.length ≤ 64 * (s - 36) ∧ d.length < 4294967296) ∧ t < (chs (s - 36) 64 d).length ∧ t < half ∧
    (∀ (j : Nat) (c : List Int), j < t → (chs (s - 36) 64 d)[j]? = some c → B[first + j]? = some (lgBlk s m r (d.length : Int) (j : Int) c)) ∧ B[first + t]? = some l ∧ (lgRead l = none ∨ (0 < t ∧ ∃ k, lgRead l = some k ∧ k.m ≠ m))
theorem rec_none {s n slot : Nat} {B : List (List Int)} (h : NS s (n / 2) B (slot * (n / 2))) (h36 : 37 ≤ s) (hs : s ≤ 65536) : lgRec s n B slot = some none := by
  obtain ⟨m, r, d, t, l, hm, hr, hd, ht, _, hB, hl, hbad⟩ := h.torn
  unfold lgRec
  rcases Nat.eq_zero_or_pos t with h0 | h0
  · subst h0
    rw [Nat.add_zero] at hl
    rw [hl]
    dsimp only
    rcases hbad with hn | ⟨h1, _⟩
    · rw [hn]
    · omega
  · have hf : (chs (s - 36) 64 d)[0]? = some (d.take (s - 36)) := rfl
    have hb := hB 0 _ h0 hf
    rw [Nat.add_zero] at hb
    have hrd := read_blk (s := s) (m := m) (r := r) (ln := (d.length : Int)) (i := ((0 : Nat) : Int)) (b := d.take (s - 36)) (by omega) hs (by rw [List.length_take]; omega) hm hr (by omega) (by omega)
    rw [hb]
    dsimp only
    rw [hrd]
    dsimp only
    split
    · rfl
    · have hw := recL_torn (B := B) (first := slot * (n / 2)) h36 hs hm hr (ln := (d.length : Int)) (by omega) (l := l) (hbad.imp id (fun h => h.2)) 64 d 0 64 [] t (Nat.le_refl _) (by omega) hd.1 (by simp) h0 ht (fun j c hjt hj => by
        rw [Nat.add_zero, Nat.zero_add]
        exact hB j c hjt hj) (by rw [Nat.add_zero]; exact hl)
      rw [hw]
      rfl
/-- What lgApp does: the blocks that were written; where it fell. -/
theorem app_spec {s p first : Nat} {m r ln : Int} : ∀ (f fuel i : Nat) (rest : List Int) (B : List (List Int)) (cut : Int) (B' : List (List Int)) (cut' : Int) (dead : Bool), f ≤ fuel → 0 < f → rest.length ≤ f * (s - 36) → (i = 0 ∨ rest ≠ []) → first + i + (chs (s - 36) f rest).length ≤ B.length →
    lgApp s p first m r ln fuel i rest B cut = some (B', cut', dead) →
    B'.length = B.length ∧ ∃ t, (dead = false → t = (chs (s - 36) f rest).length) ∧ (dead = true → t < (chs (s - 36) f rest).length ∧ ∃ c, (chs (s - 36) f rest)[t]? = some c ∧ B'[first + i + t]? = some ((lgBlk s m r ln ((i + t : Nat) : Int) c).take p ++ (B.getD (first + i + t) []).drop p)) ∧
    (∀ (j : Nat) (c : List Int), j < t → (chs (s - 36) f rest)[j]? = some c → B'[first + i + j]? = some (lgBlk s m r ln ((i + j : Nat) : Int) c)) ∧
    (∀ k, (k < first + i ∨ first + i + t < k ∨ (dead = false ∧ first + i + t ≤ k)) → B'[k]? = B[k]?)
  | 0, fuel, i, rest, B, cut, B', cut', dead, _, h0, _, _, _, _ => by omega
  | f + 1, fuel, i, rest, B, cut, B', cut', dead, hfu, _, hle, hne, hlen, h => by
    obtain ⟨fuel, rfl⟩ : ∃ k, fuel = k + 1 := ⟨fuel - 1, by omega⟩
    unfold lgApp at h
    rw [if_pos hne] at h
    have hc0 : (chs (s - 36) (f + 1) rest)[0]? = some (rest.take (s - 36)) := rfl
    have hpos : 0 < (chs (s - 36) (f + 1) rest).length := (List.getElem?_eq_some_iff.1 hc0).1
    by_cases hcut : cut = 0
    · rw [if_pos hcut] at h
      have h1 := Option.some.inj h
      simp only [Prod.mk.injEq] at h1
      obtain ⟨rfl, rfl, rfl⟩ := h1
      refine ⟨List.length_set .., 0, (fun h => by cases h), fun _ => ⟨hpos, _, hc0, ?_⟩, fun j c hj _ => by omega, fun k hk => ?_⟩
      · rw [Nat.add_zero, Nat.add_zero, List.getElem?_set_self (by omega)]
      · rw [List.getElem?_set_ne (by rcases hk with hk | hk | ⟨hk, _⟩ <;> first | omega | cases hk)]
    · rw [if_neg hcut] at h
      by_cases hd : rest.drop (s - 36) = []
      · have hc : chs (s - 36) (f + 1) rest = [rest.take (s - 36)] := by
          show _ :: (if _ then _ else _) = _
          rw [if_pos hd]
        rw [hd] at h
        obtain ⟨fuel, rfl⟩ : ∃ k, fuel = k + 1 := by
          rcases fuel with _ | k
          · unfold lgApp at h; cases h
          · exact ⟨k, rfl⟩
        unfold lgApp at h
        rw [if_neg (by intro h; rcases h with h | h; omega; exact h rfl)] at h
        have h1 := Option.some.inj h
        simp only [Prod.mk.injEq] at h1
        obtain ⟨rfl, rfl, rfl⟩ := h1
        refine ⟨List.length_set .., 1, fun _ => by rw [hc]; rfl, (fun h => by cases h), fun j c hj hjc => ?_, fun k hk => ?_⟩
        · obtain rfl : j = 0 := by omega
          rw [hc0] at hjc
          obtain rfl := Option.some.inj hjc
          rw [Nat.add_zero, Nat.add_zero, List.getElem?_set_self (by rw [hc] at hlen; simp at hlen; omega)]
        · rw [List.getElem?_set_ne (by rcases hk with hk | hk | ⟨_, hk⟩ <;> omega)]
      · have hc : chs (s - 36) (f + 1) rest = rest.take (s - 36) :: chs (s - 36) f (rest.drop (s - 36)) := by
          show _ :: (if _ then _ else _) = _
          rw [if_neg hd]
        have hdl : (rest.drop (s - 36)).length = rest.length - (s - 36) := List.length_drop ..
        have hlt : s - 36 < rest.length := by
          rcases Nat.lt_or_ge (s - 36) rest.length with h | h
          · exact h
          · exact absurd (List.drop_of_length_le h) hd
        have hf0 : 0 < f := by
          rcases Nat.eq_zero_or_pos f with h | h
          · subst h; omega
          · exact h
        rw [hc, List.length_cons] at hlen
        obtain ⟨q1, t, q2, q3, q4, q5⟩ := app_spec f fuel (i + 1) (rest.drop (s - 36)) _ _ B' cut' dead (by omega) hf0 (by rw [hdl]; rw [Nat.add_mul, Nat.one_mul] at hle; omega) (Or.inr hd) (by rw [List.length_set]; omega) h
        rw [List.length_set] at q1
        refine ⟨q1, t + 1, fun hf => by rw [hc, List.length_cons, q2 hf], fun ht => ?_, fun j c hj hjc => ?_, fun k hk => ?_⟩
        · obtain ⟨z1, c, z2, z3⟩ := q3 ht
          refine ⟨by rw [hc, List.length_cons]; omega, c, by rw [hc]; simpa using z2, ?_⟩
          rw [show first + i + (t + 1) = first + (i + 1) + t by omega, show i + (t + 1) = i + 1 + t by omega, z3]
          rw [List.getD_eq_getElem?_getD, List.getD_eq_getElem?_getD, List.getElem?_set_ne (by omega)]
        · rcases j with _ | j
          · rw [hc0] at hjc
            obtain rfl := Option.some.inj hjc
            rw [Nat.add_zero, Nat.add_zero, q5 (first + i) (Or.inl (by omega)), List.getElem?_set_self (by omega)]
          · have := q4 j c (by omega) (by rw [hc] at hjc; simpa using hjc)
            rw [show first + i + (j + 1) = first + (i + 1) + j by omega, show i + (j + 1) = i + 1 + j by omega]
            exact this
        · rw [q5 k (by rcases hk with hk | hk | ⟨hk1, hk2⟩; exact Or.inl (by omega); exact Or.inr (Or.inl (by omega)); exact Or.inr (Or.inr ⟨hk1, by omega⟩)), List.getElem?_set_ne (by rcases hk with hk | hk | ⟨hk1, hk2⟩ <;> omega)]
theorem un8_small (l : List Int) (hl : l.length = 8) (hb : IsB l) (h : un l < 256) : l = [0, 0, 0, 0, 0, 0, 0, un l] := by
  obtain ⟨a0, l, rfl⟩ := List.exists_cons_of_length_eq_add_one hl
  simp only [List.length_cons, Nat.add_eq_right] at hl
  obtain ⟨a1, l, rfl⟩ := List.exists_cons_of_length_eq_add_one (n := 6) (by simpa using hl)
  obtain ⟨a2, l, rfl⟩ := List.exists_cons_of_length_eq_add_one (n := 5) (by simpa using hl)
  obtain ⟨a3, l, rfl⟩ := List.exists_cons_of_length_eq_add_one (n := 4) (by simpa using hl)
  obtain ⟨a4, l, rfl⟩ := List.exists_cons_of_length_eq_add_one (n := 3) (by simpa using hl)
  obtain ⟨a5, l, rfl⟩ := List.exists_cons_of_length_eq_add_one (n := 2) (by simpa using hl)
  obtain ⟨a6, l, rfl⟩ := List.exists_cons_of_length_eq_add_one (n := 1) (by simpa using hl)
  obtain ⟨a7, l, rfl⟩ := List.exists_cons_of_length_eq_add_one (n := 0) (by simpa using hl)
  obtain rfl : l = [] := List.eq_nil_of_length_eq_zero (by simpa using hl)
  have h0 := hb a0 (by simp)
  have h1 := hb a1 (by simp)
  have h2 := hb a2 (by simp)
  have h3 := hb a3 (by simp)
  have h4 := hb a4 (by simp)
  have h5 := hb a5 (by simp)
  have h6 := hb a6 (by simp)
  have h7 := hb a7 (by simp)
  simp only [un, List.foldl_cons, List.foldl_nil] at h ⊢
  have e0 : a0 = 0 := by omega
  have e1 : a1 = 0 := by omega
  have e2 : a2 = 0 := by omega
  have e3 : a3 = 0 := by omega
  have e4 : a4 = 0 := by omega
  have e5 : a5 = 0 := by omega
  have e6 : a6 = 0 := by omega
  subst e0 e1 e2 e3 e4 e5 e6
  simp
/-- A block whose marks are no greater than M. -/
structure BOK (s : Nat) (M : Int) (l : List Int) : Prop where
  len : l.length = s
  bytes : IsB l
  head : un ((l.drop 0).take 8) ≤ M
  tail : un ((l.drop (s - 8)).take 8) ≤ M
theorem BOK.mono {s : Nat} {M M' : Int} {l : List Int} (h : BOK s M l) (hm : M ≤ M') : BOK s M' l := ⟨h.len, h.bytes, Int.le_trans h.head hm, Int.le_trans h.tail hm⟩
theorem blk_isB {s : Nat} {m r ln i : Int} {b : List Int} (hb : IsB b) : IsB (lgBlk s m r ln i b) := by
  unfold lgBlk lgBody
  exact ((be_isB 8 m).append ((be_isB 8 r).append ((be_isB 4 ln).append ((be_isB 4 i).append (hb.append (IsB.zeros _)))))).append ((be_isB 4 _).append (be_isB 8 m))
theorem blk_head {s : Nat} {m r ln i : Int} {b : List Int} : (lgBlk s m r ln i b).take 8 = be 8 m := by
  have := take_mid [] (be 8 m) (be 8 r ++ (be 4 ln ++ (be 4 i ++ (b ++ List.replicate (s - 36 - b.length) 0))) ++ (be 4 (crcF (lgBody s m r ln i b)) ++ be 8 m))
  rw [be_length] at this
  rw [← this]
  unfold lgBlk
  conv => lhs; arg 2; arg 1; unfold lgBody
  simp
theorem blk_tail {s : Nat} {m r ln i : Int} {b : List Int} (h36 : 36 ≤ s) (hb : b.length ≤ s - 36) : (lgBlk s m r ln i b).drop (s - 8) = be 8 m := by
  have hbl := lgBody_length (m := m) (r := r) (ln := ln) (i := i) h36 hb
  unfold lgBlk
  rw [← List.append_assoc, List.drop_left' (by rw [List.length_append, hbl, be_length]; omega)]
theorem blk_ok {s : Nat} {m r ln i : Int} {b : List Int} (h36 : 36 ≤ s) (hb : b.length ≤ s - 36) (hi : IsB b) (hm : 0 ≤ m ∧ m < 18446744073709551616) : BOK s m (lgBlk s m r ln i b) := by
  refine ⟨lgBlk_length h36 hb, blk_isB hi, ?_, ?_⟩
  · rw [List.drop_zero, blk_head, un_be8 m hm.1 hm.2]
    exact Int.le_refl _
  · rw [blk_tail h36 hb, List.take_of_length_le (by rw [be_length]; exact Nat.le_refl _), un_be8 m hm.1 hm.2]
    exact Int.le_refl _
theorem zeros7 (u v : Int) (p : Nat) (hp : p ≤ 7) : ([0, 0, 0, 0, 0, 0, 0, u] : List Int).take p = ([0, 0, 0, 0, 0, 0, 0, v] : List Int).take p := by
  rcases (show p = 0 ∨ p = 1 ∨ p = 2 ∨ p = 3 ∨ p = 4 ∨ p = 5 ∨ p = 6 ∨ p = 7 by omega) with h | h | h | h | h | h | h | h <;> subst h <;> rfl
/-- A write that was cut off: the old block, the new one, or one that is not whole. -/
theorem torn {s p : Nat} {M r ln i : Int} {b l : List Int} (h36 : 37 ≤ s) (hb : b.length ≤ s - 36) (hi : IsB b) (hM : 0 ≤ M ∧ M ≤ 254) (hl : BOK s M l) (hp : p ≤ s) :
    BOK s (M + 1) ((lgBlk s (M + 1) r ln i b).take p ++ l.drop p) ∧ ((lgBlk s (M + 1) r ln i b).take p ++ l.drop p = l ∨ (lgBlk s (M + 1) r ln i b).take p ++ l.drop p = lgBlk s (M + 1) r ln i b ∨ lgRead ((lgBlk s (M + 1) r ln i b).take p ++ l.drop p) = none) := by
  have hx := blk_ok (s := s) (m := M + 1) (r := r) (ln := ln) (i := i) (b := b) (by omega) hb hi (by omega)
  have hbe := un8_small (be 8 (M + 1)) (be_length _ _) (be_isB _ _) (by rw [un_be8 _ (by omega) (by omega)]; omega)
  rw [un_be8 _ (by omega) (by omega)] at hbe
  have hlh := un8_small (l.take 8) (by rw [List.length_take, hl.len]; omega) (hl.bytes.take 8) (by have := hl.head; rw [List.drop_zero] at this; omega)
  rcases (show p ≤ 7 ∨ (8 ≤ p ∧ p < s) ∨ p = s by omega) with h1 | h1 | h1
  · have e : (lgBlk s (M + 1) r ln i b).take p ++ l.drop p = l := by
      have e1 : (lgBlk s (M + 1) r ln i b).take p = l.take p := by
        rw [show (lgBlk s (M + 1) r ln i b).take p = ((lgBlk s (M + 1) r ln i b).take 8).take p by rw [List.take_take, Nat.min_eq_left (by omega)], show l.take p = (l.take 8).take p by rw [List.take_take, Nat.min_eq_left (by omega)], blk_head, hbe, hlh]
        exact zeros7 _ _ p h1
      rw [e1, List.take_append_drop]
    rw [e]
    exact ⟨hl.mono (by omega), Or.inl rfl⟩
  · have hlen : ((lgBlk s (M + 1) r ln i b).take p ++ l.drop p).length = s := by
      rw [List.length_append, List.length_take, List.length_drop, hx.len, hl.len]
      omega
    have hh : ((lgBlk s (M + 1) r ln i b).take p ++ l.drop p).take 8 = be 8 (M + 1) := by
      rw [List.take_append_of_le_length (by rw [List.length_take, hx.len]; omega), List.take_take, Nat.min_eq_left h1.1, blk_head]
    have htl : ((lgBlk s (M + 1) r ln i b).take p ++ l.drop p).drop (s - 8) = l.drop (s - 8) := by
      rcases Nat.lt_or_ge (s - 8) p with h2 | h2
      · have hlt := un8_small (l.drop (s - 8)) (by rw [List.length_drop, hl.len]; omega) (hl.bytes.drop _) (by have := hl.tail; rw [List.take_of_length_le (by rw [List.length_drop, hl.len]; omega)] at this; omega)
        rw [List.drop_append_of_le_length (by rw [List.length_take, hx.len]; omega), List.drop_take, blk_tail (by omega) hb, hbe]
        have e2 : l.drop p = (l.drop (s - 8)).drop (p - (s - 8)) := by rw [List.drop_drop]; congr 1; omega
        rw [e2]
        conv => lhs; arg 2; rw [hlt]
        rw [zeros7 (M + 1) (un (l.drop (s - 8))) (p - (s - 8)) (by omega), List.take_append_drop]
        exact hlt.symm
      · rw [List.drop_append, List.drop_of_length_le (by rw [List.length_take, hx.len]; omega), List.nil_append, List.length_take, hx.len, List.drop_drop]
        congr 1
        omega
    refine ⟨⟨hlen, (hx.bytes.take p).append (hl.bytes.drop p), ?_, ?_⟩, Or.inr (Or.inr ?_)⟩
    · rw [List.drop_zero, hh, un_be8 _ (by omega) (by omega)]
      exact Int.le_refl _
    · rw [htl]
      have := hl.tail
      omega
    · unfold lgRead
      rw [hlen, List.drop_zero, hh, htl, un_be8 _ (by omega) (by omega), if_pos (Or.inr (Or.inl (by have := hl.tail; omega)))]
  · subst h1
    have e : (lgBlk p (M + 1) r ln i b).take p ++ l.drop p = lgBlk p (M + 1) r ln i b := by
      rw [List.drop_of_length_le (by rw [hl.len]; exact Nat.le_refl _), List.append_nil, List.take_of_length_le (by rw [hx.len]; exact Nat.le_refl _)]
    rw [e]
    exact ⟨hx, Or.inr (Or.inl rfl)⟩
theorem mx_le {a b c : Int} (h : a ≤ c) (k : b ≤ c) : mx a b ≤ c := by unfold mx; split <;> assumption
theorem le_mx (a b : Int) : a ≤ mx a b ∧ b ≤ mx a b := by unfold mx; split <;> omega
theorem max_ge : ∀ (B : List (List Int)) (a : Int), a ≤ B.foldl (fun a l => mx (mx a (un ((l.drop 0).take 8))) (un ((l.drop (l.length - 8)).take 8))) a ∧ ∀ l ∈ B, un ((l.drop 0).take 8) ≤ B.foldl (fun a l => mx (mx a (un ((l.drop 0).take 8))) (un ((l.drop (l.length - 8)).take 8))) a ∧ un ((l.drop (l.length - 8)).take 8) ≤ B.foldl (fun a l => mx (mx a (un ((l.drop 0).take 8))) (un ((l.drop (l.length - 8)).take 8))) a
  | [], a => ⟨Int.le_refl _, fun l h => by cases h⟩
  | x :: B, a => by
    obtain ⟨h1, h2⟩ := max_ge B (mx (mx a (un ((x.drop 0).take 8))) (un ((x.drop (x.length - 8)).take 8)))
    have h3 := le_mx (mx a (un ((x.drop 0).take 8))) (un ((x.drop (x.length - 8)).take 8))
    have h4 := le_mx a (un ((x.drop 0).take 8))
    refine ⟨by rw [List.foldl_cons]; omega, fun l hl => ?_⟩
    rw [List.foldl_cons]
    rcases List.mem_cons.1 hl with rfl | hl
    · omega
    · exact h2 l hl
theorem max_le {M : Int} : ∀ (B : List (List Int)) (a : Int), a ≤ M → (∀ l ∈ B, un ((l.drop 0).take 8) ≤ M ∧ un ((l.drop (l.length - 8)).take 8) ≤ M) → B.foldl (fun a l => mx (mx a (un ((l.drop 0).take 8))) (un ((l.drop (l.length - 8)).take 8))) a ≤ M
  | [], a, h, _ => h
  | x :: B, a, h, hB => by
    rw [List.foldl_cons]
    exact max_le B _ (mx_le (mx_le h (hB x List.mem_cons_self).1) (hB x List.mem_cons_self).2) (fun l hl => hB l (List.mem_cons_of_mem _ hl))
theorem lgMax_nonneg (B : List (List Int)) : 0 ≤ lgMax B := (max_ge B 0).1
theorem lgMax_ok {s : Nat} {B : List (List Int)} {l : List Int} (hl : l ∈ B) (hs : l.length = s) (hb : IsB l) : BOK s (lgMax B) l := by
  have h := (max_ge B 0).2 l hl
  exact ⟨hs, hb, h.1, by rw [← hs]; exact h.2⟩
theorem lgMax_le {s : Nat} {M : Int} {B : List (List Int)} (h0 : 0 ≤ M) (h : ∀ l ∈ B, BOK s M l) : lgMax B ≤ M := max_le B 0 h0 (fun l hl => ⟨(h l hl).head, by rw [(h l hl).len]; exact (h l hl).tail⟩)
theorem chs_len {e : Nat} : ∀ (f h : Nat) (d : List Int), 0 < h → d.length ≤ h * e → (chs e f d).length ≤ h
  | 0, h, d, h0, _ => by simp [chs]
  | f + 1, h, d, h0, hl => by
    obtain ⟨h, rfl⟩ : ∃ k, h = k + 1 := ⟨h - 1, by omega⟩
    show (d.take e :: (if d.drop e = [] then [] else chs e f (d.drop e))).length ≤ _
    split
    · simp
    · rename_i hd
      have hdl : (d.drop e).length = d.length - e := List.length_drop ..
      have hlt : e < d.length := by
        rcases Nat.lt_or_ge e d.length with h1 | h1
        · exact h1
        · exact absurd (List.drop_of_length_le h1) hd
      rw [Nat.add_mul, Nat.one_mul] at hl
      have hh : 0 < h := by
        rcases Nat.eq_zero_or_pos h with h1 | h1
        · subst h1; omega
        · exact h1
      have := chs_len (e := e) f h (d.drop e) hh (by omega)
      rw [List.length_cons]
      omega
theorem WS.same {s half first : Nat} {B B' : List (List Int)} {m r : Int} {d : List Int} (h : WS s B first m r d) (h0 : 0 < half) (hd : d.length ≤ half * (s - 36)) (hB : ∀ k, first ≤ k → k < first + half → B'[k]? = B[k]?) : WS s B' first m r d :=
  ⟨h.mark, h.num, h.fits, fun j c hj => by
    have hlt := (List.getElem?_eq_some_iff.1 hj).1
    have := chs_len 64 half d h0 hd
    rw [hB (first + j) (by omega) (by omega)]
    exact h.at_ j c hj⟩
theorem NS.same {s half first : Nat} {B B' : List (List Int)} (h : NS s half B first) (hB : ∀ k, first ≤ k → k < first + half → B'[k]? = B[k]?) : NS s half B' first := by
  obtain ⟨m, r, d, t, l, hm, hr, hd, ht, hth, hb, hl, hbad⟩ := h.torn
  refine ⟨m, r, d, t, l, hm, hr, hd, ht, hth, fun j c hj hjc => ?_, ?_, hbad⟩
  · rw [hB (first + j) (by omega) (by omega)]
    exact hb j c hj hjc
  · rw [hB (first + t) (by omega) (by omega)]
    exact hl
theorem chs_mem {e : Nat} : ∀ (f : Nat) (d : List Int), IsB d → ∀ c ∈ chs e f d, c.length ≤ e ∧ IsB c
  | 0, d, _, c, h => by simp [chs] at h
  | f + 1, d, hd, c, h => by
    have h' : c ∈ d.take e :: (if d.drop e = [] then [] else chs e f (d.drop e)) := h
    rcases List.mem_cons.1 h' with rfl | h2
    · exact ⟨by rw [List.length_take]; omega, hd.take e⟩
    · split at h2
      · cases h2
      · exact chs_mem f (d.drop e) (hd.drop e) c h2
theorem app_good {s p first half : Nat} {M r : Int} {d : List Int} {B B' : List (List Int)} {cut cut' : Int} (h36 : 37 ≤ s) (hh : 0 < half ∧ half ≤ 64) (hf : first + half ≤ B.length) (hB : ∀ l ∈ B, BOK s M l) (hM : 0 ≤ M ∧ M < 18446744073709551615) (hr : 0 ≤ r ∧ r < 18446744073709551616) (hd : IsB d) (hl : d.length ≤ half * (s - 36)) (hl2 : d.length < 4294967296)
    (h : lgApp s p first (M + 1) r (d.length : Int) 64 0 d B cut = some (B', cut', false)) :
    B'.length = B.length ∧ (∀ l ∈ B', BOK s (M + 1) l) ∧ WS s B' first (M + 1) r d ∧ ∀ k, (k < first ∨ first + half ≤ k) → B'[k]? = B[k]? := by
  have hcl := chs_len 64 half d hh.1 hl
  have hl64 : d.length ≤ 64 * (s - 36) := Nat.le_trans hl (Nat.mul_le_mul_right _ hh.2)
  obtain ⟨q1, t, q2, _, q4, q5⟩ := app_spec 64 64 0 d B cut B' cut' false (Nat.le_refl _) (by decide) hl64 (Or.inl rfl) (by omega) h
  have ht := q2 rfl
  have hw : ∀ (j : Nat) (c : List Int), (chs (s - 36) 64 d)[j]? = some c → B'[first + j]? = some (lgBlk s (M + 1) r (d.length : Int) (j : Int) c) := fun j c hj => by
    have := q4 j c (by rw [ht]; exact (List.getElem?_eq_some_iff.1 hj).1) hj
    rw [Nat.add_zero, Nat.zero_add] at this
    exact this
  refine ⟨q1, fun l hlm => ?_, ⟨by omega, hr, ⟨hl64, hl2⟩, hw⟩, fun k hk => q5 k (by rcases hk with hk | hk; exact Or.inl (by omega); exact Or.inr (Or.inr ⟨rfl, by omega⟩))⟩
  obtain ⟨k, hk, he⟩ := List.mem_iff_getElem.1 hlm
  by_cases hin : first ≤ k ∧ k < first + t
  · obtain ⟨j, rfl⟩ : ∃ j, k = first + j := ⟨k - first, by omega⟩
    have hjl : j < (chs (s - 36) 64 d).length := by omega
    have hj : (chs (s - 36) 64 d)[j]? = some (chs (s - 36) 64 d)[j] := List.getElem?_eq_getElem hjl
    have h1 := hw j _ hj
    rw [List.getElem?_eq_getElem hk, he] at h1
    rw [Option.some.inj h1]
    have hc := chs_mem 64 d hd _ (List.getElem_mem hjl)
    exact blk_ok (by omega) hc.1 hc.2 (by omega)
  · have h1 := q5 k (by
      rcases Nat.lt_or_ge k first with h2 | h2
      · exact Or.inl (by omega)
      · exact Or.inr (Or.inr ⟨rfl, by omega⟩))
    rw [List.getElem?_eq_getElem hk, he] at h1
    exact (hB l (List.mem_of_getElem? h1.symm)).mono (by omega)
theorem old_mark {s : Nat} {M : Int} {l : List Int} (h36 : 37 ≤ s) (h : BOK s M l) : lgRead l = none ∨ ∃ k, lgRead l = some k ∧ k.m ≠ M + 1 := by
  cases hk : lgRead l with
  | none => exact Or.inl rfl
  | some k =>
    refine Or.inr ⟨k, rfl, ?_⟩
    obtain ⟨h1, _⟩ := lgRead_some hk (by rw [h.len]; omega) h.bytes
    have := h.head
    omega
theorem app_fell {s p first half : Nat} {M r : Int} {d : List Int} {B B' : List (List Int)} {cut cut' : Int} (h36 : 37 ≤ s) (hp : p ≤ s) (hh : 0 < half ∧ half ≤ 64) (hf : first + half ≤ B.length) (hB : ∀ l ∈ B, BOK s M l) (hM : 0 ≤ M ∧ M ≤ 254) (hr : 0 ≤ r ∧ r < 18446744073709551616) (hd : IsB d) (hl : d.length ≤ half * (s - 36)) (hl2 : d.length < 4294967296)
    (h : lgApp s p first (M + 1) r (d.length : Int) 64 0 d B cut = some (B', cut', true)) :
    B'.length = B.length ∧ (∀ l ∈ B', BOK s (M + 1) l) ∧ (∀ k, (k < first ∨ first + half ≤ k) → B'[k]? = B[k]?) ∧ ((∀ k : Nat, B'[k]? = B[k]?) ∨ NS s half B' first ∨ WS s B' first (M + 1) r d) := by
  have hcl := chs_len 64 half d hh.1 hl
  have hl64 : d.length ≤ 64 * (s - 36) := Nat.le_trans hl (Nat.mul_le_mul_right _ hh.2)
  obtain ⟨q1, t, _, q3, q4, q5⟩ := app_spec 64 64 0 d B cut B' cut' true (Nat.le_refl _) (by decide) hl64 (Or.inl rfl) (by omega) h
  obtain ⟨z1, c, z2, z3⟩ := q3 rfl
  rw [Nat.add_zero, Nat.zero_add] at z3
  have hw : ∀ (j : Nat) (c : List Int), j < t → (chs (s - 36) 64 d)[j]? = some c → B'[first + j]? = some (lgBlk s (M + 1) r (d.length : Int) (j : Int) c) := fun j c hjt hj => by
    have := q4 j c hjt hj
    rw [Nat.add_zero, Nat.zero_add] at this
    exact this
  have q6 : ∀ k, (k < first ∨ first + t < k) → B'[k]? = B[k]? := fun k hk => q5 k (by rcases hk with hk | hk; exact Or.inl (by omega); exact Or.inr (Or.inl (by omega)))
  have hc := chs_mem 64 d hd c (List.mem_of_getElem? z2)
  have hlt : first + t < B.length := by omega
  have hold : B[first + t]? = some B[first + t] := List.getElem?_eq_getElem hlt
  have hgd : B.getD (first + t) [] = B[first + t] := by rw [List.getD_eq_getElem?_getD, hold]; rfl
  rw [hgd] at z3
  have hbo := hB _ (List.getElem_mem hlt)
  obtain ⟨t1, t2⟩ := torn (r := r) (ln := (d.length : Int)) (i := (t : Int)) (b := c) h36 hc.1 hc.2 hM hbo hp
  refine ⟨q1, fun l hlm => ?_, fun k hk => q6 k (by omega), ?_⟩
  · obtain ⟨k, hk, he⟩ := List.mem_iff_getElem.1 hlm
    have hk2 : B'[k]? = some l := by rw [List.getElem?_eq_getElem hk, he]
    rcases (show k < first ∨ first + t < k ∨ (first ≤ k ∧ k < first + t) ∨ k = first + t by omega) with h1 | h1 | h1 | h1
    · rw [q6 k (Or.inl h1)] at hk2
      exact (hB l (List.mem_of_getElem? hk2)).mono (by omega)
    · rw [q6 k (Or.inr h1)] at hk2
      exact (hB l (List.mem_of_getElem? hk2)).mono (by omega)
    · obtain ⟨j, rfl⟩ : ∃ j, k = first + j := ⟨k - first, by omega⟩
      have hjl : j < (chs (s - 36) 64 d).length := by omega
      have h2 := hw j _ (by omega) (List.getElem?_eq_getElem hjl)
      rw [hk2] at h2
      rw [Option.some.inj h2]
      have hc2 := chs_mem 64 d hd _ (List.getElem_mem hjl)
      exact blk_ok (by omega) hc2.1 hc2.2 (by omega)
    · subst h1
      rw [hk2] at z3
      rw [Option.some.inj z3]
      exact t1
  · rcases t2 with e | e | e
    · rw [e] at z3
      rcases Nat.eq_zero_or_pos t with h0 | h0
      · left
        intro k
        by_cases hk : k = first + t
        · rw [hk, z3, hold]
        · exact q6 k (by omega)
      · right; left
        refine ⟨M + 1, r, d, t, _, by omega, hr, ⟨hl64, hl2⟩, z1, by omega, hw, z3, ?_⟩
        rcases old_mark h36 hbo with h1 | h1
        · exact Or.inl h1
        · exact Or.inr ⟨h0, h1⟩
    · rw [e] at z3
      have hw' : ∀ (j : Nat) (c : List Int), j < t + 1 → (chs (s - 36) 64 d)[j]? = some c → B'[first + j]? = some (lgBlk s (M + 1) r (d.length : Int) (j : Int) c) := fun j c' hjt hj => by
        rcases Nat.lt_or_ge j t with h1 | h1
        · exact hw j c' h1 hj
        · obtain rfl : j = t := by omega
          rw [z2] at hj
          obtain rfl := Option.some.inj hj
          exact z3
      by_cases hlast : t + 1 = (chs (s - 36) 64 d).length
      · right; right
        exact ⟨by omega, hr, ⟨hl64, hl2⟩, fun j c' hj => hw' j c' (by rw [hlast]; exact (List.getElem?_eq_some_iff.1 hj).1) hj⟩
      · right; left
        have hlt2 : first + (t + 1) < B.length := by omega
        have hnx : B'[first + (t + 1)]? = some B[first + (t + 1)] := by rw [q6 _ (Or.inr (by omega))]; exact List.getElem?_eq_getElem hlt2
        refine ⟨M + 1, r, d, t + 1, _, by omega, hr, ⟨hl64, hl2⟩, by omega, by omega, hw', hnx, ?_⟩
        rcases old_mark h36 (hB _ (List.getElem_mem hlt2)) with h1 | h1
        · exact Or.inl h1
        · exact Or.inr ⟨by omega, h1⟩
    · right; left
      exact ⟨M + 1, r, d, t, _, by omega, hr, ⟨hl64, hl2⟩, z1, by omega, hw, z3, Or.inl e⟩
end Go.Proofs.YtgeggcifhojpmaaDoor.PB
/- Plain: a log's invariant over its disk's blocks: kept by Append, told anew by Open. -/
namespace Go.Proofs.YtgeggcifhojpmaaDoor.PB
open Go.RowKit Go.Proofs.YtgeggcifhojpmaaDoorW.PrintWords Go.Proofs.YtgeggcifhojpmaaDoorW.PrintLast Go.Proofs.YtgeggcifhojpmaaDoorW.PrintMore
attribute [local go_sem] max2_mx min2_mn max_two min_two max_three min_three max_four min_four   -- for this text's walks alone
set_option linter.unusedVariables false
set_option linter.unusedSimpArgs false

/-- What a slot holds: none, or a record of a number, with a mark. -/
structure SlotW (s n : Nat) (B : List (List Int)) (slot : Nat) (m r : Int) (d : List Int) : Prop where
  whole : WS s B (slot * (n / 2)) m r d
  fits : d.length ≤ lgRoom n s
def SlotN (s n : Nat) (B : List (List Int)) (slot : Nat) : Prop := NS s (n / 2) B (slot * (n / 2))
/-- A log over a disk: l the records that are there, the last first (none, one or two). -/
structure LI (s n : Nat) (B : List (List Int)) (mk : Int) (has : Bool) (rc : Int) (sl : Nat) (l : List (List Int)) : Prop where
  big : 256 ≤ s ∧ s ≤ 65536 ∧ 4 ≤ n ∧ n ≤ 64
  len : B.length = n
  ok : ∀ x ∈ B, BOK s mk x
  mk0 : 0 ≤ mk
  slot : sl ≤ 1
  st : (has = false ∧ rc = 0 ∧ sl = 0 ∧ l = [] ∧ SlotN s n B 0 ∧ SlotN s n B 1) ∨
    (has = true ∧ 0 < rc ∧ ∃ m d, m ≤ mk ∧ SlotW s n B sl m rc d ∧ ((l = [d] ∧ SlotN s n B (1 - sl)) ∨ ∃ m2 d2, l = [d, d2] ∧ m2 < m ∧ SlotW s n B (1 - sl) m2 (rc - 1) d2))
theorem room_le {s n : Nat} (h : 256 ≤ s ∧ s ≤ 65536 ∧ 4 ≤ n ∧ n ≤ 64) : lgRight n s = true ∧ lgRoom n s ≤ n / 2 * (s - 36) ∧ lgRoom n s ≤ 16384 := by
  have h1 : lgRight n s = true := by unfold lgRight; simp; omega
  unfold lgRoom
  rw [h1, if_pos rfl]
  exact ⟨rfl, Nat.min_le_left _ _, Nat.min_le_right _ _⟩
theorem slot_le {n sl : Nat} (h : sl ≤ 1) : sl * (n / 2) + n / 2 ≤ n := by
  have := Nat.mul_le_mul_right (n / 2) h
  omega
theorem slot_apart {n a b k : Nat} (ha : a ≤ 1) (hb : b ≤ 1) (hne : a ≠ b) (h1 : a * (n / 2) ≤ k) (h2 : k < a * (n / 2) + n / 2) : k < b * (n / 2) ∨ b * (n / 2) + n / 2 ≤ k := by
  rcases (show (a = 0 ∧ b = 1) ∨ (a = 1 ∧ b = 0) by omega) with ⟨rfl, rfl⟩ | ⟨rfl, rfl⟩ <;> omega
theorem SlotW.same {s n slot : Nat} {B B' : List (List Int)} {m r : Int} {d : List Int} (h : SlotW s n B slot m r d) (hb : 256 ≤ s ∧ s ≤ 65536 ∧ 4 ≤ n ∧ n ≤ 64) (hB : ∀ k, slot * (n / 2) ≤ k → k < slot * (n / 2) + n / 2 → B'[k]? = B[k]?) : SlotW s n B' slot m r d :=
  ⟨h.whole.same (half := n / 2) (by omega) (Nat.le_trans h.fits (room_le hb).2.1) hB, h.fits⟩
theorem SlotN.same {s n slot : Nat} {B B' : List (List Int)} (h : SlotN s n B slot) (hB : ∀ k, slot * (n / 2) ≤ k → k < slot * (n / 2) + n / 2 → B'[k]? = B[k]?) : SlotN s n B' slot := NS.same h hB
theorem lgTo_le {has : Bool} {sl : Nat} (h : sl ≤ 1) : lgTo has sl ≤ 1 := by unfold lgTo; split <;> omega
/-- A record is appended. -/
theorem LI.good {s n p : Nat} {B B' : List (List Int)} {mk rc cut cut' : Int} {has : Bool} {sl : Nat} {l : List (List Int)} {b : List Int} (h : LI s n B mk has rc sl l) (hmk : mk < 18446744073709551615) (hrc : rc < 18446744073709551615) (hb : IsB b) (hl : b.length ≤ lgRoom n s)
    (ha : lgApp s p (lgTo has sl * (n / 2)) (mk + 1) (rc + 1) (b.length : Int) 64 0 b B cut = some (B', cut', false)) : LI s n B' (mk + 1) true (rc + 1) (lgTo has sl) (b :: l.take 1) := by
  have hr := room_le h.big
  have hto := lgTo_le (has := has) h.slot
  have hrc0 : 0 ≤ rc := by rcases h.st with ⟨_, h1, _⟩ | ⟨_, h1, _⟩ <;> omega
  obtain ⟨q1, q2, q3, q4⟩ := app_good (half := n / 2) (by have := h.big; omega) (by have := h.big; omega) (by rw [h.len]; exact slot_le hto) h.ok ⟨h.mk0, hmk⟩ (by omega) hb (Nat.le_trans hl hr.2.1) (by omega) ha
  have hkeep : ∀ a, a ≤ 1 → a ≠ lgTo has sl → ∀ k, a * (n / 2) ≤ k → k < a * (n / 2) + n / 2 → B'[k]? = B[k]? := fun a ha1 hne k h1 h2 => q4 k (slot_apart ha1 hto hne h1 h2)
  refine ⟨h.big, by rw [q1, h.len], q2, by have := h.mk0; omega, hto, Or.inr ⟨rfl, by omega, mk + 1, b, Int.le_refl _, ⟨q3, hl⟩, ?_⟩⟩
  rcases h.st with ⟨rfl, rfl, rfl, rfl, hn0, hn1⟩ | ⟨rfl, _, m, d, hm, hw, hx⟩
  · exact Or.inl ⟨rfl, SlotN.same hn1 (hkeep 1 (by omega) (by decide))⟩
  · have h1 : lgTo true sl = 1 - sl := rfl
    have h2 : 1 - lgTo true sl = sl := by have := h.slot; rw [h1]; omega
    refine Or.inr ⟨m, d, ?_, by omega, ?_⟩
    · rcases hx with ⟨rfl, _⟩ | ⟨m2, d2, rfl, _⟩ <;> rfl
    · rw [h2, show rc + 1 - 1 = rc by omega]
      exact hw.same h.big (hkeep sl h.slot (by rw [h1]; have := h.slot; omega))
/-- What Open finds. -/
theorem LI.found {s n : Nat} {B : List (List Int)} {mk rc : Int} {has : Bool} {sl : Nat} {l : List (List Int)} (h : LI s n B mk has rc sl l) :
    ∃ o : Nat → Option Rc, (∀ j, j ≤ 1 → lgRec s n B j = some (o j)) ∧ (lgSt o 2).1.map (·.2.2) = l.reverse ∧ (lgSt o 2).2 = sl ∧ ((lgSt o 2).1.getLast?).isSome = has ∧ ((lgSt o 2).1.getLast?.map (·.2.1)).getD 0 = rc := by
  have hs36 : 37 ≤ s := by have := h.big; omega
  have hs6 : s ≤ 65536 := h.big.2.1
  rcases h.st with ⟨rfl, rfl, rfl, rfl, hn0, hn1⟩ | ⟨rfl, _, m, d, hm, hw, hx⟩
  · refine ⟨fun _ => none, fun j hj => ?_, rfl, rfl, rfl, rfl⟩
    rcases (show j = 0 ∨ j = 1 by omega) with rfl | rfl
    · exact rec_none hn0 hs36 hs6
    · exact rec_none hn1 hs36 hs6
  · have r1 := rec_whole hw.whole hs36 hs6 hw.fits
    rcases (show sl = 0 ∨ sl = 1 by have := h.slot; omega) with rfl | rfl
    · rcases hx with ⟨rfl, hn⟩ | ⟨m2, d2, rfl, hlt, hw2⟩
      · refine ⟨fun j => if j = 0 then some (m, rc, d) else none, fun j hj => ?_, rfl, rfl, rfl, rfl⟩
        rcases (show j = 0 ∨ j = 1 by omega) with rfl | rfl
        · exact r1
        · exact rec_none hn hs36 hs6
      · have r2 := rec_whole hw2.whole hs36 hs6 hw2.fits
        have e : lgSt (fun j => if j = 0 then some (m, rc, d) else some (m2, rc - 1, d2)) 2 = ([(m2, rc - 1, d2), (m, rc, d)], 0) := by
          show (if m2 < m then _ else _) = _
          rw [if_pos hlt]
          rfl
        refine ⟨fun j => if j = 0 then some (m, rc, d) else some (m2, rc - 1, d2), fun j hj => ?_, by rw [e]; rfl, by rw [e], by rw [e]; rfl, by rw [e]; rfl⟩
        rcases (show j = 0 ∨ j = 1 by omega) with rfl | rfl
        · exact r1
        · exact r2
    · rcases hx with ⟨rfl, hn⟩ | ⟨m2, d2, rfl, hlt, hw2⟩
      · refine ⟨fun j => if j = 0 then none else some (m, rc, d), fun j hj => ?_, rfl, rfl, rfl, rfl⟩
        rcases (show j = 0 ∨ j = 1 by omega) with rfl | rfl
        · exact rec_none hn hs36 hs6
        · exact r1
      · have r2 := rec_whole hw2.whole hs36 hs6 hw2.fits
        have e : lgSt (fun j => if j = 0 then some (m2, rc - 1, d2) else some (m, rc, d)) 2 = ([(m2, rc - 1, d2), (m, rc, d)], 1) := by
          show (if m < m2 then _ else _) = _
          rw [if_neg (by omega)]
          rfl
        refine ⟨fun j => if j = 0 then some (m2, rc - 1, d2) else some (m, rc, d), fun j hj => ?_, by rw [e]; rfl, by rw [e], by rw [e]; rfl, by rw [e]; rfl⟩
        rcases (show j = 0 ∨ j = 1 by omega) with rfl | rfl
        · exact r2
        · exact r1
theorem SlotW.le_max {s n slot : Nat} {B : List (List Int)} {m r : Int} {d : List Int} (h : SlotW s n B slot m r d) (h36 : 36 ≤ s) (hs : ∀ x ∈ B, x.length = s ∧ IsB x) : m ≤ lgMax B := by
  have hb := h.whole.at_ 0 _ rfl
  have hm := List.mem_of_getElem? hb
  have h1 := (lgMax_ok hm (hs _ hm).1 (hs _ hm).2).head
  rw [List.drop_zero, blk_head, un_be8 m (by have := h.whole.mark; omega) h.whole.mark.2] at h1
  exact h1
/-- Opened: the marks are counted on from the greatest one that is there. -/
theorem LI.opened {s n : Nat} {B : List (List Int)} {mk rc : Int} {has : Bool} {sl : Nat} {l : List (List Int)} (h : LI s n B mk has rc sl l) : LI s n B (lgMax B) has rc sl l ∧ lgMax B ≤ mk := by
  refine ⟨⟨h.big, h.len, fun x hx => lgMax_ok hx (h.ok x hx).len (h.ok x hx).bytes, lgMax_nonneg B, h.slot, ?_⟩, lgMax_le h.mk0 h.ok⟩
  rcases h.st with h1 | ⟨rfl, h2, m, d, hm, hw, hx⟩
  · exact Or.inl h1
  · exact Or.inr ⟨rfl, h2, m, d, hw.le_max (by have := h.big; omega) (fun x hx => ⟨(h.ok x hx).len, (h.ok x hx).bytes⟩), hw, hx⟩
/-- An Append that fell: what was there is there, or the new record, whole. -/
theorem LI.fell {s n p : Nat} {B B' : List (List Int)} {mk rc cut cut' : Int} {has : Bool} {sl : Nat} {l : List (List Int)} {b : List Int} (h : LI s n B mk has rc sl l) (hp : p ≤ s) (hmk : mk ≤ 254) (hrc : rc < 18446744073709551615) (hb : IsB b) (hl : b.length ≤ lgRoom n s)
    (ha : lgApp s p (lgTo has sl * (n / 2)) (mk + 1) (rc + 1) (b.length : Int) 64 0 b B cut = some (B', cut', true)) :
    (∃ l', LI s n B' (mk + 1) has rc sl l' ∧ (l' = l ∨ l' = l.take 1)) ∨ LI s n B' (mk + 1) true (rc + 1) (lgTo has sl) (b :: l.take 1) := by
  have hr := room_le h.big
  have hto := lgTo_le (has := has) h.slot
  have hrc0 : 0 ≤ rc := by rcases h.st with ⟨_, h1, _⟩ | ⟨_, h1, _⟩ <;> omega
  obtain ⟨q1, q2, q4, q3⟩ := app_fell (half := n / 2) (by have := h.big; omega) hp (by have := h.big; omega) (by rw [h.len]; exact slot_le hto) h.ok ⟨h.mk0, hmk⟩ (by omega) hb (Nat.le_trans hl hr.2.1) (by omega) ha
  have hkeep : ∀ a, a ≤ 1 → a ≠ lgTo has sl → ∀ k, a * (n / 2) ≤ k → k < a * (n / 2) + n / 2 → B'[k]? = B[k]? := fun a ha1 hne k h1 h2 => q4 k (slot_apart ha1 hto hne h1 h2)
  have hmk0 := h.mk0
  rcases q3 with q3 | q3 | q3
  · refine Or.inl ⟨l, ⟨h.big, by rw [q1, h.len], q2, by omega, h.slot, ?_⟩, Or.inl rfl⟩
    rcases h.st with ⟨h1, h2, h3, h4, hn0, hn1⟩ | ⟨h1, h2, m, d, hm, hw, hx⟩
    · exact Or.inl ⟨h1, h2, h3, h4, SlotN.same hn0 (fun k _ _ => q3 k), SlotN.same hn1 (fun k _ _ => q3 k)⟩
    · refine Or.inr ⟨h1, h2, m, d, by omega, hw.same h.big (fun k _ _ => q3 k), ?_⟩
      rcases hx with ⟨e, hn⟩ | ⟨m2, d2, e, hlt, hw2⟩
      · exact Or.inl ⟨e, SlotN.same hn (fun k _ _ => q3 k)⟩
      · exact Or.inr ⟨m2, d2, e, hlt, hw2.same h.big (fun k _ _ => q3 k)⟩
  · rcases h.st with ⟨rfl, rfl, rfl, rfl, hn0, hn1⟩ | ⟨rfl, h2, m, d, hm, hw, hx⟩
    · exact Or.inl ⟨[], ⟨h.big, by rw [q1, h.len], q2, by omega, by omega, Or.inl ⟨rfl, rfl, rfl, rfl, q3, SlotN.same hn1 (hkeep 1 (by omega) (by decide))⟩⟩, Or.inl rfl⟩
    · have h1 : lgTo true sl = 1 - sl := rfl
      refine Or.inl ⟨[d], ⟨h.big, by rw [q1, h.len], q2, by omega, h.slot, Or.inr ⟨rfl, h2, m, d, by omega, hw.same h.big (hkeep sl h.slot (by rw [h1]; have := h.slot; omega)), Or.inl ⟨rfl, ?_⟩⟩⟩, Or.inr ?_⟩
      · rw [h1] at q3
        exact q3
      · rcases hx with ⟨rfl, _⟩ | ⟨m2, d2, rfl, _⟩ <;> rfl
  · refine Or.inr ⟨h.big, by rw [q1, h.len], q2, by omega, hto, Or.inr ⟨rfl, by omega, mk + 1, b, Int.le_refl _, ⟨q3, hl⟩, ?_⟩⟩
    rcases h.st with ⟨rfl, rfl, rfl, rfl, hn0, hn1⟩ | ⟨rfl, _, m, d, hm, hw, hx⟩
    · exact Or.inl ⟨rfl, SlotN.same hn1 (hkeep 1 (by omega) (by decide))⟩
    · have h1 : lgTo true sl = 1 - sl := rfl
      have h2 : 1 - lgTo true sl = sl := by have := h.slot; rw [h1]; omega
      refine Or.inr ⟨m, d, ?_, by omega, ?_⟩
      · rcases hx with ⟨rfl, _⟩ | ⟨m2, d2, rfl, _⟩ <;> rfl
      · rw [h2, show rc + 1 - 1 = rc by omega]
        exact hw.same h.big (hkeep sl h.slot (by rw [h1]; have := h.slot; omega))
end Go.Proofs.YtgeggcifhojpmaaDoor.PB
/- A log over its disk as one state; what Open, Append, Cut, Power, Records, Last do to it. -/
namespace Go.Proofs.YtgeggcifhojpmaaDoor.PB
open Go.RowKit Go.Proofs.YtgeggcifhojpmaaDoorW.PrintWords Go.Proofs.YtgeggcifhojpmaaDoorW.PrintLast Go.Proofs.YtgeggcifhojpmaaDoorW.PrintMore
attribute [local go_sem] max2_mx min2_mn max_two min_two max_three min_three max_four min_four   -- for this text's walks alone
set_option linter.unusedVariables false
set_option linter.unusedSimpArgs false

theorem un_zeros : ∀ n, un (List.replicate n 0) = 0
  | 0 => rfl
  | n + 1 => by rw [List.replicate_succ', un_snoc, un_zeros n]; rfl
theorem read_zeros (s : Nat) : lgRead (List.replicate s 0) = none := by
  unfold lgRead
  rw [if_pos (Or.inl _)]
  rw [List.drop_zero, List.take_replicate]
  exact un_zeros _
theorem LI.start {s n : Nat} (h : 256 ≤ s ∧ s ≤ 65536 ∧ 4 ≤ n ∧ n ≤ 64) : LI s n (List.replicate n (List.replicate s 0)) 0 false 0 0 [] := by
  have hN : ∀ k, k ≤ 1 → SlotN s n (List.replicate n (List.replicate s 0)) k := fun k hk =>
    ⟨1, 0, [], 0, List.replicate s 0, by decide, by decide, ⟨by simp, by decide⟩, by simp [chs], by omega, fun j c hj => absurd hj (by omega), by
      have := slot_le (n := n) hk
      rw [Nat.add_zero, List.getElem?_replicate, if_pos (by omega)], Or.inl (read_zeros s)⟩
  refine ⟨h, List.length_replicate, fun x hx => ?_, Int.le_refl _, by omega, Or.inl ⟨rfl, rfl, rfl, rfl, hN 0 (by omega), hN 1 (by omega)⟩⟩
  obtain rfl := (List.mem_replicate.1 hx).2
  refine ⟨List.length_replicate, IsB.zeros s, ?_, ?_⟩
  · rw [List.drop_zero, List.take_replicate, un_zeros]; exact Int.le_refl _
  · rw [List.drop_replicate, List.take_replicate, un_zeros]; exact Int.le_refl _
/-- What lgApp's turns come to. -/
structure AppT (cut : Int) (res : List (List Int) × Int × Bool) : Prop where
  neg : cut < 0 → res.2.1 = cut ∧ res.2.2 = false
  pos : 0 ≤ cut → 0 ≤ res.2.1 ∧ res.2.1 ≤ cut
theorem app_total {s p first : Nat} {m r ln : Int} : ∀ (f i fuel : Nat) (rest : List Int) (B : List (List Int)) (cut : Int), rest.length ≤ f * (s - 36) → f + 2 ≤ fuel → ∃ res, lgApp s p first m r ln fuel i rest B cut = some res ∧ AppT cut res
  | f, i, 0, rest, B, cut, _, hfu => by omega
  | f, i, fuel + 1, rest, B, cut, hle, hfu => by
    unfold lgApp
    split
    · split
      · rename_i h0
        subst h0
        exact ⟨_, rfl, ⟨fun h => by omega, fun _ => ⟨Int.le_refl _, Int.le_refl _⟩⟩⟩
      · rename_i hne hc
        have hrec : ∃ res, lgApp s p first m r ln fuel (i + 1) (rest.drop (s - 36)) (B.set (first + i) (lgBlk s m r ln (i : Int) (rest.take (s - 36)))) (if 0 < cut then cut - 1 else cut) = some res ∧ AppT (if 0 < cut then cut - 1 else cut) res := by
          cases f with
          | zero =>
            have hr : rest = [] := List.length_eq_zero_iff.1 (by omega)
            subst hr
            obtain ⟨fu, rfl⟩ : ∃ k, fuel = k + 1 := ⟨fuel - 1, by omega⟩
            unfold lgApp
            rw [List.drop_nil, if_neg (by rintro (h | h); · omega
                                          · exact h rfl)]
            exact ⟨_, rfl, ⟨fun h => ⟨rfl, rfl⟩, fun h => ⟨h, Int.le_refl _⟩⟩⟩
          | succ f => exact app_total f (i + 1) fuel _ _ _ (by rw [List.length_drop]; rw [Nat.succ_mul] at hle; omega) (by omega)
        obtain ⟨res, h1, h2⟩ := hrec
        refine ⟨res, h1, ⟨fun h => ?_, fun h => ?_⟩⟩
        · have := h2.neg (by split <;> omega)
          rw [if_neg (by omega)] at this
          exact this
        · have h3 : 0 < cut := by omega
          have := h2.pos (by split <;> omega)
          rw [if_pos h3] at this
          omega
    · exact ⟨_, rfl, ⟨fun h => ⟨rfl, rfl⟩, fun h => ⟨h, Int.le_refl _⟩⟩⟩
theorem own_lower {w : World} {base base' : Nat} {e : TypeId} {size : Nat} {v : Value} {n : Nat} {xs : List Value} (hb : base' ≤ base) (h : w.ownsRow base e size v n xs) : w.ownsRow base' e size v n xs := by
  refine ⟨h.1, ?_⟩
  rcases h.2 with hn | ⟨g, cap, cur, hv, hg, rest⟩
  · exact .inl hn
  · exact .inr ⟨g, cap, cur, hv, Nat.le_trans hb hg, rest⟩
/-- A disk that holds records: l, the last first; rc how many there were; no mark above M. -/
structure LD (w : World) (base g q s : Nat) (hs : List Nat) (cut pre : Int) (dead : Bool) (l : List (List Int)) (rc M : Int) : Prop where
  it : ∃ B mk has sl, DK w base g q s hs B cut pre dead ∧ LI s hs.length B mk has rc sl l ∧ mk ≤ M
/-- A log over it. -/
structure LO (w : World) (base g q s : Nat) (hs : List Nat) (cut pre : Int) (dead : Bool) (lb : Nat) (l : List (List Int)) (rc M : Int) : Prop where
  it : ∃ B mk has sl la ll lc, DK w base g q s hs B cut pre dead ∧ LI s hs.length B mk has rc sl l ∧ (mk ≤ M ∧ base ≤ lb) ∧ LogAt w base g lb la ll lc has rc mk sl (l.headD [])
/-- A log's own cells, whatever is in them. -/
structure LX (w : World) (g lb : Nat) : Prop where
  it : ∃ (la : Option Addr) (ll lc : Nat) (has : Bool) (rc mk : Int) (sl : Nat), w.heap[lb]? = some (.cells #[.pointer (some ⟨g, 0, none⟩), .slice la ll lc, .bool has, .int .u64 rc, .int .u64 mk, .int .i64 (sl : Int)] 59 (0, 0))
section
variable {w w' : World} {base g q s lb : Nat} {hs : List Nat} {cut pre rc M : Int} {dead : Bool} {l : List (List Int)}
theorem LO.ld (h : LO w base g q s hs cut pre dead lb l rc M) : LD w base g q s hs cut pre dead l rc M := by
  obtain ⟨B, mk, has, sl, la, ll, lc, h1, h2, h3, h4⟩ := h.it
  exact ⟨B, mk, has, sl, h1, h2, h3.1⟩
theorem LO.lx (h : LO w base g q s hs cut pre dead lb l rc M) : LX w g lb := by
  obtain ⟨B, mk, has, sl, la, ll, lc, h1, h2, h3, h4⟩ := h.it
  exact ⟨la, ll, lc, has, rc, mk, sl, h4.cells⟩
theorem LD.big (h : LD w base g q s hs cut pre dead l rc M) : 256 ≤ s ∧ s ≤ 65536 ∧ 4 ≤ hs.length ∧ hs.length ≤ 64 := by
  obtain ⟨B, mk, has, sl, h1, h2, h3⟩ := h.it
  exact h2.big
theorem LD.mono {M' : Int} (h : LD w base g q s hs cut pre dead l rc M) (hM : M ≤ M') : LD w base g q s hs cut pre dead l rc M' := by
  obtain ⟨B, mk, has, sl, h1, h2, h3⟩ := h.it
  exact ⟨B, mk, has, sl, h1, h2, Int.le_trans h3 hM⟩
theorem LO.mono {M' : Int} (h : LO w base g q s hs cut pre dead lb l rc M) (hM : M ≤ M') : LO w base g q s hs cut pre dead lb l rc M' := by
  obtain ⟨B, mk, has, sl, la, ll, lc, h1, h2, h3, h4⟩ := h.it
  exact ⟨B, mk, has, sl, la, ll, lc, h1, h2, ⟨Int.le_trans h3.1 hM, h3.2⟩, h4⟩
theorem LD.under (h : LD w base g q s hs cut pre dead l rc M) (hb : Below w.heap.size w w') : LD w' base g q s hs cut pre dead l rc M := by
  obtain ⟨B, mk, has, sl, h1, h2, h3⟩ := h.it
  exact ⟨B, mk, has, sl, h1.under hb, h2, h3⟩
theorem own_under {w w' : World} {b : Nat} {e : TypeId} {size n : Nat} {v : Value} {xs : List Value} (h : w.ownsRow b e size v n xs) (hb : Below w.heap.size w w') : w'.ownsRow b e size v n xs :=
  own_move h (fun k hk => by
    obtain ⟨cs, hc⟩ := own_typed h k hk
    exact hb.block k (blk_lt hc))
theorem LO.under (h : LO w base g q s hs cut pre dead lb l rc M) (hb : Below w.heap.size w w') : LO w' base g q s hs cut pre dead lb l rc M := by
  obtain ⟨B, mk, has, sl, la, ll, lc, h1, h2, h3, h4⟩ := h.it
  exact ⟨B, mk, has, sl, la, ll, lc, h1.under hb, h2, h3, ⟨blk_below h4.cells hb, h4.len, own_under h4.own hb⟩⟩
theorem LX.under (h : LX w g lb) (hb : Below w.heap.size w w') : LX w' g lb := by
  obtain ⟨la, ll, lc, has, rc, mk, sl, h1⟩ := h.it
  exact ⟨la, ll, lc, has, rc, mk, sl, blk_below h1 hb⟩
theorem LD.lt (h : LD w base g q s hs cut pre dead l rc M) : g < w.heap.size ∧ q < w.heap.size ∧ ∀ b ∈ hs, b < w.heap.size := by
  obtain ⟨B, mk, has, sl, h1, h2, h3⟩ := h.it
  exact h1.lt
theorem LD.own (h : LD w base g q s hs cut pre dead l rc M) : base ≤ g ∧ base ≤ q ∧ ∀ b ∈ hs, base ≤ b := by
  obtain ⟨B, mk, has, sl, h1, h2, h3⟩ := h.it
  exact h1.own
theorem LD.g55 (h : LD w base g q s hs cut pre dead l rc M) : ∃ cs, w.heap[g]? = some (.cells cs 55 (0, 0)) := by
  obtain ⟨B, mk, has, sl, h1, h2, h3⟩ := h.it
  exact ⟨_, h1.top⟩
theorem LX.b59 (h : LX w g lb) : ∃ cs, w.heap[lb]? = some (.cells cs 59 (0, 0)) := by
  obtain ⟨la, ll, lc, has, rc, mk, sl, h1⟩ := h.it
  exact ⟨_, h1⟩
theorem LD.rc0 (h : LD w base g q s hs cut pre dead l rc M) : 0 ≤ rc ∧ (rc = 0 ↔ l = []) ∧ l.length ≤ 2 := by
  obtain ⟨B, mk, has, sl, h1, h2, h3⟩ := h.it
  rcases h2.st with ⟨_, rfl, _, rfl, _⟩ | ⟨_, h4, m, d, _, _, ⟨rfl, _⟩ | ⟨m2, d2, rfl, _⟩⟩
  · simp
  · refine ⟨by omega, ⟨fun h => by omega, fun h => by cases h⟩, by simp⟩
  · refine ⟨by omega, ⟨fun h => by omega, fun h => by cases h⟩, by simp⟩
theorem RW.form {w : World} {b0 : Nat} {v : Value} {all : List (List Int)} (h : RW w b0 v all) : ∃ A c, v = .slice A all.length c ∧ all.length ≤ c := by
  obtain ⟨us, h1, h2, h3⟩ := h.it
  rcases h2.2 with ⟨rfl, h4⟩ | ⟨g, cap, cur, rfl, hg, hh, h5, _⟩
  · exact ⟨none, 0, by rw [← h1, h4], by omega⟩
  · exact ⟨_, cap, by rw [h1], by omega⟩
theorem RW.kd {w : World} {b0 : Nat} {A : Option Addr} {n c : Nat} {all : List (List Int)} (h : RW w b0 (.slice A n c) all) (hn : all.length = n) (hm : n ≤ 1000000) : Kd.C (Kd.slice 5 (Kd.int .u8)) w A n all ∧ n ≤ c := by
  obtain ⟨us, h1, h2, h3⟩ := h.it
  obtain ⟨A', c', he, hc⟩ := h.form
  injection he with e1 e2 e3
  subst e1 e3
  rw [h1, hn] at h2
  exact ⟨kdRow h2 hn hm h3, by omega⟩
theorem LD.open2 (h : LD w base g q s hs cut pre false l rc M) (ge : Addr) (hge : w.cell? ⟨0, 0, none⟩ = some (.iface 91 (.pointer (some ge)))) :
    Calls Tryd.prog 15 #[.pointer (some ⟨g, 0, none⟩)] w fun e w' => ∃ lb A oc, e = .returned (.tuple #[.pointer (some ⟨lb, 0, none⟩), .slice A l.reverse.length oc, .int .i64 0]) ∧ w.heap.size ≤ lb ∧ l.reverse.length ≤ oc ∧ RW w' w.heap.size (.slice A l.reverse.length oc) l.reverse ∧ LO w' base g q s hs cut pre false lb l rc M ∧ Below w.heap.size w w' := by
  obtain ⟨B, mk, has, sl, h1, h2, h3⟩ := h.it
  obtain ⟨o, ho, q1, q2, q3, q4⟩ := h2.found
  obtain ⟨k1, k2⟩ := h2.opened
  have hlt := h1.lt.1
  refine (log_Open.runs h1 (by have := h2.big; omega) h2.big.2.2.2 h2.big.2.1 (room_le h2.big).1 (fun l hl => (h2.ok l hl).bytes) o ho ge hge).mono ?_
  rintro e w' ⟨hb, lb, A, oc, la, lc, rfl, c1, c2, c3, c4⟩
  have hlen : (lgSt o 2).1.length = l.reverse.length := by rw [← q1, List.length_map]
  have hd : ((lgSt o 2).1.getLast?.map (·.2.2)).getD [] = l.headD [] := by
    have h5 : ((lgSt o 2).1.map (·.2.2)).getLast? = l.reverse.getLast? := by rw [q1]
    rw [List.getLast?_map, List.getLast?_reverse] at h5
    rw [h5]
    cases l <;> rfl
  rw [hd, q2, q3, q4] at c4
  rw [q1, hlen] at c3
  rw [hlen] at c2 ⊢
  exact ⟨lb, A, oc, rfl, c1, c2, c3, ⟨B, lgMax B, has, sl, la, _, lc, h1.under hb, k1, ⟨Int.le_trans k2 h3, by have := h1.own; omega⟩, ⟨c4.cells, c4.len, own_lower (by have := h1.own; omega) c4.own⟩⟩, hb⟩
theorem LD.open_ (h : LD w base g q s hs cut pre false l rc M) (ge : Addr) (hge : w.cell? ⟨0, 0, none⟩ = some (.iface 91 (.pointer (some ge)))) :
    Calls Tryd.prog 15 #[.pointer (some ⟨g, 0, none⟩)] w fun e w' => ∃ lb A oc, e = .returned (.tuple #[.pointer (some ⟨lb, 0, none⟩), .slice A l.reverse.length oc, .int .i64 0]) ∧ w.heap.size ≤ lb ∧ l.reverse.length ≤ oc ∧ Kd.C (Kd.slice 5 (Kd.int .u8)) w' A l.reverse.length l.reverse ∧ LO w' base g q s hs cut pre false lb l rc M ∧ Below w.heap.size w w' :=
  (h.open2 ge hge).mono fun e w' ⟨lb, A, oc, h1, h2, h3, h4, h5, h6⟩ => ⟨lb, A, oc, h1, h2, h3, (h4.kd rfl (by have := h.rc0.2.2; rw [List.length_reverse]; omega)).1, h5, h6⟩
theorem LO.records (h : LO w base g q s hs cut pre dead lb l rc M) (hr : rc < 9223372036854775808) : Calls Tryd.prog 21 #[.pointer (some ⟨lb, 0, none⟩)] w fun e w' => e = .returned (.int .i64 rc) ∧ Below w.heap.size w w' := by
  have h0 := h.ld.rc0.1
  obtain ⟨B, mk, has, sl, la, ll, lc, h1, h2, h3, h4⟩ := h.it
  exact log_Records.calls h4.cells h0 hr
theorem LI.fits {s n : Nat} {B : List (List Int)} {mk rc : Int} {has : Bool} {sl : Nat} {l : List (List Int)} (h : LI s n B mk has rc sl l) : (l.headD []).length ≤ 16384 := by
  have h7 := (room_le h.big).2.2
  rcases h.st with ⟨_, rfl, _, rfl, _⟩ | ⟨_, h4, m, d, _, h6, ⟨rfl, _⟩ | ⟨m2, d2, rfl, _⟩⟩
  · simp
  · exact Nat.le_trans h6.fits h7
  · exact Nat.le_trans h6.fits h7
theorem LO.last (h : LO w base g q s hs cut pre dead lb l rc M) : Calls Tryd.prog 23 #[.pointer (some ⟨lb, 0, none⟩)] w fun e w' => ∃ v, e = .returned v ∧ w'.ownsRow w.heap.size 5 1 v (l.headD []).length (nums .u8 (l.headD [])) ∧ Below w.heap.size w w' := by
  obtain ⟨B, mk, has, sl, la, ll, lc, h1, h2, h3, h4⟩ := h.it
  have h5 := h2.fits
  have h6 := h4.len
  exact log_Last.calls h4.cells h4.own h4.len (by omega)
theorem LD.power (h : LD w base g q s hs cut pre dead l rc M) : Calls Tryd.prog 27 #[.pointer (some ⟨g, 0, none⟩)] w fun e w' => e = .returned (.tuple #[]) ∧ LD w' base g q s hs (-1) pre false l rc M ∧ DF (fun k => k = g) w w' := by
  obtain ⟨B, mk, has, sl, h1, h2, h3⟩ := h.it
  exact (disk_Power.calls h1).mono fun e w' ⟨q1, q2, q3⟩ => ⟨q1, ⟨B, mk, has, sl, q2, h2, h3⟩, q3⟩
theorem LD.cut_ (h : LD w base g q s hs cut pre dead l rc M) (n p : Int) : Calls Tryd.prog 25 #[.pointer (some ⟨g, 0, none⟩), .int .i64 n, .int .i64 p] w fun e w' => e = .returned (.tuple #[]) ∧ LD w' base g q s hs (mx n 0) (mn (mx p 0) (s : Int)) dead l rc M ∧ DF (fun k => k = g) w w' := by
  obtain ⟨B, mk, has, sl, h1, h2, h3⟩ := h.it
  exact (disk_Cut.calls h1 (by have := h2.big; omega) n p).mono fun e w' ⟨q1, q2, q3⟩ => ⟨q1, ⟨B, mk, has, sl, q2, h2, h3⟩, q3⟩
theorem LO.cut_ (h : LO w base g q s hs cut pre dead lb l rc M) (n p : Int) : Calls Tryd.prog 25 #[.pointer (some ⟨g, 0, none⟩), .int .i64 n, .int .i64 p] w fun e w' => e = .returned (.tuple #[]) ∧ LO w' base g q s hs (mx n 0) (mn (mx p 0) (s : Int)) dead lb l rc M ∧ DF (fun k => k = g) w w' := by
  obtain ⟨B, mk, has, sl, la, ll, lc, h1, h2, h3, h4⟩ := h.it
  refine (disk_Cut.calls h1 (by have := h2.big; omega) n p).mono fun e w' ⟨q1, q2, q3⟩ => ⟨q1, ⟨B, mk, has, sl, la, ll, lc, q2, h2, h3, ⟨(q3.block lb (blk_lt h4.cells) (fun e => blk_ne h4.cells h1.top (by decide) e)).trans h4.cells, h4.len, own_move h4.own (fun k hk => ?_)⟩⟩, q3⟩
  obtain ⟨cs, hc⟩ := own_typed h4.own k hk
  exact q3.block k (blk_lt hc) (fun e => blk_ne hc h1.top (by decide) e)
theorem LD.dead_ (h : LD w base g q s hs cut pre dead l rc M) : Calls Tryd.prog 26 #[.pointer (some ⟨g, 0, none⟩)] w fun e w' => e = .returned (.bool dead) ∧ Drawn0 w w' := by
  obtain ⟨B, mk, has, sl, h1, h2, h3⟩ := h.it
  exact disk_Dead.calls h1
theorem LD.blocks (h : LD w base g q s hs cut pre dead l rc M) : Calls Tryd.prog 17 #[.pointer (some ⟨g, 0, none⟩)] w fun e w' => e = .returned (.int .i64 (hs.length : Int)) ∧ Drawn0 w w' := by
  obtain ⟨B, mk, has, sl, h1, h2, h3⟩ := h.it
  exact disk_Blocks.calls h1
theorem LD.size (h : LD w base g q s hs cut pre dead l rc M) : Calls Tryd.prog 18 #[.pointer (some ⟨g, 0, none⟩)] w fun e w' => e = .returned (.int .i64 (s : Int)) ∧ Drawn0 w w' := by
  obtain ⟨B, mk, has, sl, h1, h2, h3⟩ := h.it
  exact disk_Size.calls h1 (by have := h2.big; omega)
theorem LD.room (h : LD w base g q s hs cut pre dead l rc M) : Calls Tryd.prog 16 #[.pointer (some ⟨g, 0, none⟩)] w fun e w' => e = .returned (.int .i64 (lgRoom hs.length s : Int)) ∧ Drawn0 w w' := by
  obtain ⟨B, mk, has, sl, h1, h2, h3⟩ := h.it
  exact log_Room.calls h1 (by have := h2.big; omega) h2.big.2.2.2 h2.big.2.1
theorem LD.append_fallen (h : LD w base g q s hs cut pre true l rc M) (hx : LX w g lb) (A : Option Addr) (n cap : Nat) (hshort : n ≤ lgRoom hs.length s) : Calls Tryd.prog 19 #[.pointer (some ⟨lb, 0, none⟩), .slice A n cap] w fun e w' => e = .returned (.int .i64 42) ∧ Below w.heap.size w w' := by
  obtain ⟨B, mk, has, sl, h1, h2, h3⟩ := h.it
  obtain ⟨la, ll, lc, has, rc, mk, sl, h4⟩ := hx.it
  exact log_Append.fallen h1 (by have := h2.big; omega) h2.big.2.2.2 h2.big.2.1 h4 rfl A n cap hshort
theorem LO.append_long (h : LO w base g q s hs cut pre dead lb l rc M) (A : Option Addr) (n cap : Nat) (hlong : lgRoom hs.length s < n) : Calls Tryd.prog 19 #[.pointer (some ⟨lb, 0, none⟩), .slice A n cap] w fun e w' => e = .returned (.int .i64 51) ∧ Below w.heap.size w w' := by
  obtain ⟨B, mk, has, sl, la, ll, lc, h1, h2, h3, h4⟩ := h.it
  exact log_Append.long h1 (by have := h2.big; omega) h2.big.2.2.2 h2.big.2.1 h4.cells A n cap hlong
theorem LO.ne (h : LO w base g q s hs cut pre dead lb l rc M) {ab : Nat} {cs : Array Value} (hblk : w.heap[ab]? = some (.cells cs 5 (0, 0))) (hab : ab ∉ hs) : ¬ (ab = g ∨ ab ∈ hs ∨ ab = lb) := by
  obtain ⟨B, mk, has, sl, la, ll, lc, h1, h2, h3, h4⟩ := h.it
  rintro (hh | hh | hh)
  · exact blk_ne hblk h1.top (by decide) hh
  · exact hab hh
  · exact blk_ne hblk h4.cells (by decide) hh
theorem LO.own (h : LO w base g q s hs cut pre dead lb l rc M) {k : Nat} (hk : k = g ∨ k ∈ hs ∨ k = lb) : base ≤ k := by
  obtain ⟨B, mk, has, sl, la, ll, lc, h1, h2, h3, h4⟩ := h.it
  rcases hk with rfl | hk | rfl
  · exact h1.own.1
  · exact h1.own.2.2 k hk
  · exact h3.2
theorem LO.lt (h : LO w base g q s hs cut pre dead lb l rc M) : lb < w.heap.size := by
  obtain ⟨B, mk, has, sl, la, ll, lc, h1, h2, h3, h4⟩ := h.it
  exact blk_lt h4.cells
theorem LO.above (h : LO w base g q s hs cut pre dead lb l rc M) {ab : Nat} (hab : w.heap.size ≤ ab) : ¬ (ab = g ∨ ab ∈ hs ∨ ab = lb) := by
  have h1 := h.lt
  have h2 := h.ld.lt
  rintro (hh | hh | hh)
  · omega
  · have := h2.2.2 ab hh; omega
  · omega
theorem LO.ne59 (h : LO w base g q s hs cut pre dead lb l rc M) {ab : Nat} {cs : Array Value} {t : TypeId} (hblk : w.heap[ab]? = some (.cells cs t (0, 0))) (ht : t ≠ 59) : ab ≠ lb := by
  obtain ⟨B, mk, has, sl, la, ll, lc, h1, h2, h3, h4⟩ := h.it
  exact blk_ne hblk h4.cells ht
/-- What Append does. -/
structure ApD (w : World) (base g q s : Nat) (hs : List Nat) (cut pre : Int) (lb : Nat) (l : List (List Int)) (rc M : Int) (bl : List Int) (e : Ending) (w' : World) : Prop where
  kept : DF (fun k => k = g ∨ k ∈ hs ∨ k = lb) w w'
  it : ∃ cut', (cut < 0 → cut' = cut) ∧ (0 ≤ cut → 0 ≤ cut' ∧ cut' ≤ cut) ∧
    ((e = .returned (.int .i64 0) ∧ LO w' base g q s hs cut' pre false lb (bl :: l.take 1) (rc + 1) (M + 1)) ∨
     (0 ≤ cut ∧ e = .returned (.int .i64 42) ∧ LX w' g lb ∧ ∃ l' rc', LD w' base g q s hs cut' pre true l' rc' (M + 1) ∧ ((rc' = rc ∧ (l' = l ∨ l' = l.take 1)) ∨ (rc' = rc + 1 ∧ l' = bl :: l.take 1))))
theorem LO.append (h : LO w base g q s hs cut pre false lb l rc M) (ab cap : Nat) (bl : List Int) (hcap : bl.length ≤ cap) (hsrc : ∀ (j : Nat) (x : Int), bl[j]? = some x → w.cell? ⟨ab, j, none⟩ = some (.int .u8 x)) (hab : ¬ (ab = g ∨ ab ∈ hs ∨ ab = lb)) (hbl : IsB bl) (hshort : bl.length ≤ lgRoom hs.length s) (hM : M ≤ 254 ∨ (cut < 0 ∧ M ≤ 1000000)) (hrc : rc ≤ 1000000) (p : Nat) (hp : pre = (p : Int) ∧ p ≤ s) (hct : -9223372036854775808 ≤ cut ∧ cut < 9223372036854775808) :
    Calls Tryd.prog 19 #[.pointer (some ⟨lb, 0, none⟩), .slice (some ⟨ab, 0, none⟩) bl.length cap] w fun e w' => ApD w base g q s hs cut pre lb l rc M bl e w' := by
  have h0 := h.ld.rc0.1
  obtain ⟨B, mk, has, sl, la, ll, lc, h1, h2, h3, h4⟩ := h.it
  have hmk0 := h2.mk0
  obtain ⟨res, hr, ht⟩ := app_total (s := s) (p := p) (first := lgTo has sl * (hs.length / 2)) (m := mk + 1) (r := rc + 1) (ln := (bl.length : Int)) (hs.length / 2) 0 64 bl B cut (Nat.le_trans hshort (room_le h2.big).2.1) (by have := h2.big; omega)
  refine (log_Append.runs h1 (by have := h2.big; omega) h2.big.2.2.2 h2.big.2.1 h4.cells rfl ab cap bl hcap hsrc hab hshort (room_le h2.big).1 h2.slot (by omega) (by omega) p hp hct res hr).mono ?_
  intro e w' HP
  refine ⟨HP.kept, res.2.1, fun hc => (ht.neg hc).1, ht.pos, ?_⟩
  obtain ⟨B', cut', dd⟩ := res
  have hdk := HP.disk
  dsimp only at *
  cases dd with
  | false =>
    obtain ⟨he, A, c, hcl, hown⟩ := HP.good rfl
    refine Or.inl ⟨he, ⟨B', mk + 1, true, lgTo has sl, A, bl.length, c, hdk, LI.good h2 (by omega) (by omega) hbl hshort hr, by omega, ⟨hcl, rfl, own_lower (by have := h1.own; have := h1.lt; omega) hown⟩⟩⟩
  | true =>
    obtain ⟨he, hcl⟩ := HP.fell rfl
    have hc0 : 0 ≤ cut := by
      rcases Int.lt_or_le cut 0 with hc | hc
      · have := (ht.neg hc).2; cases this
      · exact hc
    refine Or.inr ⟨hc0, he, ⟨la, ll, lc, has, rc, mk + 1, sl, hcl⟩, ?_⟩
    rcases LI.fell h2 hp.2 (by omega) (by omega) hbl hshort hr with ⟨l', k1, k2⟩ | k1
    · exact ⟨l', rc, ⟨B', mk + 1, has, sl, hdk, k1, by omega⟩, Or.inl ⟨rfl, k2⟩⟩
    · exact ⟨_, rc + 1, ⟨B', mk + 1, true, lgTo has sl, hdk, k1, by omega⟩, Or.inr ⟨rfl, rfl⟩⟩
end
/-- A new disk holds none. -/
theorem LD.new (a0 a1 : Int) (w : World) (h : 256 ≤ dkS a1 ∧ dkS a1 ≤ 65536 ∧ 4 ≤ dkN a0 ∧ dkN a0 ≤ 64) : Calls Tryd.prog 13 #[.int .i64 a0, .int .i64 a1] w fun e w' => ∃ g q hs, e = .returned (.pointer (some ⟨g, 0, none⟩)) ∧ LD w' w.heap.size g q (dkS a1) hs (-1) 0 false [] 0 0 ∧ hs.length = dkN a0 ∧ Below w.heap.size w w' :=
  (disk_New.calls a0 a1 w).mono fun e w' ⟨g, q, hs, h1, h2, h3, h4⟩ => ⟨g, q, hs, h1, ⟨_, 0, false, 0, h2, by rw [h3]; exact LI.start h, Int.le_refl _⟩, h3, h4⟩
end Go.Proofs.YtgeggcifhojpmaaDoor.PB
/- The laws' helps: record's contract; ends and Bytes told plainly. -/
namespace Go.Proofs.YtgeggcifhojpmaaDoor.PB
open Go.RowKit Go.Proofs.YtgeggcifhojpmaaDoorW.PrintWords Go.Proofs.YtgeggcifhojpmaaDoorW.PrintLast Go.Proofs.YtgeggcifhojpmaaDoorW.PrintMore
attribute [local go_sem] max2_mx min2_mn max_two min_two max_three min_three max_four min_four   -- for this text's walks alone
set_option linter.unusedVariables false
set_option linter.unusedSimpArgs false

def rcd (i : Int) (n : Nat) : List Int := (List.range n).map fun (k : Nat) => wrap64 (wrap64 (i * 31) + (k : Int)) % 256
theorem rcd_length (i : Int) (n : Nat) : (rcd i n).length = n := by simp [rcd]
theorem rcd_isB (i : Int) (n : Nat) : IsB (rcd i n) := fun x hx => by
  obtain ⟨k, _, rfl⟩ := List.mem_map.1 hx
  generalize wrap64 (wrap64 (i * 31) + (k : Int)) = z
  omega
def rcdU (i : Int) (n j : Nat) : List Int := (rcd i n).take j ++ List.replicate (n - j) 0
theorem rcdU_zero (i : Int) (n : Nat) : rcdU i n 0 = List.replicate n 0 := by simp [rcdU]
theorem rcdU_end (i : Int) (n : Nat) : rcdU i n n = rcd i n := by
  unfold rcdU
  rw [Nat.sub_self, List.take_of_length_le (by rw [rcd_length]; exact Nat.le_refl _)]
  simp
theorem rcdU_step (i : Int) (n j : Nat) (h : j < n) : (dkB (rcdU i n j)).setIfInBounds j (.int .u8 (wrap64 (wrap64 (i * 31) + (j : Int)) % 256)) = dkB (rcdU i n (j + 1)) := by
  rw [dkB_set]
  congr 1
  unfold rcdU
  obtain ⟨m, hm⟩ : ∃ m, n - j = m + 1 := ⟨n - j - 1, by omega⟩
  have hl : ((rcd i n).take j).length = j := by rw [List.length_take, rcd_length]; omega
  rw [hm, show n - (j + 1) = m by omega, List.replicate_succ, List.set_append_right _ _ (by omega), hl, Nat.sub_self, List.set_cons_zero, List.take_add_one, List.append_assoc]
  congr 1
  have : (rcd i n)[j]? = some (wrap64 (wrap64 (i * 31) + (j : Int)) % 256) := by simp [rcd, h]
  rw [this]
  rfl
theorem rcdU_old (i : Int) (n j : Nat) (h : j < n) : (dkB (rcdU i n j))[j]? = some (.int .u8 0) := by
  obtain ⟨m, hm⟩ : ∃ m, n - j = m + 1 := ⟨n - j - 1, by omega⟩
  have hl : ((rcd i n).take j).length = j := by rw [List.length_take, rcd_length]; omega
  unfold rcdU
  refine dkB_get ?_
  rw [hm, List.replicate_succ, List.getElem?_append_right (by omega), hl, Nat.sub_self]
  rfl
set_option maxHeartbeats 4000000 in
set_option maxRecDepth 100000 in
theorem record.some_ (i : Int) (n : Nat) (hn : n ≤ 1000000) (w : World) : Calls Tryd.prog 20 #[.int .i64 i, .int .i64 (n : Int)] w fun e w' => ∃ c, e = .returned (.slice (some ⟨c, 0, none⟩) n n) ∧ w'.heap[c]? = some (.cells (dkB (rcd i n)) 5 (0, 0)) ∧ w.heap.size ≤ c ∧ Below w.heap.size w w' := by
  have hmk := dk_make (n : Int) (by omega) (by omega)
  rw [Int.toNat_natCast] at hmk
  have HN := Aside0.mk hn
  clear hn
  have HB := Aside0.mk (Below.refl w.heap.size w)
  go_enter Tryd.func20, Tryd.ntmps20
  go_upto_region 2 with (fail)
  obtain ⟨c, hc⟩ : ∃ c, c = w.heap.size := ⟨_, rfl⟩
  have HX : Aside0 (w.heap.size ≤ c) := ⟨by omega⟩
  have n1_ : Aside0 ((w.alloc (.cells (dkB (List.replicate n 0)) 5)).heap[c]? = some (.cells (dkB (rcdU i n 0)) 5 (0, 0))) := ⟨by rw [hc, rcdU_zero]; exact blk_new w _⟩
  have n2_ : Aside0 (Below w.heap.size w (w.alloc (.cells (dkB (List.replicate n 0)) 5))) := ⟨below_alloc HB.out _⟩
  rw [← hc]
  generalize w.alloc (.cells (dkB (List.replicate n 0)) 5) = W at n1_ n2_ ⊢
  clear HB hc hmk
  have HV := n1_
  have HB := n2_
  clear n1_ n2_
  go_wp2
  go_loopg [6] n (fun kq v6 w' => ∃ (j : Nat), v6 = .int .i64 (j : Int) ∧ Aside0 (kq + j = n) ∧ Aside0 (w'.heap[c]? = some (.cells (dkB (rcdU i n j)) 5 (0, 0))) ∧ Aside0 (Below w.heap.size w w'))
  case atStart => exact ⟨0, rfl, ⟨rfl⟩, ⟨HV.out⟩, ⟨HB.out⟩⟩
  case round =>
    clear HV HB
    obtain ⟨j, rfl, HK, HV, HB⟩ := hrel
    by_cases c6 : j < n
    · have c6b : decide ((j : Int) < (n : Int)) = true := decide_eq_true (by omega)
      have c6c : decide (j < n) = true := decide_eq_true c6
      have q1 : (j < n) = True := eq_true c6
      have q2 : ((j : Int) < (n : Int)) = True := eq_true (by omega)
      have H6 := Aside0.mk c6
      clear c6
      have c0 : wr.cell? ⟨c, j, none⟩ = some (.int .u8 0) := (blk_cell HV.out j).trans (rcdU_old i n j H6.out)
      have z0 := blk_frozen HV.out j
      go_wp2
      have w7 : wrap64 ((j : Int) + 1) = ((j + 1 : Nat) : Int) := by unfold wrap64; have := H6.out; have := HN.out; omega
      have n0_ := Aside0.mk (blk_put HV.out j _ (rcdU_step i n j H6.out))
      have n1_ := Aside0.mk (Below.setCell (p := ⟨c, j, none⟩) HB.out HX.out (.int .u8 (wrap64 (wrap64 (i * 31) + (j : Int)) % 256)))
      go_roundg (gk - 1)
      case measure => have := HK.out; have := H6.out; omega
      case rel => exact ⟨j + 1, by first | rfl | (simp [w7]; done) | (simp only [w7]; rfl), ⟨by have := HK.out; have := H6.out; omega⟩, ⟨n0_.out⟩, ⟨n1_.out⟩⟩
    · have c6b : decide ((j : Int) < (n : Int)) = false := decide_eq_false (by omega)
      have c6c : decide (j < n) = false := decide_eq_false c6
      have el : j = n := by have := HK.out; omega
      clear c6
      subst el
      go_wp2
      (try simp only [Exit.inBlock, Exit.then])
      go_ret
      refine ⟨c, rfl, ?_, HX.out, HB.out⟩
      rw [← rcdU_end]
      exact HV.out
theorem blk_own {w : World} {c base : Nat} {d : List Int} (h : w.heap[c]? = some (.cells (dkB d) 5 (0, 0))) (hb : base ≤ c) (hd : d.length ≤ 1000000) : w.ownsRow base 5 1 (.slice (some ⟨c, 0, none⟩) d.length d.length) d.length (nums .u8 d) := by
  have hm : (1000000 : Nat) ≤ maxLen := by decide
  refine ⟨by simp [nums], Or.inr ⟨c, d.length, dkB d, rfl, hb, h, Nat.le_refl _, by omega, by rw [dkB_size]; omega, ?_⟩⟩
  rw [Nat.mul_one]
  show ((d.map (Value.int .u8)).toArray.toList).take d.length = nums .u8 d
  rw [List.take_of_length_le (by simp)]
  rfl
theorem ofNat_inj {x y : Int} (hx : 0 ≤ x ∧ x ≤ 255) (hy : 0 ≤ y ∧ y ≤ 255) (h : UInt8.ofNat x.toNat = UInt8.ofNat y.toNat) : x = y := by
  have := congrArg UInt8.toNat h
  rw [UInt8.toNat_ofNat', UInt8.toNat_ofNat'] at this
  omega
theorem map_inj8 : ∀ (l m : List Int), IsB l → IsB m → l.map (fun n => UInt8.ofNat n.toNat) = m.map (fun n => UInt8.ofNat n.toNat) → l = m
  | [], [], _, _, _ => rfl
  | [], _ :: _, _, _, h => by simp at h
  | _ :: _, [], _, _, h => by simp at h
  | x :: l, y :: m, hl, hm, h => by
    rw [List.map_cons, List.map_cons] at h
    injection h with h1 h2
    rw [ofNat_inj (hl x (by simp)) (hm y (by simp)) h1, map_inj8 l m (fun z hz => hl z (by simp [hz])) (fun z hz => hm z (by simp [hz])) h2]
theorem str_eq (l m : List Int) (hl : IsB l) (hm : IsB m) : ((strOfNums l).toList == (strOfNums m).toList) = decide (l = m) := by
  rw [Go.Lib.strOfNums_toList, Go.Lib.strOfNums_toList]
  by_cases h : l = m
  · rw [h, decide_eq_true rfl]
    simp
  · rw [decide_eq_false h]
    refine beq_eq_false_iff_ne.2 (fun e => h (map_inj8 l m hl hm e))
theorem bytes_f (l m : List Int) (hl : IsB l) (hm : IsB m) : lychhelp_Bytes.f l m = some (decide (l = m)) := by
  unfold lychhelp_Bytes.f
  rw [str_eq l m hl hm]
theorem bytes_f' (l m : List Int) (hl : IsB l) (hm : IsB m) : PC.lychhelp_Bytes.f l m = some (decide (l = m)) := by
  unfold PC.lychhelp_Bytes.f
  rw [str_eq l m hl hm]
/-- What ends tells. -/
def endsB (got all : List (List Int)) : Bool := decide (got <:+ all ∧ (got = [] → all = []))
theorem ends_l0 (got all : List (List Int)) (hg : ∀ x ∈ got, IsB x) (ha : ∀ x ∈ all, IsB x) (hle : got.length ≤ all.length) (hal : all.length ≤ 1000000) : ∀ (d i : Nat), i + d = got.length → PC.lychlaw10_ends.l0 (d + 1) got all (i : Int) = some (decide (got.drop i = all.drop (all.length - got.length + i)))
  | 0, i, h => by
    unfold PC.lychlaw10_ends.l0
    rw [if_neg (by omega), List.drop_of_length_le (by omega), List.drop_of_length_le (by omega)]
    rfl
  | d + 1, i, h => by
    have e1 : wrap64 (wrap64 ((all.length : Int) - (got.length : Int)) + (i : Int)) = ((all.length - got.length + i : Nat) : Int) := by
      rw [show wrap64 ((all.length : Int) - (got.length : Int)) = ((all.length - got.length : Nat) : Int) by unfold wrap64; omega]
      unfold wrap64; omega
    have e2 : wrap64 ((i : Int) + 1) = ((i + 1 : Nat) : Int) := by unfold wrap64; omega
    unfold PC.lychlaw10_ends.l0
    rw [e1, e2, if_pos (by omega), if_pos (by omega), if_pos (by omega), if_pos (by omega)]
    have h1 : i < got.length := by omega
    have h2 : all.length - got.length + i < all.length := by omega
    have r1 : PC.rd_L1 got (i : Int) = got[i] := by unfold PC.rd_L1; rw [Int.toNat_natCast, List.getD_eq_getElem?_getD, List.getElem?_eq_getElem h1]; rfl
    have r2 : PC.rd_L1 all ((all.length - got.length + i : Nat) : Int) = all[all.length - got.length + i] := by unfold PC.rd_L1; rw [Int.toNat_natCast, List.getD_eq_getElem?_getD, List.getElem?_eq_getElem h2]; rfl
    have d1 : got.drop i = got[i] :: got.drop (i + 1) := List.drop_eq_getElem_cons h1
    have d2 : all.drop (all.length - got.length + i) = all[all.length - got.length + i] :: all.drop (all.length - got.length + i + 1) := List.drop_eq_getElem_cons h2
    rw [r1, r2, bytes_f' _ _ (hg _ (List.getElem_mem _)) (ha _ (List.getElem_mem _)), Option.bind_some, d1, d2]
    by_cases h3 : got[i] = all[all.length - got.length + i]
    · rw [decide_eq_true h3, if_pos rfl, ends_l0 got all hg ha hle hal d (i + 1) (by omega), ← Nat.add_assoc, h3]
      refine congrArg some (decide_eq_decide.2 ⟨fun h => by rw [h], fun h => (List.cons.inj h).2⟩)
    · rw [decide_eq_false h3, if_neg (by decide)]
      refine congrArg some (decide_eq_false (fun h => h3 (List.cons.inj h).1)).symm
theorem ends_j0 (k : Nat) (got all : List (List Int)) (b : Bool) : PC.lychlaw10_ends.j0 (k + 1) got all b = if b = true then some false else PC.lychlaw10_ends.l0 k got all 0 := by
  rw [PC.lychlaw10_ends.j0]
theorem ends_f (got all : List (List Int)) (hg : ∀ x ∈ got, IsB x) (ha : ∀ x ∈ all, IsB x) (hgl : got.length ≤ 1000000) (hal : all.length ≤ 1000000) : PC.lychlaw10_ends.f (got.length + 2) got all = some (endsB got all) := by
  unfold PC.lychlaw10_ends.f endsB
  by_cases h1 : (got.length : Int) > (all.length : Int)
  · rw [if_pos h1]
    rw [ends_j0, if_pos rfl, decide_eq_false (fun h => by have := h.1.length_le; omega)]
  · rw [if_neg h1]
    by_cases h2 : (got.length : Int) = 0
    · have h3 : got = [] := List.length_eq_zero_iff.1 (by omega)
      subst h3
      rw [if_pos h2]
      rw [ends_j0]
      cases all with
      | nil => rw [decide_eq_false (by simp), if_neg (by decide)]; simp [PC.lychlaw10_ends.l0]
      | cons x all => rw [decide_eq_true (by rw [List.length_cons]; omega), if_pos rfl]; simp
    · rw [if_neg h2]
      rw [ends_j0, if_neg (by decide)]
      have h3 := ends_l0 got all hg ha (by omega) hal got.length 0 (by omega)
      rw [show ((0 : Nat) : Int) = 0 from rfl] at h3
      rw [h3, Nat.add_zero, List.drop_zero]
      congr 1
      refine decide_eq_decide.2 ⟨fun h => ⟨?_, fun h4 => ?_⟩, fun h => ?_⟩
      · rw [h]; exact List.drop_suffix _ _
      · subst h4; exact absurd rfl h2
      · exact List.suffix_iff_eq_drop.1 h.1
end Go.Proofs.YtgeggcifhojpmaaDoor.PB
/- known: a record that is there again. -/
namespace Go.Proofs.YtgeggcifhojpmaaDoor.PB
open Go.RowKit Go.Proofs.YtgeggcifhojpmaaDoorW.PrintWords Go.Proofs.YtgeggcifhojpmaaDoorW.PrintLast Go.Proofs.YtgeggcifhojpmaaDoorW.PrintMore
attribute [local go_sem] max2_mx min2_mn max_two min_two max_three min_three max_four min_four   -- for this text's walks alone
set_option linter.unusedVariables false
set_option linter.unusedSimpArgs false

theorem crc_known : crcF [49, 50, 51, 52, 53, 54, 55, 56, 57] = 3421780262 := by
  unfold crcF
  kernel_rfl
theorem mk_heap (w : World) (cs : Array Value) (t : TypeId) (fz : Nat × Nat) : (w.alloc (.cells cs t fz)).heap[w.heap.size]? = some (.cells cs t fz) := by simp [World.alloc, -World.alloc_eq]
theorem mk_cell (w : World) (cs : Array Value) (t : TypeId) (fz : Nat × Nat) (j : Nat) : (w.alloc (.cells cs t fz)).cell? ⟨w.heap.size, j, none⟩ = cs[j]? := by
  have h := mk_heap w cs t fz
  simp only [World.cell?, h]
  rfl
theorem mk_C (w : World) (d : List Int) (fz : Nat × Nat) (hd : d.length ≤ 1000000) : Kd.C (Kd.int .u8) (w.alloc (.cells (dkB d) 5 fz)) (some ⟨w.heap.size, 0, none⟩) d.length d :=
  Kd.C_of_reads (enc := Value.int .u8) (d := (0 : Int)) (h1 := fun _ => rfl) ⟨rfl, by omega, fun _ => ⟨_, rfl, fun j hj => by
    rw [add_at, mk_cell, dkB_get (List.getElem?_eq_getElem hj), List.getD_eq_getElem?_getD, List.getElem?_eq_getElem hj]
    rfl⟩⟩
theorem gcell {w w' : World} {ge : Addr} {v : Value} (h : w.cell? ge = some v) (hb : Below w.heap.size w w') : w'.cell? ge = some v := cell_below h hb
set_option maxHeartbeats 4000000 in
set_option maxRecDepth 100000 in
theorem known.calls (w : World) (ge : Addr) (hge : w.cell? ⟨0, 0, none⟩ = some (.iface 91 (.pointer (some ge)))) : Calls Tryd.prog 10 #[] w fun e w' => e = .returned (.bool true) ∧ Below w.heap.size w w' := by
  have kc := fun (w : World) (C : Array Value) (n c : Nat) => Lib.run_convert_bytes_const (P := Tryd.prog) w 22 5 C n c Tryd.underlying22 Tryd.underlying5
  have HG := Aside0.mk hge
  clear hge
  go_enter Tryd.func10, Tryd.ntmps10
  go_wp2_with fail
  refine (LD.new 8 512 w (by decide)).mono ?_
  rintro e w1 ⟨g, q, hs, rfl, hd, hn, hb⟩
  rw [show dkS 512 = 512 from rfl] at hd
  rw [show dkN 8 = 8 from rfl] at hn
  have HD := Aside0.mk hd
  have HN := Aside0.mk hn
  have HB := Aside0.mk hb
  clear hd hn hb
  (try dsimp only)
  go_wp2_with fail
  refine (LD.open_ HD.out ge (gcell HG.out HB.out)).mono ?_
  rintro e w2 ⟨lb, A, oc, rfl, hlb, hoc, hk, hl, hb⟩
  have HL := Aside0.mk hl
  have HB2 := Aside0.mk (below_step HB.out hb)
  clear HB HD hlb hk hl hb
  have HB := HB2
  clear HB2
  (try dsimp only)
  go_wp2_with fail
  have hbx : Below w2.heap.size w2 (w2.alloc (.cells #[.int .u8 97, .int .u8 98, .int .u8 99] 5 (3, 4))) := below_alloc (Below.refl _ _) _
  refine (LO.append (HL.out.under hbx) w2.heap.size 3 [97, 98, 99] (by decide) (fun j x hx => ?_) (LO.above HL.out (Nat.le_refl _)) (by unfold IsB; decide) (by rw [HN.out]; decide) (Or.inr ⟨by decide, by decide⟩) (by decide) 0 ⟨rfl, by decide⟩ (by decide)).mono ?_
  · rw [mk_cell]
    exact dkB_get (l := [97, 98, 99]) hx
  rintro e w3 ⟨hf, cut', hc1, hc2, hcase⟩
  obtain rfl := hc1 (by decide)
  rcases hcase with ⟨rfl, hl⟩ | ⟨hc, _⟩
  rotate_left
  · exact absurd hc (by decide)
  have HL2 := Aside0.mk hl
  have HB2 : Aside0 (Below w.heap.size w w3) := ⟨hf.below (below_step HB.out hbx) (below_size (below_step HB.out hbx)) (fun k hk => HL.out.own hk)⟩
  clear HL HB hl hf hc1 hc2 hbx
  have HL := HL2
  have HB := HB2
  clear HL2 HB2
  have HL2 : Aside0 (LO w3 w.heap.size g q 512 hs (-1) 0 false lb [[97, 98, 99]] 1 1) := ⟨HL.out⟩
  clear HL
  have HL := HL2
  clear HL2
  (try dsimp only)
  go_wp2_with fail
  refine (LD.open_ HL.out.ld ge (gcell HG.out HB.out)).mono ?_
  rintro e w4 ⟨lb2, A2, oc2, rfl, hlb, hoc2, hk, hl, hb⟩
  obtain ⟨ad, A3, c3, rfl, hx3, hc3, hk3⟩ := at_L1 hk 0 (by decide) (by decide)
  have HX3 : Aside0 (w4.cell? ad = some (.slice A3 3 c3)) := ⟨hx3⟩
  have HK3 : Aside0 (Kd.C (Kd.int .u8) w4 A3 3 [97, 98, 99]) := ⟨hk3⟩
  have HL2 := Aside0.mk hl
  have HB2 := Aside0.mk (below_step HB.out hb)
  clear HB HL hlb hk hl hb hx3 hk3
  have HB := HB2
  have HL := HL2
  clear HB2 HL2
  (try dsimp only)
  go_wp2_with fail
  refine (disk_New.calls 1 64 w4).mono ?_
  rintro e w5 ⟨g3, q3, hs3, rfl, hd3, hn3, hb⟩
  rw [show dkS 64 = 64 from rfl] at hd3
  rw [show dkN 1 = 1 from rfl] at hn3
  have HD3 := Aside0.mk hd3
  have HN3 := Aside0.mk hn3
  have HX4 := Aside0.mk (cell_below HX3.out hb)
  have HK4 := Aside0.mk (Kd.C_below HK3.out hb)
  have HL2 := Aside0.mk (HL.out.under hb)
  have HB2 := Aside0.mk (below_step HB.out hb)
  clear HB HL HX3 HK3 hb hd3 hn3
  have HB := HB2
  have HL := HL2
  clear HB2 HL2
  (try dsimp only)
  go_wp2_with fail
  refine (log_Open.room HD3.out (by rw [HN3.out]; decide) (by rw [HN3.out]; decide)).mono ?_
  rintro e w6 ⟨rfl, hb⟩
  have hx3 := cell_below HX4.out hb
  have hk3 := Kd.C_below HK4.out hb
  have hs3 := Kd.C_string (P := Tryd.prog) (src := 22) (dst := 9) (e := 5) (c := c3) Tryd.underlying22 Tryd.underlying5 Tryd.underlying9 hk3
  have HL2 := Aside0.mk (HL.out.under hb)
  have HB2 := Aside0.mk (below_step HB.out hb)
  clear HB HL HX4 HK4 hb HD3 HN3 hk3
  have HB := HB2
  have HL := HL2
  clear HB2 HL2
  have hst : (strOfNums [97, 98, 99]).toList = [97, 98, 99] := by rw [Go.Lib.strOfNums_toList]; rfl
  (try dsimp only)
  go_wp2_with fail
  refine (LO.records HL.out (by decide)).mono ?_
  rintro e w7 ⟨rfl, hb⟩
  have HL2 := Aside0.mk (HL.out.under hb)
  have HB2 := Aside0.mk (below_step HB.out hb)
  clear HB HL hb hx3 hs3
  have HB := HB2
  have HL := HL2
  clear HB2 HL2
  (try dsimp only)
  go_wp2_with fail
  refine (LO.last HL.out).mono ?_
  rintro e w8 ⟨v, rfl, ho, hb⟩
  have hs3 := own_string (P := Tryd.prog) (src := 22) (dst := 9) (e := 5) Tryd.underlying22 Tryd.underlying5 Tryd.underlying9 ho
  have hs4 : Sem.run Tryd.prog (convert 22 9 v) w8 = Result.ok (Value.string (strOfNums [97, 98, 99])) w8 := hs3
  have HB2 := Aside0.mk (below_step HB.out hb)
  clear HB HL hb ho hs3
  have HB := HB2
  clear HB2
  (try dsimp only)
  go_wp2_with fail
  have hbx : Below w8.heap.size w8 (w8.alloc (.cells #[.int .u8 49, .int .u8 50, .int .u8 51, .int .u8 52, .int .u8 53, .int .u8 54, .int .u8 55, .int .u8 56, .int .u8 57] 5 (9, 10))) := below_alloc (Below.refl _ _) _
  have hsum := (sum_f [49, 50, 51, 52, 53, 54, 55, 56, 57] (by decide)).1
  rw [crc_known] at hsum
  refine (log_Sum.calls _ (some ⟨w8.heap.size, 0, none⟩) 9 [49, 50, 51, 52, 53, 54, 55, 56, 57] 3421780262 _ (mk_C w8 [49, 50, 51, 52, 53, 54, 55, 56, 57] (9, 10) (by decide)) (by decide) hsum).mono ?_
  rintro e w9 ⟨rfl, ⟨nd, rfl⟩⟩
  have HB2 := Aside0.mk (pw_below_drewN (below_step HB.out hbx) nd)
  clear HB hbx hsum hs4
  have HB := HB2
  clear HB2
  (try dsimp only)
  go_wp2
  (try simp only [Exit.inBlock, Exit.then])
  go_ret
  exact ⟨rfl, HB.out⟩
end Go.Proofs.YtgeggcifhojpmaaDoor.PB
