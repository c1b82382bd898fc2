/- Bytes of packets: what the proofs of the laws on packets share. -/
import Derived.Test.YtmlmiiejifhfeaaPAx7
import Derived.Test.YtmlmiiejifhfeaaPAx17
import Derived.Test.YtmlmiiejifhfeaaPureIpsR
import Derived.Test.YtmlmiiejifhfeaaSumEqO
import Derived.Test.YtmlmiiejifhfeaaSpecSum
namespace Go.Proofs.Ytmlmiiejifhfeaa.Pure
set_option linter.unusedVariables false
set_option linter.unusedSimpArgs false
open Go.RowKit Go.Proofs.Ytmlmiiejifhfeaa.PA Go.Proofs.YtmlmiiejifhfeaaW.PrintWords Go.Proofs.YtmlmiiejifhfeaaW.PrintLast
open Go.Proofs.Ytmlmiiejifhfeaa.Spec Go.Proofs.Ytmlmiiejifhfeaa.BytesEq Go.Proofs.Ytmlmiiejifhfeaa.SumEq

/-- a header's first twenty bytes, with the checksum x -/
def ihd (a t pr i fl of_ s d : Int) (o l : List Int) (x : Int) : List Int := [64 + (20 + (o.length : Int)) / 4, a, (20 + (o.length : Int) + (l.length : Int)) / 256 % 256, (20 + (o.length : Int) + (l.length : Int)) % 256, i / 256 % 256, i % 256, (fl * 8192 + of_) / 256 % 256, (fl * 8192 + of_) % 256, t, pr, x / 256 % 256, x % 256, s / 16777216 % 256, s / 65536 % 256, s / 256 % 256, s % 256, d / 16777216 % 256, d / 65536 % 256, d / 256 % 256, d % 256]
theorem ihd_length (a t pr i fl of_ s d : Int) (o l : List Int) (x : Int) : (ihd a t pr i fl of_ s d o l x).length = 20 := rfl
/-- its checksum -/
def ick (a t pr i fl of_ s d : Int) (o l : List Int) : Int := ck (ihd a t pr i fl of_ s d o l 0 ++ o)
def ibytes (a t pr i fl of_ s d : Int) (o l : List Int) : List Int := ihd a t pr i fl of_ s d o l (ick a t pr i fl of_ s d o l) ++ o ++ l
def iwrong (fl of_ : Int) (o : List Int) : Prop := (o.length : Int) % 4 ≠ 0 ∨ (o.length : Int) > 40 ∨ fl > 7 ∨ of_ > 8191
instance (fl of_ : Int) (o : List Int) : Decidable (iwrong fl of_ o) := inferInstanceAs (Decidable (_ ∨ _))
def iout (a t pr i fl of_ s d : Int) (o l : List Int) : List Int × Int := if iwrong fl of_ o then ([], 21) else if 20 + (o.length : Int) + (l.length : Int) > 65535 then ([], 23) else (ibytes a t pr i fl of_ s d o l, 0)
section
variable {a t pr i fl of_ s d : Int} {o l : List Int}
theorem ihd_isB (ha : 0 ≤ a ∧ a ≤ 255) (ht : 0 ≤ t ∧ t ≤ 255) (hp : 0 ≤ pr ∧ pr ≤ 255) (ho : (o.length : Int) ≤ 40) (x : Int) : IsB (ihd a t pr i fl of_ s d o l x) := by
  unfold ihd
  repeat (first | exact .nil | refine .cons (by omega) ?_)
theorem ibytes_fin (ha : 0 ≤ a ∧ a ≤ 255) (ht : 0 ≤ t ∧ t ≤ 255) (hp : 0 ≤ pr ∧ pr ≤ 255) (ho : IsB o) (h40 : (o.length : Int) ≤ 40) (hl : l.length ≤ 1000000000) (k : Nat) (hk : 100 ≤ k) {H : List Int} (hH : H = ihd a t pr i fl of_ s d o l 0) :
    ip_Bytes.l0 (k + 1) H [s, d] 2 2 a t pr i fl of_ s d o l = some (ibytes a t pr i fl of_ s d o l, 0) := by
  subst hH
  have hn : (ihd a t pr i fl of_ s d o l 0 ++ o).length = 20 + o.length := by rw [List.length_append, ihd_length]
  have hset : ((ihd a t pr i fl of_ s d o l 0 ++ o).set (10 : Int).toNat (ick a t pr i fl of_ s d o l / 256 % 256)).set (11 : Int).toNat (ick a t pr i fl of_ s d o l % 256) = ihd a t pr i fl of_ s d o l (ick a t pr i fl of_ s d o l) ++ o := rfl
  have hof : sum_Of.f k (ihd a t pr i fl of_ s d o l 0 ++ o) = some (ick a t pr i fl of_ s d o l) := of_eq _ ((ihd_isB ha ht hp h40 0).append ho) (by rw [hn]; omega) k (by rw [hn]; omega) (by omega)
  have hn2 : (ihd a t pr i fl of_ s d o l (ick a t pr i fl of_ s d o l) ++ o).length = 20 + o.length := by rw [List.length_append, ihd_length]
  rw [ip_Bytes.l0, if_neg (by omega), if_pos (by rw [ihd_length]; omega), Option.bind_some, hof, Option.bind_some, if_pos (by rw [hn]; omega), if_pos (by rw [hn]; omega), Option.bind_some, hset, if_pos (by rw [hn2]; omega)]
  rfl
theorem ior (h4 : (o.length : Int) % 4 = 0) (h40 : (o.length : Int) ≤ 40) : Go.bits .or .u8 64 ((wrap64 (Int.tdiv (20 + (o.length : Int)) 4)) % 256) = 64 + (20 + (o.length : Int)) / 4 := by
  have e : (wrap64 (Int.tdiv (20 + (o.length : Int)) 4)) % 256 = (20 + (o.length : Int)) / 4 := by
    rw [Int.tdiv_eq_ediv_of_nonneg (by omega), wrap64_id (by omega) (by omega)]; omega
  rw [e]
  exact or_u8 6 (by omega) (by omega) (by omega) (by omega) (by omega) (by omega)
theorem ibits (hf : 0 ≤ fl ∧ fl ≤ 7) (ho : 0 ≤ of_ ∧ of_ ≤ 8191) : Go.bits .or .u16 (IntKind.u16.wrap ((IntKind.u16.wrap fl) * 8192)) of_ = fl * 8192 + of_ := by
  rw [u16w (n := fl) (by omega) (by omega), u16w (n := fl * 8192) (by omega) (by omega)]
  exact or_u16 13 (by omega) (by omega) (by omega) (by omega) (by omega) (by omega)
theorem ibytes_eq (ha : 0 ≤ a ∧ a ≤ 255) (ht : 0 ≤ t ∧ t ≤ 255) (hp : 0 ≤ pr ∧ pr ≤ 255) (hf : 0 ≤ fl) (hg : 0 ≤ of_) (ho : IsB o) (hol : o.length ≤ 1000000000) (hl : l.length ≤ 1000000000) (k : Nat) (hk : 200 ≤ k) : ip_Bytes.f k a t pr i fl of_ s d o l = some (iout a t pr i fl of_ s d o l) := by
  obtain ⟨k, rfl⟩ : ∃ j, k = j + 5 := ⟨k - 5, by omega⟩
  have w1 : wrap64 (20 + (o.length : Int)) = 20 + (o.length : Int) := wrap64_id (by omega) (by omega)
  unfold ip_Bytes.f
  rw [w1]
  by_cases cw : iwrong fl of_ o
  · have hx : iout a t pr i fl of_ s d o l = ([], 21) := by unfold iout; rw [if_pos cw]
    rw [hx]
    by_cases c1 : (o.length : Int) % 4 = 0
    · rw [if_pos c1]
      by_cases c2 : (o.length : Int) > 40
      · rw [if_pos c2, ip_Bytes.j0, if_pos rfl]
      · rw [if_neg c2]
        by_cases c3 : fl > 7
        · rw [if_pos c3, ip_Bytes.j0, if_pos rfl]
        · have c4 : of_ > 8191 := by unfold iwrong at cw; omega
          rw [if_neg c3, decide_eq_true c4, ip_Bytes.j0, if_pos rfl]
    · rw [if_neg c1, ip_Bytes.j0, if_pos rfl]
  · have cx : (o.length : Int) % 4 = 0 ∧ (o.length : Int) ≤ 40 ∧ fl ≤ 7 ∧ of_ ≤ 8191 := by unfold iwrong at cw; omega
    obtain ⟨x1, x2, x3, x4⟩ := cx
    have w2 : wrap64 (65535 - (20 + (o.length : Int))) = 65535 - (20 + (o.length : Int)) := wrap64_id (by omega) (by omega)
    rw [if_pos x1, if_neg (by omega), if_neg (by omega), decide_eq_false (by omega), ip_Bytes.j0, if_neg (by decide), w2]
    unfold iout
    rw [if_neg cw]
    by_cases c5 : 20 + (o.length : Int) + (l.length : Int) > 65535
    · rw [if_pos (by omega), if_pos c5]
    · rw [if_neg (by omega), if_neg c5, Option.bind_some]
      have w3 : wrap64 (20 + (o.length : Int) + (l.length : Int)) = 20 + (o.length : Int) + (l.length : Int) := wrap64_id (by omega) (by omega)
      have hlen : (([s, d] : List Int).length : Int) = 2 := rfl
      have r0 : rd [s, d] 0 = s := rfl
      have r1 : rd [s, d] 1 = d := rfl
      have n1 : wrap64 (0 + 1) = 1 := wrap64_id (by omega) (by omega)
      have n2 : wrap64 (1 + 1) = 2 := wrap64_id (by omega) (by omega)
      rw [ior x1 x2, ibits ⟨hf, x3⟩ ⟨hg, x4⟩, w3, hlen]
      rw [ip_Bytes.l0, if_pos (by omega), if_pos (by omega), hlen, if_pos (by omega), r0, Option.bind_some, if_pos (by simp), n1]
      rw [ip_Bytes.l0, if_pos (by omega), if_pos (by omega), hlen, if_pos (by omega), r1, Option.bind_some, if_pos (by simp), n2]
      exact ibytes_fin ha ht hp ho x2 hl _ (by omega) rfl
theorem put16_eq (l : List Int) (x : Int) (h : l.length ≤ 1000000000) : lychref1_Put16.f l x = some (l ++ [x / 256 % 256, x % 256]) := by
  unfold lychref1_Put16.f
  rw [Option.bind_some, if_pos (by simp; omega)]
theorem put32_eq (l : List Int) (x : Int) (h : l.length ≤ 1000000000) : lychref1_Put32.f l x = some (l ++ [x / 16777216 % 256, x / 65536 % 256, x / 256 % 256, x % 256]) := by
  unfold lychref1_Put32.f
  rw [Option.bind_some, if_pos (by simp; omega)]
theorem ribytes_fin (ha : 0 ≤ a ∧ a ≤ 255) (ht : 0 ≤ t ∧ t ≤ 255) (hp : 0 ≤ pr ∧ pr ≤ 255) (ho : IsB o) (h40 : (o.length : Int) ≤ 40) (hl : l.length ≤ 1000000000) (k : Nat) (hk : 100 ≤ k) {y : List Int} (hy : y = ihd a t pr i fl of_ s d o l 0 ++ o) :
    ((some (y : List Int)).bind fun y387 => ((lychref1_Of.f k y387).bind fun t390 => (if 10 < (y387.length : Int) then (if 11 < (y387.length : Int) then ((some ((y387.set (10 : Int).toNat ((t390 / 256) % 256)).set (11 : Int).toNat ((t390) % 256) : List Int)).bind fun y392 => (if y392.length + l.length < 140737488355328 then (some ((y392 ++ l), (0 : Int))) else (none))) else (none)) else (none)))) = some (ibytes a t pr i fl of_ s d o l, 0) := by
  subst hy
  have hn : (ihd a t pr i fl of_ s d o l 0 ++ o).length = 20 + o.length := by rw [List.length_append, ihd_length]
  have hset : ((ihd a t pr i fl of_ s d o l 0 ++ o).set (10 : Int).toNat (ick a t pr i fl of_ s d o l / 256 % 256)).set (11 : Int).toNat (ick a t pr i fl of_ s d o l % 256) = ihd a t pr i fl of_ s d o l (ick a t pr i fl of_ s d o l) ++ o := rfl
  have hof : lychref1_Of.f k (ihd a t pr i fl of_ s d o l 0 ++ o) = some (ick a t pr i fl of_ s d o l) := rof_eq _ ((ihd_isB ha ht hp h40 0).append ho) (by rw [hn]; omega) k (by rw [hn]; omega) (by omega)
  have hn2 : (ihd a t pr i fl of_ s d o l (ick a t pr i fl of_ s d o l) ++ o).length = 20 + o.length := by rw [List.length_append, ihd_length]
  rw [Option.bind_some, hof, Option.bind_some, if_pos (by rw [hn]; omega), if_pos (by rw [hn]; omega), Option.bind_some, hset, if_pos (by rw [hn2]; omega)]
  rfl
theorem ribytes_eq (ha : 0 ≤ a ∧ a ≤ 255) (ht : 0 ≤ t ∧ t ≤ 255) (hp : 0 ≤ pr ∧ pr ≤ 255) (hf : 0 ≤ fl) (hg : 0 ≤ of_) (ho : IsB o) (hol : o.length ≤ 1000000000) (hl : l.length ≤ 1000000000) (k : Nat) (hk : 200 ≤ k) : lychref1_IpBytes.f k a t pr i fl of_ s d o l = some (iout a t pr i fl of_ s d o l) := by
  obtain ⟨k, rfl⟩ : ∃ j, k = j + 1 := ⟨k - 1, by omega⟩
  have w1 : wrap64 (20 + (o.length : Int)) = 20 + (o.length : Int) := wrap64_id (by omega) (by omega)
  unfold lychref1_IpBytes.f
  by_cases cw : iwrong fl of_ o
  · have hx : iout a t pr i fl of_ s d o l = ([], 21) := by unfold iout; rw [if_pos cw]
    rw [hx]
    by_cases c1 : (o.length : Int) % 4 = 0
    · rw [if_pos c1]
      by_cases c2 : (o.length : Int) > 40
      · rw [if_pos c2, lychref1_IpBytes.j0, if_pos rfl]
      · rw [if_neg c2]
        by_cases c3 : fl > 7
        · rw [if_pos c3, lychref1_IpBytes.j0, if_pos rfl]
        · have c4 : of_ > 8191 := by unfold iwrong at cw; omega
          rw [if_neg c3, decide_eq_true c4, lychref1_IpBytes.j0, if_pos rfl]
    · rw [if_neg c1, lychref1_IpBytes.j0, if_pos rfl]
  · have cx : (o.length : Int) % 4 = 0 ∧ (o.length : Int) ≤ 40 ∧ fl ≤ 7 ∧ of_ ≤ 8191 := by unfold iwrong at cw; omega
    obtain ⟨x1, x2, x3, x4⟩ := cx
    have w2 : wrap64 (65535 - (20 + (o.length : Int))) = 65535 - (20 + (o.length : Int)) := wrap64_id (by omega) (by omega)
    rw [if_pos x1, if_neg (by omega), if_neg (by omega), decide_eq_false (by omega), lychref1_IpBytes.j0, if_neg (by decide), w1, w2]
    unfold iout
    rw [if_neg cw]
    by_cases c5 : 20 + (o.length : Int) + (l.length : Int) > 65535
    · rw [if_pos (by omega), if_pos c5]
    · rw [if_neg (by omega), if_neg c5]
      have w3 : IntKind.u16.wrap (wrap64 (20 + (o.length : Int) + (l.length : Int))) = 20 + (o.length : Int) + (l.length : Int) := by rw [wrap64_id (by omega) (by omega), u16w (by omega) (by omega)]
      rw [ior x1 x2, ibits ⟨hf, x3⟩ ⟨hg, x4⟩, w3]
      rw [put16_eq _ _ (by simp), Option.bind_some, put16_eq _ _ (by simp), Option.bind_some, put16_eq _ _ (by simp), Option.bind_some, Option.bind_some, if_pos (by simp), put32_eq _ _ (by simp), Option.bind_some, put32_eq _ _ (by simp), Option.bind_some, if_pos (by simp; omega)]
      exact ribytes_fin ha ht hp ho x2 hl k (by omega) (congrArg (· ++ o) rfl)
/-- the header's sum, its checksum in it -/
theorem ihd_sum (ha : 0 ≤ a ∧ a ≤ 255) (ht : 0 ≤ t ∧ t ≤ 255) (hp : 0 ≤ pr ∧ pr ≤ 255) (ho : IsB o) (h40 : (o.length : Int) ≤ 40) : norm (isum (words (ihd a t pr i fl of_ s d o l (ick a t pr i fl of_ s d o l) ++ o))) = 65535 := by
  have hB := (ihd_isB (i := i) (fl := fl) (of_ := of_) (s := s) (d := d) (l := l) ha ht hp h40 0).append ho
  have hr := ck_range _ hB
  have hS := isum_nonneg _ (words_isW _ hB)
  have hn : (ihd a t pr i fl of_ s d o l 0 ++ o).length = 20 + o.length := by rw [List.length_append, ihd_length]
  have hc := isum_change (ihd a t pr i fl of_ s d o l 0 ++ o) 5 (ick a t pr i fl of_ s d o l / 256 % 256) (ick a t pr i fl of_ s d o l % 256) (by rw [hn]; omega)
  have hset : ((ihd a t pr i fl of_ s d o l 0 ++ o).set (2 * 5) (ick a t pr i fl of_ s d o l / 256 % 256)).set (2 * 5 + 1) (ick a t pr i fl of_ s d o l % 256) = ihd a t pr i fl of_ s d o l (ick a t pr i fl of_ s d o l) ++ o := rfl
  have hw : wordAt (ihd a t pr i fl of_ s d o l 0 ++ o) 5 = 0 / 256 % 256 * 256 + 0 % 256 := rfl
  rw [hset, hw] at hc
  have hx : ick a t pr i fl of_ s d o l = 65535 - norm (isum (words (ihd a t pr i fl of_ s d o l 0 ++ o))) := rfl
  have hr' : 0 ≤ ick a t pr i fl of_ s d o l ∧ ick a t pr i fl of_ s d o l ≤ 65535 := hr
  have he : ick a t pr i fl of_ s d o l / 256 % 256 * 256 + ick a t pr i fl of_ s d o l % 256 = ick a t pr i fl of_ s d o l := by omega
  rw [hc, he, hx]
  have := stands hS
  rw [show isum (words (ihd a t pr i fl of_ s d o l 0 ++ o)) - (0 / 256 % 256 * 256 + 0 % 256) + (65535 - norm (isum (words (ihd a t pr i fl of_ s d o l 0 ++ o)))) = isum (words (ihd a t pr i fl of_ s d o l 0 ++ o)) + (65535 - norm (isum (words (ihd a t pr i fl of_ s d o l 0 ++ o)))) from by omega]
  exact this
theorem ihead_bytes (x : Int) (m : List Int) (h40 : (o.length : Int) ≤ 40) (h4 : (o.length : Int) % 4 = 0) : ihead (ihd a t pr i fl of_ s d o l x ++ m) = 20 + (o.length : Int) := by
  have e0 : (ihd a t pr i fl of_ s d o l x ++ m).getD 0 0 = 64 + (20 + (o.length : Int)) / 4 := rfl
  unfold ihead
  rw [e0]; omega
theorem g2_bytes (x : Int) (m : List Int) (hn : 20 + (o.length : Int) + (l.length : Int) ≤ 65535) : g16 (ihd a t pr i fl of_ s d o l x ++ m) 2 = 20 + (o.length : Int) + (l.length : Int) := by
  have e2 : g16 (ihd a t pr i fl of_ s d o l x ++ m) 2 = (20 + (o.length : Int) + (l.length : Int)) / 256 % 256 * 256 + (20 + (o.length : Int) + (l.length : Int)) % 256 := rfl
  rw [e2]; omega
theorem iseg_bytes (ha : 0 ≤ a ∧ a ≤ 255) (ht : 0 ≤ t ∧ t ≤ 255) (hp : 0 ≤ pr ∧ pr ≤ 255) (hi : 0 ≤ i ∧ i ≤ 65535) (hf : 0 ≤ fl ∧ fl ≤ 7) (hg : 0 ≤ of_ ∧ of_ ≤ 8191) (hs : 0 ≤ s ∧ s ≤ 4294967295) (hd : 0 ≤ d ∧ d ≤ 4294967295) (ho : IsB o) (h40 : (o.length : Int) ≤ 40) (h4 : (o.length : Int) % 4 = 0) (hn : 20 + (o.length : Int) + (l.length : Int) ≤ 65535) (m : List Int) :
    iseg (ibytes a t pr i fl of_ s d o l ++ m) = (a, t, pr, i, fl, of_, s, d, o, l, 0) := by
  obtain ⟨x, hx⟩ : ∃ x, x = ick a t pr i fl of_ s d o l := ⟨_, rfl⟩
  have hsum := ihd_sum (i := i) (fl := fl) (of_ := of_) (s := s) (d := d) (l := l) ha ht hp ho h40
  unfold ibytes
  rw [← hx] at hsum ⊢
  clear hx
  rw [List.append_assoc, List.append_assoc]
  have hH := ihd_length a t pr i fl of_ s d o l x
  have eh := ihead_bytes (a := a) (t := t) (pr := pr) (i := i) (fl := fl) (of_ := of_) (s := s) (d := d) (l := l) x (o ++ (l ++ m)) h40 h4
  have eg := g2_bytes (a := a) (t := t) (pr := pr) (i := i) (fl := fl) (of_ := of_) (s := s) (d := d) (o := o) (l := l) x (o ++ (l ++ m)) hn
  have e0 : (ihd a t pr i fl of_ s d o l x ++ (o ++ (l ++ m))).getD 0 0 = 64 + (20 + (o.length : Int)) / 4 := rfl
  have hL : (ihd a t pr i fl of_ s d o l x ++ (o ++ (l ++ m))).length = 20 + o.length + l.length + m.length := by rw [List.length_append, List.length_append, List.length_append, hH]; omega
  have t1 : (20 + (o.length : Int)).toNat = (ihd a t pr i fl of_ s d o l x).length + o.length := by rw [hH]; omega
  have t2 : (20 + (o.length : Int) + (l.length : Int)).toNat = (ihd a t pr i fl of_ s d o l x).length + (o.length + l.length) := by rw [hH]; omega
  have k1 : (ihd a t pr i fl of_ s d o l x ++ (o ++ (l ++ m))).take (20 + (o.length : Int)).toNat = ihd a t pr i fl of_ s d o l x ++ o := by
    rw [t1, List.take_append, List.take_of_length_le (by omega), Nat.add_sub_cancel_left, List.take_left]
  have k2 : (ihd a t pr i fl of_ s d o l x ++ (o ++ (l ++ m))).take (20 + (o.length : Int) + (l.length : Int)).toNat = ihd a t pr i fl of_ s d o l x ++ (o ++ l) := by
    rw [t2, List.take_append, List.take_of_length_le (by omega), Nat.add_sub_cancel_left, List.take_append, List.take_of_length_le (by omega), Nat.add_sub_cancel_left, List.take_left]
  have hso : isumof (ihd a t pr i fl of_ s d o l x ++ (o ++ (l ++ m))) = 65535 := by
    unfold isumof
    rw [eh, k1]
    exact hsum
  have hodd : ¬ iodd (ihd a t pr i fl of_ s d o l x ++ (o ++ (l ++ m))) := fun h => h ⟨by rw [e0]; omega, by rw [eh]; omega, by rw [eh, eg]; omega⟩
  unfold iseg
  rw [if_neg (by rw [hL]; omega), if_neg hodd, if_neg (by rw [hL, eg]; omega), if_neg (fun h => h hso), eh, eg, k1, k2]
  have d1 : (ihd a t pr i fl of_ s d o l x ++ o).drop 20 = o := List.drop_left' hH
  have d2 : (ihd a t pr i fl of_ s d o l x ++ (o ++ l)).drop (20 + (o.length : Int)).toNat = l := by
    rw [t1, ← List.append_assoc, List.drop_left' (by rw [List.length_append])]
  rw [d1, d2]
  have b1 : (ihd a t pr i fl of_ s d o l x ++ (o ++ (l ++ m))).getD 1 0 = a := rfl
  have b8 : (ihd a t pr i fl of_ s d o l x ++ (o ++ (l ++ m))).getD 8 0 = t := rfl
  have b9 : (ihd a t pr i fl of_ s d o l x ++ (o ++ (l ++ m))).getD 9 0 = pr := rfl
  have b4 : g16 (ihd a t pr i fl of_ s d o l x ++ (o ++ (l ++ m))) 4 = i / 256 % 256 * 256 + i % 256 := rfl
  have b6 : g16 (ihd a t pr i fl of_ s d o l x ++ (o ++ (l ++ m))) 6 = (fl * 8192 + of_) / 256 % 256 * 256 + (fl * 8192 + of_) % 256 := rfl
  have b12 : g32 (ihd a t pr i fl of_ s d o l x ++ (o ++ (l ++ m))) 12 = (s / 16777216 % 256 * 256 + s / 65536 % 256) * 65536 + (s / 256 % 256 * 256 + s % 256) := rfl
  have b16 : g32 (ihd a t pr i fl of_ s d o l x ++ (o ++ (l ++ m))) 16 = (d / 16777216 % 256 * 256 + d / 65536 % 256) * 65536 + (d / 256 % 256 * 256 + d % 256) := rfl
  rw [b1, b8, b9, b4, b6, b12, b16]
  simp only [Prod.mk.injEq, and_true, true_and]
  refine ⟨?_, ?_, ?_, ?_, ?_⟩ <;> omega
theorem ibytes_isB (ha : 0 ≤ a ∧ a ≤ 255) (ht : 0 ≤ t ∧ t ≤ 255) (hp : 0 ≤ pr ∧ pr ≤ 255) (ho : IsB o) (hl : IsB l) (h40 : (o.length : Int) ≤ 40) : IsB (ibytes a t pr i fl of_ s d o l) := ((ihd_isB ha ht hp h40 _).append ho).append hl
theorem ibytes_length : (ibytes a t pr i fl of_ s d o l).length = 20 + o.length + l.length := by
  unfold ibytes
  rw [List.length_append, List.length_append, ihd_length]
end
end Go.Proofs.Ytmlmiiejifhfeaa.Pure
