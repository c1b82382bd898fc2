/- Texts of this claim, merged: LogWords, LogNum, LogOps, LogBlk, LogBytes. -/
import Derived.Test.YtgeggcifhojpmaaDoorZD
import Derived.Test.YtgeggcifhojpmaaDoorZP
import Derived.Laws.BitsAllLaws
import Derived.Laws.BitsLemmas
import Derived.LaidEql
import Derived.Stop.Asserts
import Derived.RowKitTokens
/- What the log's texts share: numbers in bytes; put. -/
namespace Go.Proofs.YtgeggcifhojpmaaDoor.PB
open Go.RowKit Go.Proofs.YtgeggcifhojpmaaDoorW.PrintWords Go.Proofs.YtgeggcifhojpmaaDoorW.PrintLast Go.Proofs.YtgeggcifhojpmaaDoorW.PrintMore
attribute [local go_sem] max2_int min2_int max_two min_two max_three min_three max_four min_four   -- for this text's walks alone
set_option linter.unusedVariables false
set_option linter.unusedSimpArgs false

theorem max2_mx (k k' : IntKind) (x y : Int) : Builtin.max2 (.int k x) (.int k' y) = pure (.int k (mx x y)) := max2_int k k' x y
theorem min2_mn (k k' : IntKind) (x y : Int) : Builtin.min2 (.int k x) (.int k' y) = pure (.int k (mn x y)) := min2_int k k' x y
/-- A number in L bytes, the greatest first. -/
def be (L : Nat) (n : Int) : List Int := (List.range L).map fun i => n / 2 ^ (8 * (L - 1 - i)) % 256
theorem be_length (L : Nat) (n : Int) : (be L n).length = L := by simp [be]
theorem dkB_set (l : List Int) (i : Nat) (x : Int) : (dkB l).setIfInBounds i (.int .u8 x) = dkB (l.set i x) := by
  simp [dkB, List.setIfInBounds_toArray, List.map_set]
/-- The row while j of the bytes have been put. -/
def lgP (cur : List Int) (off L : Nat) (n : Int) (j : Nat) : List Int := cur.take off ++ ((be L n).take j ++ cur.drop (off + j))
theorem lgP_length {cur : List Int} {off L : Nat} (n : Int) {j : Nat} (h : off + L ≤ cur.length) (hj : j ≤ L) : (lgP cur off L n j).length = cur.length := by
  have := be_length L n
  simp only [lgP, List.length_append, List.length_take, List.length_drop, be_length]
  omega
theorem be_get {L j : Nat} (n : Int) (hj : j < L) : (be L n)[j]? = some (n / 2 ^ (8 * (L - 1 - j)) % 256) := by simp [be, hj]
theorem lgP_step {cur : List Int} {off L : Nat} (n : Int) {j : Nat} (h : off + L ≤ cur.length) (hj : j < L) {y : Int} (hy : (be L n)[j]? = some y) : (lgP cur off L n j).set (off + j) y = lgP cur off L n (j + 1) := by
  unfold lgP
  have h1 : (cur.take off).length = off := by rw [List.length_take]; omega
  have h2 : ((be L n).take j).length = j := by rw [List.length_take, be_length]; omega
  rw [List.set_append_right _ _ (by omega), h1, show off + j - off = j by omega, List.set_append_right _ _ (by omega), h2, Nat.sub_self]
  have h3 : cur.drop (off + j) = cur[off + j]'(by omega) :: cur.drop (off + (j + 1)) := by
    rw [List.drop_eq_getElem_cons (by omega)]
    rfl
  have h4 : (be L n).take (j + 1) = (be L n).take j ++ [y] := by
    rw [List.take_succ_eq_append_getElem (by rw [be_length]; exact hj)]
    rw [List.getElem?_eq_getElem (by rw [be_length]; exact hj)] at hy
    rw [Option.some.inj hy]
  rw [h3, List.set_cons_zero, h4]
  simp
theorem lgP_end (cur : List Int) (off L : Nat) (n : Int) : lgP cur off L n L = cur.take off ++ (be L n ++ cur.drop (off + L)) := by
  unfold lgP
  rw [List.take_of_length_le (l := be L n) (by rw [be_length]; exact Nat.le_refl _)]
theorem lgP_start (cur : List Int) (off L : Nat) (n : Int) : lgP cur off L n 0 = cur := by
  unfold lgP
  simp
set_option maxHeartbeats 4000000 in
set_option maxRecDepth 100000 in
theorem log_put.calls {w : World} {c : Nat} {cur : List Int} (hc : w.heap[c]? = some (.cells (dkB cur) 5 (0, 0))) (off L cap : Nat) (n : Int) (hL : off + L ≤ cur.length) (hL8 : L ≤ 8) (hcap : L ≤ cap) (h0 : 0 ≤ n) :
    Calls Tryd.prog 41 #[.slice (some ⟨c, off, none⟩) L cap, .int .u64 n] w fun e w' => e = .returned (.tuple #[]) ∧ w'.heap[c]? = some (.cells (dkB (cur.take off ++ (be L n ++ cur.drop (off + L)))) 5 (0, 0)) ∧ DF (fun k => k = c) w w' := by
  have HC := Aside0.mk hc
  have HL := Aside0.mk (And.intro hL hL8)
  have HF := Aside0.mk (DF.refl (fun k => k = c) w)
  clear hc hL hL8
  go_enter Tryd.func41, Tryd.ntmps41
  go_wp2
  go_loopg [7] L (fun kq v7 w' => ∃ (j : Nat), v7 = .int .i64 (j : Int) ∧ Aside0 (kq + j = L) ∧ Aside0 (w'.heap[c]? = some (.cells (dkB (lgP cur off L n j)) 5 (0, 0))) ∧ Aside0 (DF (fun k => k = c) w w'))
  case atStart => exact ⟨0, rfl, ⟨rfl⟩, ⟨by rw [lgP_start]; exact HC.out⟩, ⟨HF.out⟩⟩
  case round =>
    clear HC HF
    obtain ⟨j, rfl, HK, HC, HF⟩ := hrel
    by_cases c6 : j < L
    · have c6b : decide ((j : Int) < (L : Int)) = true := decide_eq_true (by omega)
      have c6c : decide (j < L) = true := decide_eq_true c6
      have H6 := Aside0.mk c6
      clear c6
      go_upto_region 3 with (fail)
      have e1 : wrap64 ((L : Int) - 1) = ((L - 1 : Nat) : Int) := by unfold wrap64; have := H6.out; have := HL.out; omega
      have e2 : wrap64 (((L - 1 : Nat) : Int) - (j : Int)) = ((L - 1 - j : Nat) : Int) := by unfold wrap64; have := H6.out; have := HL.out; omega
      have e3 : wrap64 (8 * ((L - 1 - j : Nat) : Int)) = 8 * ((L - 1 - j : Nat) : Int) := by unfold wrap64; have := H6.out; have := HL.out; omega
      have e4 : min (IntKind.u64.wrap (8 * ((L - 1 - j : Nat) : Int))).toNat 64 = 8 * (L - 1 - j) := by
        have := H6.out
        have := HL.out
        rw [show IntKind.u64.wrap (8 * ((L - 1 - j : Nat) : Int)) = 8 * ((L - 1 - j : Nat) : Int) from by rw [IntKind.wrap_u64]; omega]
        omega
      have hlen := lgP_length n HL.out.1 (Nat.le_of_lt H6.out)
      obtain ⟨x, hx⟩ : ∃ x, (lgP cur off L n j)[off + j]? = some x := ⟨_, List.getElem?_eq_getElem (by have := H6.out; have := HL.out; omega)⟩
      have c0 : wr.cell? ⟨c, off + j, none⟩ = some (.int .u8 x) := (blk_cell HC.out (off + j)).trans (dkB_get hx)
      have z0 := blk_frozen HC.out (off + j)
      clear hx hlen
      obtain ⟨y, hy⟩ : ∃ y, y = n / 2 ^ (8 * (L - 1 - j)) % 256 := ⟨_, rfl⟩
      have HY := Aside0.mk ((be_get n H6.out).trans (congrArg some hy.symm))
      have hy2 := hy.symm
      clear hy
      have q1 : (j < L) = True := eq_true H6.out
      have q2 : ((j : Int) < (L : Int)) = True := eq_true (by have := H6.out; omega)
      go_wp2
      have n0_ := Aside0.mk (blk_put HC.out (off + j) (.int .u8 y) ((dkB_set _ _ _).trans (congrArg dkB (lgP_step n HL.out.1 H6.out HY.out))))
      have n1_ := Aside0.mk (HF.out.set (p := ⟨c, off + j, none⟩) rfl (.int .u8 y))
      have w7 : wrap64 ((j : Int) + 1) = ((j + 1 : Nat) : Int) := by unfold wrap64; have := H6.out; have := HL.out; omega
      go_roundg (gk - 1)
      case measure => have := HK.out; have := H6.out; omega
      case rel => exact ⟨j + 1, by first | rfl | (simp [w7]; done) | (simp only [w7]; rfl), ⟨by have := HK.out; have := H6.out; omega⟩, ⟨n0_.out⟩, ⟨n1_.out⟩⟩
    · have c6b : decide ((j : Int) < (L : Int)) = false := decide_eq_false (by omega)
      have c6c : decide (j < L) = false := decide_eq_false c6
      have el : j = L := by have := HK.out; omega
      clear c6
      subst el
      go_wp2
      (try simp only [Exit.inBlock, Exit.then])
      first | go_end0 | ((try simp only [Exit.inBlock, Exit.then]); refine bodyPost_ret (results_none rfl _ _ _) rfl ?_)
      refine ⟨rfl, ?_, HF.out⟩
      rw [← lgP_end]
      exact HC.out
end Go.Proofs.YtgeggcifhojpmaaDoor.PB
/- Plain: what get, Sum and crc tell of bytes. -/
namespace Go.Proofs.YtgeggcifhojpmaaDoor.PB
open Go.RowKit Go.Proofs.YtgeggcifhojpmaaDoorW.PrintWords Go.Proofs.YtgeggcifhojpmaaDoorW.PrintLast Go.Proofs.YtgeggcifhojpmaaDoorW.PrintMore
attribute [local go_sem] max2_int min2_int max_two min_two max_three min_three max_four min_four   -- for this text's walks alone
set_option linter.unusedVariables false
set_option linter.unusedSimpArgs false

/-- Bytes. -/
def IsB (l : List Int) : Prop := ∀ x ∈ l, 0 ≤ x ∧ x ≤ 255
theorem IsB.take {l : List Int} (h : IsB l) (n : Nat) : IsB (l.take n) := fun x hx => h x (List.mem_of_mem_take hx)
theorem IsB.drop {l : List Int} (h : IsB l) (n : Nat) : IsB (l.drop n) := fun x hx => h x (List.mem_of_mem_drop hx)
theorem IsB.append {l m : List Int} (h : IsB l) (k : IsB m) : IsB (l ++ m) := fun x hx => by
  rcases List.mem_append.1 hx with hx | hx
  · exact h x hx
  · exact k x hx
theorem IsB.zeros (n : Nat) : IsB (List.replicate n 0) := fun x hx => by
  rw [List.eq_of_mem_replicate hx]
  omega
theorem be_isB (L : Nat) (n : Int) : IsB (be L n) := fun x hx => by
  obtain ⟨i, _, rfl⟩ := List.mem_map.1 hx
  omega
/-- The number that bytes tell. -/
def un (l : List Int) : Int := l.foldl (fun a x => a * 256 + x) 0
theorem un_snoc (l : List Int) (x : Int) : un (l ++ [x]) = un l * 256 + x := by simp [un]
theorem snocInd {p : List Int → Prop} (h0 : p []) (h1 : ∀ l x, p l → p (l ++ [x])) (l : List Int) : p l := by
  have h2 : ∀ m : List Int, p m.reverse := fun m => by
    induction m with
    | nil => exact h0
    | cons x m ih => rw [List.reverse_cons]; exact h1 _ _ ih
  have h3 := h2 l.reverse
  rwa [List.reverse_reverse] at h3
theorem un_range : ∀ (l : List Int), IsB l → 0 ≤ un l ∧ un l < ((256 ^ l.length : Nat) : Int) := by
  intro l
  refine snocInd (p := fun l => IsB l → 0 ≤ un l ∧ un l < ((256 ^ l.length : Nat) : Int)) (fun _ => by simp [un]) (fun l x ih => ?_) l
  · intro h
    have h1 := ih (fun y hy => h y (List.mem_append_left _ hy))
    have h2 := h x (by simp)
    rw [un_snoc, List.length_append, List.length_singleton, Nat.pow_succ]
    omega
theorem get_l0 : ∀ (d : Nat) (l : List Int) (i : Nat) (acc : Int), IsB l → l.length ≤ 8 → l.length - i = d → i ≤ l.length → acc = un (l.take i) → log_get.l0 (d + 1) acc l (l.length : Int) (i : Int) = some (un l)
  | 0, l, i, acc, hb, h8, hd, hi, ha => by
    have e : i = l.length := by omega
    subst e
    unfold log_get.l0
    rw [if_neg (by omega), ha, List.take_length]
  | d + 1, l, i, acc, hb, h8, hd, hi, ha => by
    have hlt : i < l.length := by omega
    unfold log_get.l0
    rw [if_pos (by omega), if_pos (by omega), if_pos (by omega)]
    have hx : rd l (i : Int) = l[i] := by unfold rd; rw [Int.toNat_natCast, List.getD_eq_getElem?_getD, List.getElem?_eq_getElem hlt]; rfl
    have hxr := hb l[i] (List.getElem_mem hlt)
    have hr := un_range (l.take i) (hb.take i)
    rw [List.length_take, Nat.min_eq_left (by omega)] at hr
    have hp : 256 ^ i ≤ 256 ^ 7 := Nat.pow_le_pow_right (by decide) (by omega)
    have hp7 : 256 ^ 7 = 72057594037927936 := by decide
    rw [hp7] at hp
    have e1 : IntKind.u64.wrap (acc * 256) = acc * 256 := by rw [IntKind.wrap_u64]; omega
    have e2 : IntKind.u64.wrap l[i] = l[i] := by rw [IntKind.wrap_u64]; omega
    have e3 : Go.bits .or .u64 (acc * 256) l[i] = acc * 256 + l[i] := bits_join .u64 64 (by decide) (fun n h0 h1 => by rw [IntKind.wrap_u64]; omega) 8 _ _ (by omega) (by omega) (by omega) (by omega) (by omega) (by omega)
    rw [hx, e1, e2, e3, show wrap64 ((i : Int) + 1) = ((i + 1 : Nat) : Int) by unfold wrap64; omega]
    refine get_l0 d l (i + 1) _ hb h8 (by omega) (by omega) ?_
    rw [List.take_succ_eq_append_getElem hlt, un_snoc, ha]
theorem get_f (l : List Int) (hb : IsB l) (h8 : l.length ≤ 8) : log_get.f (l.length + 1) l = some (un l) := get_l0 l.length l 0 0 hb h8 rfl (Nat.zero_le _) (by simp [un])
theorem un_be8 (n : Int) (h0 : 0 ≤ n) (h1 : n < 18446744073709551616) : un (be 8 n) = n := by
  simp only [be, List.range, List.range.loop, List.map_cons, List.map_nil, un, List.foldl_cons, List.foldl_nil, Nat.reduceSub, Nat.reduceMul, Int.reducePow]
  omega
theorem un_be4 (n : Int) (h0 : 0 ≤ n) (h1 : n < 4294967296) : un (be 4 n) = n := by
  simp only [be, List.range, List.range.loop, List.map_cons, List.map_nil, un, List.foldl_cons, List.foldl_nil, Nat.reduceSub, Nat.reduceMul, Int.reducePow]
  omega
/-! ### Sum -/
theorem bits_u32 (op : BinOp) (x y : Int) : 0 ≤ Go.bits op .u32 x y ∧ Go.bits op .u32 x y < 4294967296 := by
  unfold Go.bits
  rw [IntKind.wrap_u32]
  omega
theorem sum_l1 : ∀ (t : Nat) (k : Nat) (s : Int) (l : List Int) (n i : Int), t ≤ 8 → ∃ s', log_Sum.l1 (k + 1 + t) s l n i ((8 - t : Nat) : Int) = log_Sum.l0 k s' l n (wrap64 (i + 1))
  | 0, k, s, l, n, i, _ => ⟨s, by
    show log_Sum.l1 (k + 1) s l n i 8 = _
    rw [log_Sum.l1.eq_2, if_neg (by decide)]⟩
  | t + 1, k, s, l, n, i, h => by
    obtain ⟨s', hs⟩ := sum_l1 t k (Go.bits .xor .u32 (s / 2) ((3988292384 * (Go.bits .and .u32 s 1)) % 4294967296)) l n i (by omega)
    refine ⟨s', ?_⟩
    rw [show k + 1 + (t + 1) = (k + 1 + t) + 1 by omega, log_Sum.l1.eq_2, if_pos (by omega), show wrap64 (((8 - (t + 1) : Nat) : Int) + 1) = ((8 - t : Nat) : Int) by unfold wrap64; omega]
    exact hs
theorem sum_l0 : ∀ (d : Nat) (l : List Int) (i : Nat) (s : Int), l.length ≤ 1000000 → l.length - i = d → i ≤ l.length → ∃ r, log_Sum.l0 (10 * d + 1) s l (l.length : Int) (i : Int) = some r ∧ 0 ≤ r ∧ r < 4294967296
  | 0, l, i, s, hl, hd, hi => ⟨Go.bits .xor .u32 IntKind.u32.max s, by
    have e : i = l.length := by omega
    subst e
    rw [log_Sum.l0.eq_2, if_neg (by omega)], bits_u32 _ _ _⟩
  | d + 1, l, i, s, hl, hd, hi => by
    obtain ⟨s', hs⟩ := sum_l1 8 (10 * d + 1) (Go.bits .xor .u32 s ((rd l (i : Int)) % 4294967296)) l (l.length : Int) (i : Int) (by omega)
    obtain ⟨r, hr, h2⟩ := sum_l0 d l (i + 1) s' hl (by omega) (by omega)
    refine ⟨r, ?_, h2⟩
    rw [show 10 * (d + 1) + 1 = (10 * d + 1 + 1 + 8) + 1 by omega, log_Sum.l0.eq_2, if_pos (by omega), if_pos (by omega), if_pos (by omega)]
    rw [show ((8 - 8 : Nat) : Int) = 0 from rfl] at hs
    rw [hs, show wrap64 ((i : Int) + 1) = ((i + 1 : Nat) : Int) by unfold wrap64; omega]
    exact hr
/-- A Sum. -/
def crcF (l : List Int) : Int := (log_Sum.f (10 * l.length + 1) l).getD 0
theorem sum_f (l : List Int) (h : l.length ≤ 1000000) : log_Sum.f (10 * l.length + 1) l = some (crcF l) ∧ 0 ≤ crcF l ∧ crcF l < 4294967296 := by
  obtain ⟨r, hr, h2⟩ := sum_l0 l.length l 0 4294967295 h rfl (Nat.zero_le _)
  have hr' : log_Sum.f (10 * l.length + 1) l = some r := hr
  unfold crcF
  rw [hr']
  exact ⟨rfl, h2⟩
/-- The document's CRC is the same. -/
theorem and1 (s : Int) (h0 : 0 ≤ s) (h1 : s < 4294967296) : Go.bits .and .u32 s 1 = s % 2 := bits_mask .u32 32 (by decide) (fun n h0 h1 => by rw [IntKind.wrap_u32]; omega) 1 (by decide) s h0 (by omega)
theorem xor0 (s : Int) (h0 : 0 ≤ s) (h1 : s < 4294967296) : Go.bits .xor .u32 s 0 = s := by
  obtain ⟨a, rfl⟩ := Int.eq_ofNat_of_zero_le h0
  have e : (BitVec.ofInt 32 (a : Int) ^^^ BitVec.ofInt 32 0).toNat = a := by
    rw [show BitVec.ofInt 32 0 = 0#32 from rfl, BitVec.xor_zero, BitVec.ofInt_natCast, BitVec.toNat_ofNat]
    omega
  show IntKind.u32.wrap (((BitVec.ofInt 32 (a : Int) ^^^ BitVec.ofInt 32 0).toNat : Nat) : Int) = _
  rw [e, IntKind.wrap_u32]
  omega
theorem crc_l1 : ∀ (t : Nat) (k : Nat) (s : Int) (l : List Int) (n : Int) (i : Int), t ≤ 8 → 0 ≤ s → s < 4294967296 → ∃ s', 0 ≤ s' ∧ s' < 4294967296 ∧ log_Sum.l1 (k + 1 + t) s l n i ((8 - t : Nat) : Int) = log_Sum.l0 k s' l n (wrap64 (i + 1)) ∧ lychlaw10_crc.l1 (k + 1 + t) l s i ((8 - t : Nat) : Int) = lychlaw10_crc.l0 k l s' (wrap64 (i + 1))
  | 0, k, s, l, n, i, _, h0, h1 => ⟨s, h0, h1, by
    show log_Sum.l1 (k + 1) s l n i 8 = _
    rw [log_Sum.l1.eq_2, if_neg (by decide)], by
    show lychlaw10_crc.l1 (k + 1) l s i 8 = _
    rw [lychlaw10_crc.l1.eq_2, if_neg (by decide)]⟩
  | t + 1, k, s, l, n, i, h, h0, h1 => by
    have hb := bits_u32 .xor (s / 2) ((3988292384 * (Go.bits .and .u32 s 1)) % 4294967296)
    obtain ⟨s', q0, q1, hs, hc⟩ := crc_l1 t k (Go.bits .xor .u32 (s / 2) ((3988292384 * (Go.bits .and .u32 s 1)) % 4294967296)) l n i (by omega) hb.1 hb.2
    have e : wrap64 (((8 - (t + 1) : Nat) : Int) + 1) = ((8 - t : Nat) : Int) := by unfold wrap64; omega
    refine ⟨s', q0, q1, ?_, ?_⟩
    · rw [show k + 1 + (t + 1) = (k + 1 + t) + 1 by omega, log_Sum.l1.eq_2, if_pos (by omega), e]
      exact hs
    · rw [show k + 1 + (t + 1) = (k + 1 + t) + 1 by omega, lychlaw10_crc.l1.eq_2, if_pos (by omega), e, and1 s h0 h1]
      rw [and1 s h0 h1] at hc
      rcases (show s % 2 = 0 ∨ s % 2 = 1 by omega) with m | m
      · rw [m, if_neg (by decide)]
        rw [m, show (3988292384 * (0 : Int)) % 4294967296 = 0 from rfl, xor0 _ (by omega) (by omega)] at hc
        exact hc
      · rw [m, if_pos rfl]
        rw [m, show (3988292384 * (1 : Int)) % 4294967296 = 3988292384 from rfl] at hc
        exact hc
theorem crc_l0 : ∀ (d : Nat) (l : List Int) (i : Nat) (s : Int), l.length ≤ 1000000 → l.length - i = d → i ≤ l.length → 0 ≤ s → s < 4294967296 → lychlaw10_crc.l0 (10 * d + 1) l s (i : Int) = log_Sum.l0 (10 * d + 1) s l (l.length : Int) (i : Int)
  | 0, l, i, s, hl, hd, hi, _, _ => by
    have e : i = l.length := by omega
    subst e
    rw [log_Sum.l0.eq_2, if_neg (by omega), lychlaw10_crc.l0.eq_2, if_neg (by omega)]
  | d + 1, l, i, s, hl, hd, hi, h0, h1 => by
    have hb := bits_u32 .xor s ((rd l (i : Int)) % 4294967296)
    obtain ⟨s', q0, q1, hs, hc⟩ := crc_l1 8 (10 * d + 1) _ l (l.length : Int) (i : Int) (by omega) hb.1 hb.2
    have hr := crc_l0 d l (i + 1) s' hl (by omega) (by omega) q0 q1
    rw [show 10 * (d + 1) + 1 = (10 * d + 1 + 1 + 8) + 1 by omega, log_Sum.l0.eq_2, if_pos (by omega), if_pos (by omega), if_pos (by omega), lychlaw10_crc.l0.eq_2, if_pos (by omega), if_pos (by omega)]
    rw [show ((8 - 8 : Nat) : Int) = 0 from rfl] at hs hc
    rw [hs, hc, show wrap64 ((i : Int) + 1) = ((i + 1 : Nat) : Int) by unfold wrap64; omega]
    exact hr
theorem crc_f (l : List Int) (h : l.length ≤ 1000000) : lychlaw10_crc.f (10 * l.length + 1) l = some (crcF l) := by
  rw [← (sum_f l h).1]
  exact crc_l0 l.length l 0 4294967295 h rfl (Nat.zero_le _) (by decide) (by decide)
end Go.Proofs.YtgeggcifhojpmaaDoor.PB
/- The log's small functions by their contracts: errors.Is, get, Sum, right, each, Room. -/
namespace Go.Proofs.YtgeggcifhojpmaaDoor.PB
open Go.RowKit Go.Extern.Stop Go.Stop Go.Extern Go.Proofs.YtgeggcifhojpmaaDoorW.PrintWords Go.Proofs.YtgeggcifhojpmaaDoorW.PrintLast Go.Proofs.YtgeggcifhojpmaaDoorW.PrintMore
attribute [local go_sem] max2_mx min2_mn max_two min_two max_three min_three max_four min_four   -- for this text's walks alone
set_option linter.unusedVariables false
set_option linter.unusedSimpArgs false

/-! ### errors.Is at the one sentinel -/
theorem lgTypeOf (v : Value) (w : World) : (Extern.ReflectliteType.typeOf #[.iface 91 v]).run Tryd.prog w = .ok (.iface 81 (.agg #[.pointer (some ⟨1, 91, none⟩)])) w := by kernel_rfl
def lgCmp : Array Value → Sem Value := Extern.ReflectliteType.method fun t => do Extern.Rtype.noPackHeld "Comparable" t; pure (.bool (← typeInfo t).comparable)
theorem lgComparable (w : World) : (lgCmp #[.agg #[.pointer (some ⟨1, 91, none⟩)]]).run Tryd.prog w = .ok (.bool true) w := by kernel_rfl
theorem lgMethodComparable (v : Value) (w : World) : (Go.method 226 81 v "Comparable").run Tryd.prog w = .ok (61, v) w := by kernel_rfl
theorem lgComp : (Tryd.prog.info? 91).map (·.comparable) = some true := by kernel_rfl
theorem lgSize : (Tryd.prog.info? 115).map (·.size) = some 1 := by kernel_rfl
set_option maxHeartbeats 4000000 in
set_option maxRecDepth 100000 in
theorem errors_Is.same (a : Addr) (w : World) :
    Calls Tryd.prog 33 #[.iface 91 (.pointer (some a)), .iface 91 (.pointer (some a))] w fun e w' => e = .returned (.bool true) ∧ w' = w := by
  obtain ⟨i, hi, hcmp⟩ := Option.map_eq_some_iff.1 lgComp
  obtain ⟨j, hj, hjs⟩ := Option.map_eq_some_iff.1 lgSize
  have h8 := @run_callFunc_extern Tryd.prog 39 _ Extern.ReflectliteType.typeOf Tryd.func39 (by kernel_rfl) (by kernel_rfl) (by kernel_rfl) (by kernel_rfl)
  have h32 := @run_callFunc_extern Tryd.prog 61 _ lgCmp Tryd.func61 (by kernel_rfl) (by kernel_rfl) (by kernel_rfl) (by kernel_rfl)
  have tT := lgTypeOf
  have cT := lgComparable
  have mR := lgMethodComparable
  have heq := run_eql_iface_ptr_same (P := Tryd.prog) w a Tryd.underlying67 Tryd.underlying91 hi hcmp hj
  go_enter Tryd.func33, Tryd.ntmps33
  go_wp2
  refine wp_loop_rounds 1 ?_
  rw [rounds_succ]
  go_wp2
  go_ret
  exact ⟨rfl, rfl⟩
theorem errors_Is.nil (b : Addr) (w : World) :
    Calls Tryd.prog 33 #[.nilIface, .iface 91 (.pointer (some b))] w fun e w' => e = .returned (.bool false) ∧ w' = w := by
  have hn := run_eql_iface_nil_left (P := Tryd.prog) w 91 (.pointer (some b)) Tryd.underlying67
  go_enter Tryd.func33, Tryd.ntmps33
  go_wp2
  go_ret
  exact ⟨rfl, rfl⟩
/-! ### get, Sum, told of a block's bytes -/
theorem dkC {w : World} {c : Nat} {l : List Int} (hc : w.heap[c]? = some (.cells (dkB l) 5 (0, 0))) (off L : Nat) (hL : off + L ≤ l.length) (hb : l.length ≤ 1000000) : Kd.C (Kd.int .u8) w (some ⟨c, off, none⟩) L ((l.drop off).take L) := by
  refine ⟨by rw [List.length_take, List.length_drop]; omega, by omega, fun _ => ⟨_, rfl, fun j p hp => ⟨[.int .u8 p], rfl, rfl, fun i u hu => ?_⟩⟩⟩
  have hi : i = 0 := by
    rcases i with _ | i
    · rfl
    · cases hu
  subst hi
  obtain rfl : Value.int .u8 p = u := Option.some.inj hu
  rw [List.getElem?_take] at hp
  split at hp
  · rw [List.getElem?_drop] at hp
    rw [show (Kd.int .u8).sz = 1 from rfl, Nat.mul_one, Nat.add_zero, add_at2]
    exact (blk_cell hc (off + j)).trans (dkB_get hp)
  · cases hp
theorem lg_get {w : World} {c : Nat} {l : List Int} (hc : w.heap[c]? = some (.cells (dkB l) 5 (0, 0))) (hb : IsB l) (hl : l.length ≤ 1000000) (off L cap : Nat) (hL : off + L ≤ l.length) (hL8 : L ≤ 8) (hcap : L ≤ cap) :
    Calls Tryd.prog 31 #[.slice (some ⟨c, off, none⟩) L cap] w fun e w' => e = .returned (.int .u64 (un ((l.drop off).take L))) ∧ Drawn0 w w' := by
  have hlen : ((l.drop off).take L).length = L := by rw [List.length_take, List.length_drop]; omega
  have h := log_get.calls (((l.drop off).take L).length + 1) (some ⟨c, off, none⟩) cap ((l.drop off).take L) (un ((l.drop off).take L)) w (by rw [hlen]; exact dkC hc off L hL hl) (by rw [hlen]; exact hcap) (get_f _ ((hb.drop off).take L) (by rw [hlen]; exact hL8))
  rw [hlen] at h
  exact h
theorem lg_sum {w : World} {c : Nat} {l : List Int} (hc : w.heap[c]? = some (.cells (dkB l) 5 (0, 0))) (hl : l.length ≤ 1000000) (L cap : Nat) (hL : L ≤ l.length) (hcap : L ≤ cap) :
    Calls Tryd.prog 11 #[.slice (some ⟨c, 0, none⟩) L cap] w fun e w' => e = .returned (.int .u32 (crcF (l.take L))) ∧ Drawn0 w w' := by
  have hlen : (l.take L).length = L := by rw [List.length_take]; omega
  have h := log_Sum.calls (10 * (l.take L).length + 1) (some ⟨c, 0, none⟩) cap (l.take L) (crcF (l.take L)) w (by rw [hlen]; exact dkC hc 0 L (by omega) hl) (by rw [hlen]; exact hcap) (sum_f _ (by rw [hlen]; omega)).1
  rw [hlen] at h
  exact h
/-! ### right, each, Room -/
def lgRight (n s : Nat) : Bool := decide (4 ≤ n) && decide (256 ≤ s)
def lgRoom (n s : Nat) : Nat := if lgRight n s = true then min (n / 2 * (s - 36)) 16384 else 0
section
variable {w : World} {base g q s : Nat} {hs : List Nat} {bs : List (List Int)} {cut pre : Int} {dead : Bool}
set_option maxHeartbeats 4000000 in
set_option maxRecDepth 100000 in
theorem log_right.calls (hd : DK w base g q s hs bs cut pre dead) (hn : 0 < hs.length) : Calls Tryd.prog 29 #[.pointer (some ⟨g, 0, none⟩)] w fun e w' => e = .returned (.bool (lgRight hs.length s)) ∧ Drawn0 w w' := by
  have HD := Aside0.mk hd
  have HN := Aside0.mk hn
  clear hd hn
  by_cases k1 : 4 ≤ hs.length
  · have e1 : decide (4 ≤ (hs.length : Int)) = true := decide_eq_true (by omega)
    have e2 : decide (4 ≤ hs.length) = true := decide_eq_true k1
    have e3 : ((4 : Int) ≤ (hs.length : Int)) = True := eq_true (by omega)
    have e4 : (4 ≤ hs.length) = True := eq_true k1
    have er : lgRight hs.length s = decide (256 ≤ s) := by unfold lgRight; rw [e2, Bool.true_and]
    rw [er]
    clear k1 er
    by_cases k2 : 256 ≤ s
    · have f1 : decide (256 ≤ (s : Int)) = true := decide_eq_true (by omega)
      have f2 : decide (256 ≤ s) = true := decide_eq_true k2
      have f3 : ((256 : Int) ≤ (s : Int)) = True := eq_true (by omega)
      have f4 : (256 ≤ s) = True := eq_true k2
      clear k2
      rw [f2]
      go_enter Tryd.func29, Tryd.ntmps29
      go_wp2_with fail
      refine (disk_Blocks.calls HD.out).mono ?_
      rintro e w1 ⟨rfl, ⟨nd, rfl⟩⟩
      (try dsimp only)
      go_wp2_with fail
      refine (disk_Size.calls (HD.out.drewN nd) HN.out).mono ?_
      rintro e w1 ⟨rfl, ⟨nd2, rfl⟩⟩
      (try dsimp only)
      go_wp2
      go_ret
      exact ⟨rfl, by repeat (first | exact Drawn0.refl _ | exact ⟨nd + nd2, rfl⟩ | apply Drawn0.step)⟩
    · have f1 : decide (256 ≤ (s : Int)) = false := decide_eq_false (by omega)
      have f2 : decide (256 ≤ s) = false := decide_eq_false k2
      have f3 : ((256 : Int) ≤ (s : Int)) = False := eq_false (by omega)
      have f4 : (256 ≤ s) = False := eq_false k2
      clear k2
      rw [f2]
      go_enter Tryd.func29, Tryd.ntmps29
      go_wp2_with fail
      refine (disk_Blocks.calls HD.out).mono ?_
      rintro e w1 ⟨rfl, ⟨nd, rfl⟩⟩
      (try dsimp only)
      go_wp2_with fail
      refine (disk_Size.calls (HD.out.drewN nd) HN.out).mono ?_
      rintro e w1 ⟨rfl, ⟨nd2, rfl⟩⟩
      (try dsimp only)
      go_wp2
      go_ret
      exact ⟨rfl, by repeat (first | exact Drawn0.refl _ | exact ⟨nd + nd2, rfl⟩ | apply Drawn0.step)⟩
  · have e1 : decide (4 ≤ (hs.length : Int)) = false := decide_eq_false (by omega)
    have e2 : decide (4 ≤ hs.length) = false := decide_eq_false k1
    have e3 : ((4 : Int) ≤ (hs.length : Int)) = False := eq_false (by omega)
    have e4 : (4 ≤ hs.length) = False := eq_false k1
    have er : lgRight hs.length s = false := by unfold lgRight; rw [e2, Bool.false_and]
    rw [er]
    clear k1 er
    go_enter Tryd.func29, Tryd.ntmps29
    go_wp2_with fail
    refine (disk_Blocks.calls HD.out).mono ?_
    rintro e w1 ⟨rfl, ⟨nd, rfl⟩⟩
    (try dsimp only)
    go_wp2
    go_ret
    exact ⟨rfl, by repeat (first | exact Drawn0.refl _ | exact ⟨nd, rfl⟩ | apply Drawn0.step)⟩
set_option maxHeartbeats 4000000 in
set_option maxRecDepth 100000 in
theorem log_each.calls (hd : DK w base g q s hs bs cut pre dead) (hn : 0 < hs.length) (h36 : 36 ≤ s) (hs6 : s ≤ 65536) : Calls Tryd.prog 34 #[.pointer (some ⟨g, 0, none⟩)] w fun e w' => e = .returned (.int .i64 ((s - 36 : Nat) : Int)) ∧ Drawn0 w w' := by
  have HD := Aside0.mk hd
  have HN := Aside0.mk hn
  have E1 := Aside0.mk (show wrap64 ((s : Int) - 24) = ((s - 24 : Nat) : Int) by unfold wrap64; omega)
  have E2 := Aside0.mk (show wrap64 (((s - 24 : Nat) : Int) - 12) = ((s - 36 : Nat) : Int) by unfold wrap64; omega)
  clear hd hn h36 hs6
  go_enter Tryd.func34, Tryd.ntmps34
  go_wp2_with fail
  refine (disk_Size.calls HD.out HN.out).mono ?_
  rintro e w1 ⟨rfl, ⟨nd, rfl⟩⟩
  (try dsimp only)
  have e1 := E1.out
  have e2 := E2.out
  go_wp2
  go_ret
  exact ⟨congrArg Ending.returned (congrArg (Value.int .i64) E2.out), by repeat (first | exact Drawn0.refl _ | exact ⟨nd, rfl⟩ | apply Drawn0.step)⟩
set_option maxHeartbeats 4000000 in
set_option maxRecDepth 100000 in
theorem log_Room.calls (hd : DK w base g q s hs bs cut pre dead) (hn : 0 < hs.length) (h64 : hs.length ≤ 64) (hs6 : s ≤ 65536) : Calls Tryd.prog 16 #[.pointer (some ⟨g, 0, none⟩)] w fun e w' => e = .returned (.int .i64 (lgRoom hs.length s : Int)) ∧ Drawn0 w w' := by
  have HD := Aside0.mk hd
  have HN := Aside0.mk hn
  have H64 := Aside0.mk (And.intro h64 hs6)
  clear hd hn h64 hs6
  cases hr : lgRight hs.length s with
  | true =>
    have hr2 : 4 ≤ hs.length ∧ 256 ≤ s := by
      unfold lgRight at hr
      simpa using hr
    have e1 : wrap64 ((hs.length : Int) / 2) = ((hs.length / 2 : Nat) : Int) := by unfold wrap64; have := H64.out; omega
    have e2 : wrap64 (((hs.length / 2 : Nat) : Int) * ((s - 36 : Nat) : Int)) = ((hs.length / 2 * (s - 36) : Nat) : Int) := by
      have h1 : hs.length / 2 * (s - 36) ≤ 32 * 65536 := Nat.mul_le_mul (by have := H64.out; omega) (by have := H64.out; omega)
      have h2 : (((hs.length / 2 : Nat) : Int) * ((s - 36 : Nat) : Int)) = ((hs.length / 2 * (s - 36) : Nat) : Int) := by rw [Int.natCast_mul]
      rw [h2]
      unfold wrap64
      omega
    have e3 : mn ((hs.length / 2 * (s - 36) : Nat) : Int) 16384 = (lgRoom hs.length s : Int) := by
      unfold lgRoom
      rw [hr, if_pos rfl]
      unfold mn
      split <;> omega
    have E1 := Aside0.mk e1
    have E2 := Aside0.mk e2
    have E3 := Aside0.mk e3
    clear e1 e2 e3
    go_enter Tryd.func16, Tryd.ntmps16
    go_wp2_with fail
    refine (log_right.calls HD.out HN.out).mono ?_
    rintro e w1 ⟨rfl, ⟨nd, rfl⟩⟩
    rw [hr]
    (try dsimp only)
    go_wp2_with fail
    refine (disk_Blocks.calls (HD.out.drewN nd)).mono ?_
    rintro e w1 ⟨rfl, ⟨nd2, rfl⟩⟩
    (try dsimp only)
    go_wp2_with fail
    refine (log_each.calls (HD.out.drewN (nd + nd2)) HN.out (by omega) H64.out.2).mono ?_
    rintro e w1 ⟨rfl, ⟨nd3, rfl⟩⟩
    (try dsimp only)
    have E4 : mn (wrap64 ((hs.length : Int) / 2 * ((s - 36 : Nat) : Int))) 16384 = (lgRoom hs.length s : Int) := by
      rw [show (hs.length : Int) / 2 = ((hs.length / 2 : Nat) : Int) by omega, E2.out, E3.out]
    have e1 := E1.out
    have E4 := Aside0.mk E4
    go_wp2
    go_ret
    exact ⟨by first | rfl | exact congrArg Ending.returned (congrArg (Value.int .i64) E4.out), by repeat (first | exact Drawn0.refl _ | exact ⟨nd + nd2 + nd3, rfl⟩ | apply Drawn0.step)⟩
  | false =>
    have e0 : lgRoom hs.length s = 0 := by
      unfold lgRoom
      rw [hr, if_neg (by decide)]
    rw [e0]
    go_enter Tryd.func16, Tryd.ntmps16
    go_wp2_with fail
    refine (log_right.calls HD.out HN.out).mono ?_
    rintro e w1 ⟨rfl, ⟨nd, rfl⟩⟩
    rw [hr]
    (try dsimp only)
    go_wp2
    (try simp only [Exit.inBlock, Exit.then])
    go_ret
    exact ⟨rfl, by repeat (first | exact Drawn0.refl _ | exact ⟨nd, rfl⟩ | apply Drawn0.step)⟩
end
end Go.Proofs.YtgeggcifhojpmaaDoor.PB
/- A block's bytes: what (block).bytes writes. -/
namespace Go.Proofs.YtgeggcifhojpmaaDoor.PB
open Go.RowKit Go.Proofs.YtgeggcifhojpmaaDoorW.PrintWords Go.Proofs.YtgeggcifhojpmaaDoorW.PrintLast Go.Proofs.YtgeggcifhojpmaaDoorW.PrintMore
attribute [local go_sem] max2_mx min2_mn max_two min_two max_three min_three max_four min_four   -- for this text's walks alone
set_option linter.unusedVariables false
set_option linter.unusedSimpArgs false

/-- new laid into cur at off. -/
def lgO (cur : List Int) (off : Nat) (new : List Int) : List Int := cur.take off ++ (new ++ cur.drop (off + new.length))
theorem lgO_length {cur new : List Int} {off : Nat} (h : off + new.length ≤ cur.length) : (lgO cur off new).length = cur.length := by
  simp only [lgO, List.length_append, List.length_take, List.length_drop]
  omega
theorem lgO_mid (a b c n : List Int) (h : b.length = n.length) : lgO (a ++ (b ++ c)) a.length n = a ++ (n ++ c) := by
  unfold lgO
  rw [List.take_left, ← h, ← List.drop_drop, List.drop_left, List.drop_left]
/-- All of a block but its last twelve bytes. -/
def lgBody (s : Nat) (m r ln i : Int) (b : List Int) : List Int := be 8 m ++ (be 8 r ++ (be 4 ln ++ (be 4 i ++ (b ++ List.replicate (s - 36 - b.length) 0))))
def lgBlk (s : Nat) (m r ln i : Int) (b : List Int) : List Int := lgBody s m r ln i b ++ (be 4 (crcF (lgBody s m r ln i b)) ++ be 8 m)
theorem lgBody_length {s : Nat} {m r ln i : Int} {b : List Int} (h36 : 36 ≤ s) (hb : b.length ≤ s - 36) : (lgBody s m r ln i b).length = s - 12 := by
  simp only [lgBody, List.length_append, be_length, List.length_replicate]
  omega
theorem lgBlk_length {s : Nat} {m r ln i : Int} {b : List Int} (h36 : 36 ≤ s) (hb : b.length ≤ s - 36) : (lgBlk s m r ln i b).length = s := by
  rw [lgBlk, List.length_append, lgBody_length h36 hb, List.length_append, be_length, be_length]
  omega
theorem lgZ (s : Nat) (n : Nat) (h36 : 36 ≤ s) (hn : n ≤ s - 36) : List.replicate s (0 : Int) = List.replicate 8 0 ++ (List.replicate 8 0 ++ (List.replicate 4 0 ++ (List.replicate 4 0 ++ ((List.replicate n 0 ++ List.replicate (s - 36 - n) 0) ++ (List.replicate 4 0 ++ List.replicate 8 0))))) := by
  rw [List.replicate_append_replicate, List.replicate_append_replicate, List.replicate_append_replicate, List.replicate_append_replicate, List.replicate_append_replicate, List.replicate_append_replicate, List.replicate_append_replicate]
  congr 1
  omega
def lg1 (s : Nat) (m : Int) := lgO (List.replicate s 0) 0 (be 8 m)
def lg2 (s : Nat) (m r : Int) := lgO (lg1 s m) 8 (be 8 r)
def lg3 (s : Nat) (m r ln : Int) := lgO (lg2 s m r) 16 (be 4 ln)
def lg4 (s : Nat) (m r ln i : Int) := lgO (lg3 s m r ln) 20 (be 4 i)
def lg5 (s : Nat) (m r ln i : Int) (b : List Int) := lgO (lg4 s m r ln i) 24 b
def lg6 (s : Nat) (m r ln i : Int) (b : List Int) := lgO (lg5 s m r ln i b) (s - 8) (be 8 m)
theorem lg4_eq (s : Nat) (m r ln i : Int) (n : Nat) (h36 : 36 ≤ s) (hn : n ≤ s - 36) : lg4 s m r ln i = be 8 m ++ (be 8 r ++ (be 4 ln ++ (be 4 i ++ ((List.replicate n 0 ++ List.replicate (s - 36 - n) 0) ++ (List.replicate 4 0 ++ List.replicate 8 0))))) := by
  have e1 : lg1 s m = be 8 m ++ (List.replicate 8 0 ++ (List.replicate 4 0 ++ (List.replicate 4 0 ++ ((List.replicate n 0 ++ List.replicate (s - 36 - n) 0) ++ (List.replicate 4 0 ++ List.replicate 8 0))))) := by
    unfold lg1
    rw [lgZ s n h36 hn]
    exact lgO_mid [] (List.replicate 8 0) _ (be 8 m) (by rw [be_length, List.length_replicate])
  have e2 : lg2 s m r = be 8 m ++ (be 8 r ++ (List.replicate 4 0 ++ (List.replicate 4 0 ++ ((List.replicate n 0 ++ List.replicate (s - 36 - n) 0) ++ (List.replicate 4 0 ++ List.replicate 8 0))))) := by
    unfold lg2
    rw [e1]
    have := lgO_mid (be 8 m) (List.replicate 8 0) (List.replicate 4 0 ++ (List.replicate 4 0 ++ ((List.replicate n 0 ++ List.replicate (s - 36 - n) 0) ++ (List.replicate 4 0 ++ List.replicate 8 0)))) (be 8 r) (by rw [be_length, List.length_replicate])
    rw [be_length] at this
    exact this
  have e3 : lg3 s m r ln = be 8 m ++ (be 8 r ++ (be 4 ln ++ (List.replicate 4 0 ++ ((List.replicate n 0 ++ List.replicate (s - 36 - n) 0) ++ (List.replicate 4 0 ++ List.replicate 8 0))))) := by
    unfold lg3
    rw [e2, ← List.append_assoc]
    have := lgO_mid (be 8 m ++ be 8 r) (List.replicate 4 0) (List.replicate 4 0 ++ ((List.replicate n 0 ++ List.replicate (s - 36 - n) 0) ++ (List.replicate 4 0 ++ List.replicate 8 0))) (be 4 ln) (by rw [be_length, List.length_replicate])
    rw [List.length_append, be_length, be_length] at this
    rw [this, List.append_assoc]
  unfold lg4
  rw [e3, ← List.append_assoc, ← List.append_assoc]
  have := lgO_mid (be 8 m ++ be 8 r ++ be 4 ln) (List.replicate 4 0) ((List.replicate n 0 ++ List.replicate (s - 36 - n) 0) ++ (List.replicate 4 0 ++ List.replicate 8 0)) (be 4 i) (by rw [be_length, List.length_replicate])
  rw [List.length_append, List.length_append, be_length, be_length, be_length] at this
  rw [this, List.append_assoc, List.append_assoc]
theorem lg6_eq (s : Nat) (m r ln i : Int) (b : List Int) (h36 : 36 ≤ s) (hn : b.length ≤ s - 36) : lg6 s m r ln i b = lgBody s m r ln i b ++ (List.replicate 4 0 ++ be 8 m) := by
  have e5 : lg5 s m r ln i b = lgBody s m r ln i b ++ (List.replicate 4 0 ++ List.replicate 8 0) := by
    unfold lg5 lgBody
    rw [lg4_eq s m r ln i b.length h36 hn, ← List.append_assoc, ← List.append_assoc, ← List.append_assoc, List.append_assoc (List.replicate b.length 0)]
    have := lgO_mid (be 8 m ++ be 8 r ++ be 4 ln ++ be 4 i) (List.replicate b.length 0) (List.replicate (s - 36 - b.length) 0 ++ (List.replicate 4 0 ++ List.replicate 8 0)) b (by rw [List.length_replicate])
    rw [List.length_append, List.length_append, List.length_append, be_length, be_length, be_length, be_length] at this
    rw [this]
    simp only [List.append_assoc]
  unfold lg6
  rw [e5, ← List.append_assoc]
  have hl := lgBody_length (m := m) (r := r) (ln := ln) (i := i) h36 hn
  have := lgO_mid (lgBody s m r ln i b ++ List.replicate 4 0) (List.replicate 8 0) [] (be 8 m) (by rw [be_length, List.length_replicate])
  rw [List.length_append, hl, List.length_replicate, show s - 12 + 4 = s - 8 by omega, List.append_nil, List.append_nil] at this
  rw [this, List.append_assoc]
theorem lg7_eq (s : Nat) (m r ln i : Int) (b : List Int) (h36 : 36 ≤ s) (hn : b.length ≤ s - 36) : lgO (lg6 s m r ln i b) (s - 12) (be 4 (crcF (lgBody s m r ln i b))) = lgBlk s m r ln i b := by
  have hl := lgBody_length (m := m) (r := r) (ln := ln) (i := i) h36 hn
  rw [lg6_eq s m r ln i b h36 hn]
  have := lgO_mid (lgBody s m r ln i b) (List.replicate 4 0) (be 8 m) (be 4 (crcF (lgBody s m r ln i b))) (by rw [be_length, List.length_replicate])
  rw [hl] at this
  exact this
theorem lg6_take (s : Nat) (m r ln i : Int) (b : List Int) (h36 : 36 ≤ s) (hn : b.length ≤ s - 36) : (lg6 s m r ln i b).take (s - 12) = lgBody s m r ln i b := by
  rw [lg6_eq s m r ln i b h36 hn, ← lgBody_length (m := m) (r := r) (ln := ln) (i := i) h36 hn, List.take_left]
theorem lgl (s : Nat) (m r ln i : Int) (b : List Int) (h36 : 36 ≤ s) (hn : b.length ≤ s - 36) : (lg1 s m).length = s ∧ (lg2 s m r).length = s ∧ (lg3 s m r ln).length = s ∧ (lg4 s m r ln i).length = s ∧ (lg5 s m r ln i b).length = s ∧ (lg6 s m r ln i b).length = s := by
  have h1 : (lg1 s m).length = s := by unfold lg1; rw [lgO_length] <;> (simp only [be_length, List.length_replicate]; try omega)
  have h2 : (lg2 s m r).length = s := by unfold lg2; rw [lgO_length] <;> (simp only [be_length, h1]; try omega)
  have h3 : (lg3 s m r ln).length = s := by unfold lg3; rw [lgO_length] <;> (simp only [be_length, h2]; try omega)
  have h4 : (lg4 s m r ln i).length = s := by unfold lg4; rw [lgO_length] <;> (simp only [be_length, h3]; try omega)
  have h5 : (lg5 s m r ln i b).length = s := by unfold lg5; rw [lgO_length] <;> (simp only [h4]; try omega)
  have h6 : (lg6 s m r ln i b).length = s := by unfold lg6; rw [lgO_length] <;> (simp only [be_length, h5]; try omega)
  exact ⟨h1, h2, h3, h4, h5, h6⟩
/-- A copy of bytes into a block, anywhere. -/
theorem dk_copy_at {W : World} {g : Nat} {ad : Addr} {cur bl : List Int} {off n dCap sCap : Nat} (hg : W.heap[g]? = some (.cells (dkB cur) 5 (0, 0))) (hl : off + bl.length ≤ cur.length) (hn : bl.length ≤ n) (hs : ∀ (j : Nat) (x : Int), bl[j]? = some x → W.cell? (ad.add j) = some (.int .u8 x)) :
    (Builtin.copy_ #[22, 22] 3 #[.slice (some ⟨g, off, none⟩) n dCap, .slice (some ad) bl.length sCap]).run Tryd.prog W = .ok (.int .i64 (bl.length : Int)) (W.setRow g (dkB (lgO cur off bl))) := by
  obtain ⟨i, hi, hz, hsz, hb⟩ := info_parts info5
  have h1 := run_copy_row (P := Tryd.prog) W 22 22 3 5 g off n dCap ad bl.length sCap (dkB cur) 5 (bl.map (Value.int .u8)) Tryd.underlying22 (by rw [hi]; simp [hsz]) hg (by simp [Nat.min_def]; omega) (fun j v hv => by
    rw [List.getElem?_map] at hv
    cases h2 : bl[j]? with
    | none => rw [h2] at hv; cases hv
    | some x =>
      rw [h2] at hv
      obtain rfl : Value.int .u8 x = v := Option.some.inj hv
      exact hs j x h2) (by simp [dkB]; omega) (fun v hv => by
    obtain ⟨x, _, rfl⟩ := List.mem_map.1 hv
    rfl)
  rw [h1]
  simp [dkB, goInt, lgO, List.map_drop]
theorem cell_below {w w' : World} {a : Addr} {v : Value} (h : w.cell? a = some v) (hb : Below w.heap.size w w') : w'.cell? a = some v := by
  have hlt := World.block_lt_of_cell? _ _ h
  have := hb.block a.block hlt
  simp only [World.cell?, this] at h ⊢
  exact h
end Go.Proofs.YtgeggcifhojpmaaDoor.PB
/- What (block).bytes does: a new block of bytes, whole. -/
namespace Go.Proofs.YtgeggcifhojpmaaDoor.PB
open Go.RowKit Go.Proofs.YtgeggcifhojpmaaDoorW.PrintWords Go.Proofs.YtgeggcifhojpmaaDoorW.PrintLast Go.Proofs.YtgeggcifhojpmaaDoorW.PrintMore
attribute [local go_sem] max2_mx min2_mn max_two min_two max_three min_three max_four min_four   -- for this text's walks alone
set_option linter.unusedVariables false
set_option linter.unusedSimpArgs false

def block_bytes.R2.T : Bool × List (List Nat × List Nat) := (true, [([], []), ([0], [0]), ([], []), ([2], [2]), ([1, 3], [1, 3])])
theorem block_bytes.R2.tab : rtab .any (opsOf Tryd.f36 2) = block_bytes.R2.T := by kernel_rfl
theorem block_bytes.R2.bits : waitsOk block_bytes.R2.T.2 [0, 1, 0, 4, 15] = true := by kernel_rfl
def block_bytes.R3.T : Bool × List (List Nat × List Nat) := (true, [([], []), ([0], [0]), ([], []), ([2], [2]), ([1, 3], [1, 3])])
theorem block_bytes.R3.tab : rtab .any (opsOf Tryd.f36 3) = block_bytes.R3.T := by kernel_rfl
theorem block_bytes.R3.bits : waitsOk block_bytes.R3.T.2 [0, 1, 0, 4, 15] = true := by kernel_rfl
def block_bytes.R4.T : Bool × List (List Nat × List Nat) := (true, [([], []), ([0], [0]), ([], []), ([2], [2]), ([3], [3]), ([1, 4], [1, 4])])
theorem block_bytes.R4.tab : rtab .any (opsOf Tryd.f36 4) = block_bytes.R4.T := by kernel_rfl
theorem block_bytes.R4.bits : waitsOk block_bytes.R4.T.2 [0, 1, 0, 4, 12, 31] = true := by kernel_rfl
def block_bytes.R5.T : Bool × List (List Nat × List Nat) := (true, [([], []), ([0], [0]), ([], []), ([2], [2]), ([3], [3]), ([1, 4], [1, 4])])
theorem block_bytes.R5.tab : rtab .any (opsOf Tryd.f36 5) = block_bytes.R5.T := by kernel_rfl
theorem block_bytes.R5.bits : waitsOk block_bytes.R5.T.2 [0, 1, 0, 4, 12, 31] = true := by kernel_rfl
def block_bytes.R6.T : Bool × List (List Nat × List Nat) := (true, [([], []), ([], []), ([1], [1]), ([0, 2], [0, 2]), ([], []), ([4], [4]), ([3, 5], [3, 5])])
theorem block_bytes.R6.tab : rtab .any (opsOf Tryd.f36 6) = block_bytes.R6.T := by kernel_rfl
theorem block_bytes.R6.bits : waitsOk block_bytes.R6.T.2 [0, 0, 2, 7, 0, 16, 63] = true := by kernel_rfl
def block_bytes.R7.T : Bool × List (List Nat × List Nat) := (true, [([], []), ([], []), ([1], [1]), ([0, 2], [0, 2]), ([], []), ([4], [4]), ([3, 5], [3, 5])])
theorem block_bytes.R7.tab : rtab .any (opsOf Tryd.f36 7) = block_bytes.R7.T := by kernel_rfl
theorem block_bytes.R7.bits : waitsOk block_bytes.R7.T.2 [0, 0, 2, 7, 0, 16, 63] = true := by kernel_rfl
def block_bytes.R8.T : Bool × List (List Nat × List Nat) := (true, [([], []), ([], []), ([1], [1]), ([], []), ([3], [3]), ([0, 2, 4], [0, 2, 4]), ([], []), ([], []), ([7], [7]), ([6, 8], [6, 8]), ([9], [9]), ([10], [10]), ([5, 11, 10], [5, 11])])
theorem block_bytes.R8.tab : rtab .any (opsOf Tryd.f36 8) = block_bytes.R8.T := by kernel_rfl
theorem block_bytes.R8.bits : waitsOk block_bytes.R8.T.2 [0, 0, 2, 0, 8, 31, 0, 0, 128, 448, 960, 1984, 4095] = true := by kernel_rfl
set_option maxHeartbeats 4000000 in
set_option maxRecDepth 100000 in
theorem block_bytes.calls (w : World) (m r ln i : Int) (ad : Addr) (bl : List Int) (cap s : Nat) (hsrc : ∀ (j : Nat) (x : Int), bl[j]? = some x → w.cell? (ad.add j) = some (.int .u8 x)) (hb : bl.length ≤ s - 36) (h36 : 36 ≤ s) (hs : s ≤ 65536) (rm : 0 ≤ m ∧ m < 18446744073709551616) (rr : 0 ≤ r ∧ r < 18446744073709551616) (rl : 0 ≤ ln ∧ ln < 4294967296) (ri : 0 ≤ i ∧ i < 4294967296) :
    Calls Tryd.prog 36 #[.agg #[.int .u64 m, .int .u64 r, .int .i64 ln, .int .i64 i, .slice (some ad) bl.length cap], .int .i64 s] w fun e w' => ∃ c, e = .returned (.slice (some ⟨c, 0, none⟩) s s) ∧ w'.heap[c]? = some (.cells (dkB (lgBlk s m r ln i bl)) 5 (0, 0)) ∧ w.heap.size ≤ c ∧ Below w.heap.size w w' := by
  have HS := Aside0.mk (And.intro h36 (And.intro hs hb))
  have LEN := Aside0.mk (lgl s m r ln i bl h36 hb)
  have SRC := Aside0.mk hsrc
  have R0 := Aside0.mk rm
  have R1 := Aside0.mk rr
  have R2 := Aside0.mk rl
  have R3 := Aside0.mk ri
  have hmk := dk_make (s : Int) (by omega) (by omega)
  rw [Int.toNat_natCast] at hmk
  have v2 : IntKind.u64.wrap ln = ln := by rw [IntKind.wrap_u64]; omega
  have v3 : IntKind.u64.wrap i = i := by rw [IntKind.wrap_u64]; omega
  have x12 : wrap64 ((s : Int) - 12) = ((s - 12 : Nat) : Int) := by unfold wrap64; omega
  have x8 : wrap64 ((s : Int) - 8) = ((s - 8 : Nat) : Int) := by unfold wrap64; omega
  have l8a : (8 ≤ s) = True := eq_true (by omega)
  have l8b : ((8 : Int) ≤ ((s : Nat) : Int)) = True := eq_true (by omega)
  have l8c : (((s : Nat) : Int) < (8 : Int)) = False := eq_false (by omega)
  have l8d : (s < 8) = False := eq_false (by omega)
  have l16a : (16 ≤ s) = True := eq_true (by omega)
  have l16b : ((16 : Int) ≤ ((s : Nat) : Int)) = True := eq_true (by omega)
  have l16c : (((s : Nat) : Int) < (16 : Int)) = False := eq_false (by omega)
  have l16d : (s < 16) = False := eq_false (by omega)
  have l20a : (20 ≤ s) = True := eq_true (by omega)
  have l20b : ((20 : Int) ≤ ((s : Nat) : Int)) = True := eq_true (by omega)
  have l20c : (((s : Nat) : Int) < (20 : Int)) = False := eq_false (by omega)
  have l20d : (s < 20) = False := eq_false (by omega)
  have l24a : (24 ≤ s) = True := eq_true (by omega)
  have l24b : ((24 : Int) ≤ ((s : Nat) : Int)) = True := eq_true (by omega)
  have l24c : (((s : Nat) : Int) < (24 : Int)) = False := eq_false (by omega)
  have l24d : (s < 24) = False := eq_false (by omega)
  have l12a : (24 ≤ s - 12) = True := eq_true (by omega)
  have l12b : ((24 : Int) ≤ ((s - 12 : Nat) : Int)) = True := eq_true (by omega)
  have l12c : (((s - 12 : Nat) : Int) < (24 : Int)) = False := eq_false (by omega)
  have l12d : (s - 12 < 24) = False := eq_false (by omega)
  have k12a : (s - 12 ≤ s) = True := eq_true (by omega)
  have k12b : (((s - 12 : Nat) : Int) ≤ ((s : Nat) : Int)) = True := eq_true (by omega)
  have k12c : (((s : Nat) : Int) < ((s - 12 : Nat) : Int)) = False := eq_false (by omega)
  have k12d : (s < s - 12) = False := eq_false (by omega)
  have k8a : (s - 8 ≤ s) = True := eq_true (by omega)
  have k8b : (((s - 8 : Nat) : Int) ≤ ((s : Nat) : Int)) = True := eq_true (by omega)
  have k8c : (((s : Nat) : Int) < ((s - 8 : Nat) : Int)) = False := eq_false (by omega)
  have k8d : (s < s - 8) = False := eq_false (by omega)
  have kka : (s - 12 ≤ s - 8) = True := eq_true (by omega)
  have kkb : (((s - 12 : Nat) : Int) ≤ ((s - 8 : Nat) : Int)) = True := eq_true (by omega)
  have kkc : (((s - 8 : Nat) : Int) < ((s - 12 : Nat) : Int)) = False := eq_false (by omega)
  have kkd : (s - 8 < s - 12) = False := eq_false (by omega)
  have n8 : (s = 8) = False := eq_false (by omega)
  have n16 : (s = 16) = False := eq_false (by omega)
  have n20 : (s = 20) = False := eq_false (by omega)
  have n24 : (s = 24) = False := eq_false (by omega)
  have n12 : (s = s - 12) = False := eq_false (by omega)
  have m8 : (s = s - 8) = False := eq_false (by omega)
  have z8 : s - (s - 8) = 8 := by omega
  have z12 : s - (s - 12) = 12 := by omega
  have y4 : s - 8 - (s - 12) = 4 := by omega
  have y36 : s - 12 - 24 = s - 36 := by omega

  clear hsrc hb h36 hs rm rr rl ri
  go_enter Tryd.func36, Tryd.ntmps36
  go_upto_region 2 with (fail)
  obtain ⟨xb, hxb⟩ : ∃ xb, xb = w.heap.size := ⟨_, rfl⟩
  obtain ⟨c, hc⟩ : ∃ c, c = w.heap.size + 1 := ⟨_, rfl⟩
  have NE := Aside0.mk (show xb ≠ c by omega)
  have CB := Aside0.mk (show w.heap.size ≤ c ∧ w.heap.size ≤ w.heap.size by omega)
  have HX : Aside0 (((w.alloc (.cells #[.int .u64 m, .int .u64 r, .int .i64 ln, .int .i64 i, .slice (some ad) bl.length cap] 65)).alloc (.cells (dkB (List.replicate s 0)) 5)).heap[xb]? = some (.cells #[.int .u64 m, .int .u64 r, .int .i64 ln, .int .i64 i, .slice (some ad) bl.length cap] 65 (0, 0))) := ⟨by rw [hxb]; exact blk_alloc (blk_new w _) _⟩
  have HC : Aside0 (((w.alloc (.cells #[.int .u64 m, .int .u64 r, .int .i64 ln, .int .i64 i, .slice (some ad) bl.length cap] 65)).alloc (.cells (dkB (List.replicate s 0)) 5)).heap[c]? = some (.cells (dkB (List.replicate s 0)) 5 (0, 0))) := ⟨by
    rw [hc]
    have := blk_new (w.alloc (.cells #[.int .u64 m, .int .u64 r, .int .i64 ln, .int .i64 i, .slice (some ad) bl.length cap] 65)) (.cells (dkB (List.replicate s 0)) 5)
    simpa using this⟩
  have HB := Aside0.mk (below_alloc (below_alloc (Below.refl w.heap.size w) (.cells #[.int .u64 m, .int .u64 r, .int .i64 ln, .int .i64 i, .slice (some ad) bl.length cap] 65)) (.cells (dkB (List.replicate s 0)) 5))
  rw [← hc, ← hxb]
  have CR := Aside0.mk (sum_f (lgBody s m r ln i bl) (by rw [lgBody_length HS.out.1 HS.out.2.2]; have := HS.out; omega)).2
  have v4 : IntKind.u64.wrap (crcF (lgBody s m r ln i bl)) = crcF (lgBody s m r ln i bl) := by rw [IntKind.wrap_u64]; have := CR.out; omega
  generalize (w.alloc (.cells #[.int .u64 m, .int .u64 r, .int .i64 ln, .int .i64 i, .slice (some ad) bl.length cap] 65)).alloc (.cells (dkB (List.replicate s 0)) 5) = w4 at HX HC HB ⊢
  clear hmk hxb hc
  go_upto_region 2 with (fail)
  refine start_ (n := 5) (S := fun w' => w'.cell? ⟨xb, 0, none⟩ = some (.int .u64 m)) (ds := []) #[false, false, false, false, false] (by kernel_rfl) rfl rfl ((blk_cell HX.out 0).trans rfl) (fun hHeld => ?_)
  refine with_tabW block_bytes.R2.tab block_bytes.R2.bits (fun HT_ HW_ => ?_)
  refine pure_ (i := 0) (N := some 8) (v := ?_) (a' := ?_) #[true, false, false, false, false] rfl rfl (any_of HT_.out (by kernel_rfl)) (fun _ _ _ h => h) (Or.inl ⟨by rfl, ?_⟩) ?_ ?_
  rotate_left
  · intro w'
    go_simp
    with_reducible rfl
  rotate_left
  · simp only [Act.put, List.setIfInBounds_toArray, List.set_cons_zero, List.set_cons_succ, i64_w, i32_w]
    rfl
  refine pure_ (i := 1) (N := some 9) (v := ?_) (a' := ?_) #[true, true, false, false, false] rfl rfl (any_of HT_.out (by kernel_rfl)) (fun _ _ _ h => h) (Or.inl ⟨by rfl, ?_⟩) ?_ ?_
  rotate_left
  · intro w'
    go_simp
    with_reducible rfl
  rotate_left
  · simp only [Act.put, List.setIfInBounds_toArray, List.set_cons_zero, List.set_cons_succ, i64_w, i32_w]
    rfl
  refine pure_ (i := 2) (N := some 10) (v := ?_) (a' := ?_) #[true, true, true, false, false] rfl rfl (any_of HT_.out (by kernel_rfl)) (fun _ _ _ h => h) (Or.inl ⟨by rfl, ?_⟩) ?_ ?_
  rotate_left
  · intro w'
    go_simp
    with_reducible rfl
  rotate_left
  · simp only [Act.put, List.setIfInBounds_toArray, List.set_cons_zero, List.set_cons_succ, i64_w, i32_w]
    rfl
  refine take_ (i := 3) (N := some 11) (v := ?_) (a' := ?_) #[true, true, true, true, false] rfl rfl (take_ofW HT_.out HW_.out (by kernel_rfl)) (fun _ _ _ h => h) (Or.inl ⟨by rfl, ?_⟩) hHeld ?_ ?_
  rotate_left
  · intro w' s0
    go_simp
    with_reducible rfl
  rotate_left
  · simp only [Act.put, List.setIfInBounds_toArray, List.set_cons_zero, List.set_cons_succ, i64_w, i32_w]
    rfl
  refine one_ (i := 4) (N := some 12) #[true, true, true, true, true] rfl rfl (one_of HT_.out (by kernel_rfl)) (by decide) (fun K hK => ?_)
  refine goes_ Tryd.func41 (by kernel_rfl) rfl #[.slice (some ⟨c, 0, none⟩) 8 s, .int .u64 m] (by rfl) rfl rfl (by first | rfl | (go_simp; done)) ?_
  refine (log_put.calls (blk_drew HC.out) 0 8 s m (by rw [List.length_replicate]; have := HS.out; omega) (by decide) (by have := HS.out; omega) R0.out.1).mono ?_
  rintro e w4 ⟨rfl, hc, hf⟩
  refine ⟨_, rfl, ?_⟩
  have n0_ : Aside0 (w4.heap[xb]? = some (.cells #[.int .u64 m, .int .u64 r, .int .i64 ln, .int .i64 i, .slice (some ad) bl.length cap] 65 (0, 0))) := ⟨(hf.block xb (blk_lt (blk_drew HX.out)) NE.out).trans (blk_drew HX.out)⟩
  have n1_ : Aside0 (Below w.heap.size w w4) := ⟨hf.below (below_drew1 HB.out) (below_size (below_drew1 HB.out)) (fun i hi => hi ▸ CB.out.1)⟩
  clear HX HC HB hf
  have HX := n0_
  have HB := n1_
  have HC := Aside0.mk hc
  clear n0_ n1_ hc
  refine hK.out _ _ ((blk_cell HX.out 0).trans rfl) (fun hHeld => ?_)
  clear hK K
  refine norm_ (a' := ?_) ?_ ?_
  rotate_left
  · show Act.put _ (some 12) _ = _
    simp only [Act.put, List.setIfInBounds_toArray, List.set_cons_zero, List.set_cons_succ, i64_w, i32_w]
    rfl
  refine done_ (done_of HT_.out (by kernel_rfl)) ?_
  clear HT_ HW_ hHeld
  have HC : Aside0 (w4.heap[c]? = some (Obj.cells (dkB (lg1 s m)) 5 (0, 0))) := ⟨HC.out⟩
  go_upto_region 3 with (fail)
  refine start_ (n := 5) (S := fun w' => w'.cell? ⟨xb, 1, none⟩ = some (.int .u64 r)) (ds := []) #[false, false, false, false, false] (by kernel_rfl) rfl rfl ((blk_cell HX.out 1).trans rfl) (fun hHeld => ?_)
  refine with_tabW block_bytes.R3.tab block_bytes.R3.bits (fun HT_ HW_ => ?_)
  refine pure_ (i := 0) (N := some 13) (v := ?_) (a' := ?_) #[true, false, false, false, false] rfl rfl (any_of HT_.out (by kernel_rfl)) (fun _ _ _ h => h) (Or.inl ⟨by rfl, ?_⟩) ?_ ?_
  rotate_left
  · intro w'
    go_simp
    with_reducible rfl
  rotate_left
  · simp only [Act.put, List.setIfInBounds_toArray, List.set_cons_zero, List.set_cons_succ, i64_w, i32_w]
    rfl
  refine pure_ (i := 1) (N := some 14) (v := ?_) (a' := ?_) #[true, true, false, false, false] rfl rfl (any_of HT_.out (by kernel_rfl)) (fun _ _ _ h => h) (Or.inl ⟨by rfl, ?_⟩) ?_ ?_
  rotate_left
  · intro w'
    go_simp
    with_reducible rfl
  rotate_left
  · simp only [Act.put, List.setIfInBounds_toArray, List.set_cons_zero, List.set_cons_succ, i64_w, i32_w]
    rfl
  refine pure_ (i := 2) (N := some 15) (v := ?_) (a' := ?_) #[true, true, true, false, false] rfl rfl (any_of HT_.out (by kernel_rfl)) (fun _ _ _ h => h) (Or.inl ⟨by rfl, ?_⟩) ?_ ?_
  rotate_left
  · intro w'
    go_simp
    with_reducible rfl
  rotate_left
  · simp only [Act.put, List.setIfInBounds_toArray, List.set_cons_zero, List.set_cons_succ, i64_w, i32_w]
    rfl
  refine take_ (i := 3) (N := some 16) (v := ?_) (a' := ?_) #[true, true, true, true, false] rfl rfl (take_ofW HT_.out HW_.out (by kernel_rfl)) (fun _ _ _ h => h) (Or.inl ⟨by rfl, ?_⟩) hHeld ?_ ?_
  rotate_left
  · intro w' s0
    go_simp
    with_reducible rfl
  rotate_left
  · simp only [Act.put, List.setIfInBounds_toArray, List.set_cons_zero, List.set_cons_succ, i64_w, i32_w]
    rfl
  refine one_ (i := 4) (N := some 17) #[true, true, true, true, true] rfl rfl (one_of HT_.out (by kernel_rfl)) (by decide) (fun K hK => ?_)
  refine goes_ Tryd.func41 (by kernel_rfl) rfl #[.slice (some ⟨c, 8, none⟩) 8 (s - 8), .int .u64 r] (by rfl) rfl rfl (by first | rfl | (go_simp; done)) ?_
  refine (log_put.calls (blk_drew HC.out) 8 8 (s - 8) r (by rw [LEN.out.1]; have := HS.out; omega) (by decide) (by have := HS.out; omega) R1.out.1).mono ?_
  rintro e w4 ⟨rfl, hc, hf⟩
  refine ⟨_, rfl, ?_⟩
  have n0_ : Aside0 (w4.heap[xb]? = some (.cells #[.int .u64 m, .int .u64 r, .int .i64 ln, .int .i64 i, .slice (some ad) bl.length cap] 65 (0, 0))) := ⟨(hf.block xb (blk_lt (blk_drew HX.out)) NE.out).trans (blk_drew HX.out)⟩
  have n1_ : Aside0 (Below w.heap.size w w4) := ⟨hf.below (below_drew1 HB.out) (below_size (below_drew1 HB.out)) (fun i hi => hi ▸ CB.out.1)⟩
  clear HX HC HB hf
  have HX := n0_
  have HB := n1_
  have HC := Aside0.mk hc
  clear n0_ n1_ hc
  refine hK.out _ _ ((blk_cell HX.out 1).trans rfl) (fun hHeld => ?_)
  clear hK K
  refine norm_ (a' := ?_) ?_ ?_
  rotate_left
  · show Act.put _ (some 17) _ = _
    simp only [Act.put, List.setIfInBounds_toArray, List.set_cons_zero, List.set_cons_succ, i64_w, i32_w]
    rfl
  refine done_ (done_of HT_.out (by kernel_rfl)) ?_
  clear HT_ HW_ hHeld
  have HC : Aside0 (w4.heap[c]? = some (Obj.cells (dkB (lg2 s m r)) 5 (0, 0))) := ⟨HC.out⟩
  go_upto_region 4 with (fail)
  refine start_ (n := 6) (S := fun w' => w'.cell? ⟨xb, 2, none⟩ = some (.int .i64 ln)) (ds := []) #[false, false, false, false, false, false] (by kernel_rfl) rfl rfl ((blk_cell HX.out 2).trans rfl) (fun hHeld => ?_)
  refine with_tabW block_bytes.R4.tab block_bytes.R4.bits (fun HT_ HW_ => ?_)
  refine pure_ (i := 0) (N := some 18) (v := ?_) (a' := ?_) #[true, false, false, false, false, false] rfl rfl (any_of HT_.out (by kernel_rfl)) (fun _ _ _ h => h) (Or.inl ⟨by rfl, ?_⟩) ?_ ?_
  rotate_left
  · intro w'
    go_simp
    with_reducible rfl
  rotate_left
  · simp only [Act.put, List.setIfInBounds_toArray, List.set_cons_zero, List.set_cons_succ, i64_w, i32_w]
    rfl
  refine pure_ (i := 1) (N := some 19) (v := ?_) (a' := ?_) #[true, true, false, false, false, false] rfl rfl (any_of HT_.out (by kernel_rfl)) (fun _ _ _ h => h) (Or.inl ⟨by rfl, ?_⟩) ?_ ?_
  rotate_left
  · intro w'
    go_simp
    with_reducible rfl
  rotate_left
  · simp only [Act.put, List.setIfInBounds_toArray, List.set_cons_zero, List.set_cons_succ, i64_w, i32_w]
    rfl
  refine pure_ (i := 2) (N := some 20) (v := ?_) (a' := ?_) #[true, true, true, false, false, false] rfl rfl (any_of HT_.out (by kernel_rfl)) (fun _ _ _ h => h) (Or.inl ⟨by rfl, ?_⟩) ?_ ?_
  rotate_left
  · intro w'
    go_simp
    with_reducible rfl
  rotate_left
  · simp only [Act.put, List.setIfInBounds_toArray, List.set_cons_zero, List.set_cons_succ, i64_w, i32_w]
    rfl
  refine take_ (i := 3) (N := some 21) (v := ?_) (a' := ?_) #[true, true, true, true, false, false] rfl rfl (take_ofW HT_.out HW_.out (by kernel_rfl)) (fun _ _ _ h => h) (Or.inl ⟨by rfl, ?_⟩) hHeld ?_ ?_
  rotate_left
  · intro w' s0
    go_simp
    with_reducible rfl
  rotate_left
  · simp only [Act.put, List.setIfInBounds_toArray, List.set_cons_zero, List.set_cons_succ, i64_w, i32_w]
    rfl
  refine pure_ (i := 4) (N := some 22) (v := ?_) (a' := ?_) #[true, true, true, true, true, false] rfl rfl (any_of HT_.out (by kernel_rfl)) (fun _ _ _ h => h) (Or.inl ⟨by rfl, ?_⟩) ?_ ?_
  rotate_left
  · intro w'
    go_simp
    with_reducible rfl
  rotate_left
  · simp only [Act.put, List.setIfInBounds_toArray, List.set_cons_zero, List.set_cons_succ, i64_w, i32_w]
    rfl
  refine one_ (i := 5) (N := some 23) #[true, true, true, true, true, true] rfl rfl (one_of HT_.out (by kernel_rfl)) (by decide) (fun K hK => ?_)
  refine goes_ Tryd.func41 (by kernel_rfl) rfl #[.slice (some ⟨c, 16, none⟩) 4 (s - 16), .int .u64 ln] (by rfl) rfl rfl (by first | rfl | (go_simp; done)) ?_
  refine (log_put.calls (blk_drew HC.out) 16 4 (s - 16) ln (by rw [LEN.out.2.1]; have := HS.out; omega) (by decide) (by have := HS.out; omega) R2.out.1).mono ?_
  rintro e w4 ⟨rfl, hc, hf⟩
  refine ⟨_, rfl, ?_⟩
  have n0_ : Aside0 (w4.heap[xb]? = some (.cells #[.int .u64 m, .int .u64 r, .int .i64 ln, .int .i64 i, .slice (some ad) bl.length cap] 65 (0, 0))) := ⟨(hf.block xb (blk_lt (blk_drew HX.out)) NE.out).trans (blk_drew HX.out)⟩
  have n1_ : Aside0 (Below w.heap.size w w4) := ⟨hf.below (below_drew1 HB.out) (below_size (below_drew1 HB.out)) (fun i hi => hi ▸ CB.out.1)⟩
  clear HX HC HB hf
  have HX := n0_
  have HB := n1_
  have HC := Aside0.mk hc
  clear n0_ n1_ hc
  refine hK.out _ _ ((blk_cell HX.out 2).trans rfl) (fun hHeld => ?_)
  clear hK K
  refine norm_ (a' := ?_) ?_ ?_
  rotate_left
  · show Act.put _ (some 23) _ = _
    simp only [Act.put, List.setIfInBounds_toArray, List.set_cons_zero, List.set_cons_succ, i64_w, i32_w]
    rfl
  refine done_ (done_of HT_.out (by kernel_rfl)) ?_
  clear HT_ HW_ hHeld
  have HC : Aside0 (w4.heap[c]? = some (Obj.cells (dkB (lg3 s m r ln)) 5 (0, 0))) := ⟨HC.out⟩
  go_upto_region 5 with (fail)
  refine start_ (n := 6) (S := fun w' => w'.cell? ⟨xb, 3, none⟩ = some (.int .i64 i)) (ds := []) #[false, false, false, false, false, false] (by kernel_rfl) rfl rfl ((blk_cell HX.out 3).trans rfl) (fun hHeld => ?_)
  refine with_tabW block_bytes.R5.tab block_bytes.R5.bits (fun HT_ HW_ => ?_)
  refine pure_ (i := 0) (N := some 24) (v := ?_) (a' := ?_) #[true, false, false, false, false, false] rfl rfl (any_of HT_.out (by kernel_rfl)) (fun _ _ _ h => h) (Or.inl ⟨by rfl, ?_⟩) ?_ ?_
  rotate_left
  · intro w'
    go_simp
    with_reducible rfl
  rotate_left
  · simp only [Act.put, List.setIfInBounds_toArray, List.set_cons_zero, List.set_cons_succ, i64_w, i32_w]
    rfl
  refine pure_ (i := 1) (N := some 25) (v := ?_) (a' := ?_) #[true, true, false, false, false, false] rfl rfl (any_of HT_.out (by kernel_rfl)) (fun _ _ _ h => h) (Or.inl ⟨by rfl, ?_⟩) ?_ ?_
  rotate_left
  · intro w'
    go_simp
    with_reducible rfl
  rotate_left
  · simp only [Act.put, List.setIfInBounds_toArray, List.set_cons_zero, List.set_cons_succ, i64_w, i32_w]
    rfl
  refine pure_ (i := 2) (N := some 26) (v := ?_) (a' := ?_) #[true, true, true, false, false, false] rfl rfl (any_of HT_.out (by kernel_rfl)) (fun _ _ _ h => h) (Or.inl ⟨by rfl, ?_⟩) ?_ ?_
  rotate_left
  · intro w'
    go_simp
    with_reducible rfl
  rotate_left
  · simp only [Act.put, List.setIfInBounds_toArray, List.set_cons_zero, List.set_cons_succ, i64_w, i32_w]
    rfl
  refine take_ (i := 3) (N := some 27) (v := ?_) (a' := ?_) #[true, true, true, true, false, false] rfl rfl (take_ofW HT_.out HW_.out (by kernel_rfl)) (fun _ _ _ h => h) (Or.inl ⟨by rfl, ?_⟩) hHeld ?_ ?_
  rotate_left
  · intro w' s0
    go_simp
    with_reducible rfl
  rotate_left
  · simp only [Act.put, List.setIfInBounds_toArray, List.set_cons_zero, List.set_cons_succ, i64_w, i32_w]
    rfl
  refine pure_ (i := 4) (N := some 28) (v := ?_) (a' := ?_) #[true, true, true, true, true, false] rfl rfl (any_of HT_.out (by kernel_rfl)) (fun _ _ _ h => h) (Or.inl ⟨by rfl, ?_⟩) ?_ ?_
  rotate_left
  · intro w'
    go_simp
    with_reducible rfl
  rotate_left
  · simp only [Act.put, List.setIfInBounds_toArray, List.set_cons_zero, List.set_cons_succ, i64_w, i32_w]
    rfl
  refine one_ (i := 5) (N := some 29) #[true, true, true, true, true, true] rfl rfl (one_of HT_.out (by kernel_rfl)) (by decide) (fun K hK => ?_)
  refine goes_ Tryd.func41 (by kernel_rfl) rfl #[.slice (some ⟨c, 20, none⟩) 4 (s - 20), .int .u64 i] (by rfl) rfl rfl (by first | rfl | (go_simp; done)) ?_
  refine (log_put.calls (blk_drew HC.out) 20 4 (s - 20) i (by rw [LEN.out.2.2.1]; have := HS.out; omega) (by decide) (by have := HS.out; omega) R3.out.1).mono ?_
  rintro e w4 ⟨rfl, hc, hf⟩
  refine ⟨_, rfl, ?_⟩
  have n0_ : Aside0 (w4.heap[xb]? = some (.cells #[.int .u64 m, .int .u64 r, .int .i64 ln, .int .i64 i, .slice (some ad) bl.length cap] 65 (0, 0))) := ⟨(hf.block xb (blk_lt (blk_drew HX.out)) NE.out).trans (blk_drew HX.out)⟩
  have n1_ : Aside0 (Below w.heap.size w w4) := ⟨hf.below (below_drew1 HB.out) (below_size (below_drew1 HB.out)) (fun i hi => hi ▸ CB.out.1)⟩
  clear HX HC HB hf
  have HX := n0_
  have HB := n1_
  have HC := Aside0.mk hc
  clear n0_ n1_ hc
  refine hK.out _ _ ((blk_cell HX.out 3).trans rfl) (fun hHeld => ?_)
  clear hK K
  refine norm_ (a' := ?_) ?_ ?_
  rotate_left
  · show Act.put _ (some 29) _ = _
    simp only [Act.put, List.setIfInBounds_toArray, List.set_cons_zero, List.set_cons_succ, i64_w, i32_w]
    rfl
  refine done_ (done_of HT_.out (by kernel_rfl)) ?_
  clear HT_ HW_ hHeld
  have HC : Aside0 (w4.heap[c]? = some (Obj.cells (dkB (lg4 s m r ln i)) 5 (0, 0))) := ⟨HC.out⟩
  go_upto_region 6 with (fail)
  refine start_ (n := 7) (S := fun w' => w'.cell? ⟨xb, 4, none⟩ = some (.slice (some ad) bl.length cap)) (ds := []) #[false, false, false, false, false, false, false] (by kernel_rfl) rfl rfl ((blk_cell HX.out 4).trans rfl) (fun hHeld => ?_)
  refine with_tabW block_bytes.R6.tab block_bytes.R6.bits (fun HT_ HW_ => ?_)
  refine pure_ (i := 0) (N := some 30) (v := ?_) (a' := ?_) #[true, false, false, false, false, false, false] rfl rfl (any_of HT_.out (by kernel_rfl)) (fun _ _ _ h => h) (Or.inl ⟨by rfl, ?_⟩) ?_ ?_
  rotate_left
  · intro w'
    go_simp
    with_reducible rfl
  rotate_left
  · simp only [Act.put, List.setIfInBounds_toArray, List.set_cons_zero, List.set_cons_succ, i64_w, i32_w]
    rfl
  refine pure_ (i := 1) (N := some 31) (v := ?_) (a' := ?_) #[true, true, false, false, false, false, false] rfl rfl (any_of HT_.out (by kernel_rfl)) (fun _ _ _ h => h) (Or.inl ⟨by rfl, ?_⟩) ?_ ?_
  rotate_left
  · intro w'
    go_simp
    with_reducible rfl
  rotate_left
  · simp only [Act.put, List.setIfInBounds_toArray, List.set_cons_zero, List.set_cons_succ, i64_w, i32_w]
    rfl
  refine pure_ (i := 2) (N := some 32) (v := ?_) (a' := ?_) #[true, true, true, false, false, false, false] rfl rfl (any_of HT_.out (by kernel_rfl)) (fun _ _ _ h => h) (Or.inl ⟨by rfl, ?_⟩) ?_ ?_
  rotate_left
  · intro w'
    go_simp
    with_reducible rfl
  rotate_left
  · simp only [Act.put, List.setIfInBounds_toArray, List.set_cons_zero, List.set_cons_succ, i64_w, i32_w]
    rfl
  refine pure_ (i := 3) (N := some 33) (v := ?_) (a' := ?_) #[true, true, true, true, false, false, false] rfl rfl (any_of HT_.out (by kernel_rfl)) (fun _ _ _ h => h) (Or.inl ⟨by rfl, ?_⟩) ?_ ?_
  rotate_left
  · intro w'
    go_simp
    with_reducible rfl
  rotate_left
  · simp only [Act.put, List.setIfInBounds_toArray, List.set_cons_zero, List.set_cons_succ, i64_w, i32_w]
    rfl
  refine pure_ (i := 4) (N := some 34) (v := ?_) (a' := ?_) #[true, true, true, true, true, false, false] rfl rfl (any_of HT_.out (by kernel_rfl)) (fun _ _ _ h => h) (Or.inl ⟨by rfl, ?_⟩) ?_ ?_
  rotate_left
  · intro w'
    go_simp
    with_reducible rfl
  rotate_left
  · simp only [Act.put, List.setIfInBounds_toArray, List.set_cons_zero, List.set_cons_succ, i64_w, i32_w]
    rfl
  refine take_ (i := 5) (N := some 35) (v := ?_) (a' := ?_) #[true, true, true, true, true, true, false] rfl rfl (take_ofW HT_.out HW_.out (by kernel_rfl)) (fun _ _ _ h => h) (Or.inl ⟨by rfl, ?_⟩) hHeld ?_ ?_
  rotate_left
  · intro w' s0
    go_simp
    with_reducible rfl
  rotate_left
  · simp only [Act.put, List.setIfInBounds_toArray, List.set_cons_zero, List.set_cons_succ, i64_w, i32_w]
    rfl
  refine one_ (i := 6) (N := some 36) #[true, true, true, true, true, true, true] rfl rfl (one_of HT_.out (by kernel_rfl)) (by decide) (fun K hK => ?_)
  have hcp := dk_copy_at (off := 24) (n := s - 36) (dCap := s - 24) (sCap := cap) (blk_drew HC.out) (by rw [LEN.out.2.2.2.1]; have := HS.out; omega) HS.out.2.2 (fun j x hx => cell_below (SRC.out j x hx) (below_drew1 HB.out))
  refine value_ (v := .int .i64 (bl.length : Int)) (w1 := w4.drew.setRow c (dkB (lg5 s m r ln i bl))) (by rfl) rfl ?_ ?_
  · go_simp
    first | exact hcp | rfl
  have n0_ : Aside0 ((w4.drew.setRow c (dkB (lg5 s m r ln i bl))).heap[xb]? = some (.cells #[.int .u64 m, .int .u64 r, .int .i64 ln, .int .i64 i, .slice (some ad) bl.length cap] 65 (0, 0))) := ⟨(setRow_other _ c xb _ NE.out).trans (blk_drew HX.out)⟩
  have n1_ : Aside0 (Below w.heap.size w (w4.drew.setRow c (dkB (lg5 s m r ln i bl)))) := ⟨below_setRow (below_drew1 HB.out) CB.out.1 _⟩
  have n2_ : Aside0 ((w4.drew.setRow c (dkB (lg5 s m r ln i bl))).heap[c]? = some (.cells (dkB (lg5 s m r ln i bl)) 5 (0, 0))) := ⟨setRow_heap _ _ _ _ 5 (0, 0) (blk_drew HC.out)⟩
  clear hcp HX HC HB
  have HX := n0_
  have HB := n1_
  have HC := n2_
  clear n0_ n1_ n2_
  generalize w4.drew.setRow c (dkB (lg5 s m r ln i bl)) = w4 at HX HB HC ⊢
  refine hK.out _ _ ((blk_cell HX.out 4).trans rfl) (fun hHeld => ?_)
  clear hK K
  refine norm_ (a' := ?_) ?_ ?_
  rotate_left
  · show Act.put _ (some 36) _ = _
    simp only [Act.put, List.setIfInBounds_toArray, List.set_cons_zero, List.set_cons_succ, i64_w, i32_w]
    rfl
  refine done_ (done_of HT_.out (by kernel_rfl)) ?_
  clear HT_ HW_ hHeld
  go_upto_region 7 with (fail)
  refine start_ (n := 7) (S := fun w' => w'.cell? ⟨xb, 0, none⟩ = some (.int .u64 m)) (ds := []) #[false, false, false, false, false, false, false] (by kernel_rfl) rfl rfl ((blk_cell HX.out 0).trans rfl) (fun hHeld => ?_)
  refine with_tabW block_bytes.R7.tab block_bytes.R7.bits (fun HT_ HW_ => ?_)
  refine pure_ (i := 0) (N := some 37) (v := ?_) (a' := ?_) #[true, false, false, false, false, false, false] rfl rfl (any_of HT_.out (by kernel_rfl)) (fun _ _ _ h => h) (Or.inl ⟨by rfl, ?_⟩) ?_ ?_
  rotate_left
  · intro w'
    go_simp
    with_reducible rfl
  rotate_left
  · simp only [Act.put, List.setIfInBounds_toArray, List.set_cons_zero, List.set_cons_succ, i64_w, i32_w]
    rfl
  refine pure_ (i := 1) (N := some 38) (v := ?_) (a' := ?_) #[true, true, false, false, false, false, false] rfl rfl (any_of HT_.out (by kernel_rfl)) (fun _ _ _ h => h) (Or.inl ⟨by rfl, ?_⟩) ?_ ?_
  rotate_left
  · intro w'
    go_simp
    with_reducible rfl
  rotate_left
  · simp only [Act.put, List.setIfInBounds_toArray, List.set_cons_zero, List.set_cons_succ, i64_w, i32_w]
    rfl
  refine pure_ (i := 2) (N := some 39) (v := ?_) (a' := ?_) #[true, true, true, false, false, false, false] rfl rfl (any_of HT_.out (by kernel_rfl)) (fun _ _ _ h => h) (Or.inl ⟨by rfl, ?_⟩) ?_ ?_
  rotate_left
  · intro w'
    go_simp
    with_reducible rfl
  rotate_left
  · simp only [Act.put, List.setIfInBounds_toArray, List.set_cons_zero, List.set_cons_succ, i64_w, i32_w]
    rfl
  refine pure_ (i := 3) (N := some 40) (v := ?_) (a' := ?_) #[true, true, true, true, false, false, false] rfl rfl (any_of HT_.out (by kernel_rfl)) (fun _ _ _ h => h) (Or.inl ⟨by rfl, ?_⟩) ?_ ?_
  rotate_left
  · intro w'
    go_simp
    with_reducible rfl
  rotate_left
  · simp only [Act.put, List.setIfInBounds_toArray, List.set_cons_zero, List.set_cons_succ, i64_w, i32_w]
    rfl
  refine pure_ (i := 4) (N := some 41) (v := ?_) (a' := ?_) #[true, true, true, true, true, false, false] rfl rfl (any_of HT_.out (by kernel_rfl)) (fun _ _ _ h => h) (Or.inl ⟨by rfl, ?_⟩) ?_ ?_
  rotate_left
  · intro w'
    go_simp
    with_reducible rfl
  rotate_left
  · simp only [Act.put, List.setIfInBounds_toArray, List.set_cons_zero, List.set_cons_succ, i64_w, i32_w]
    rfl
  refine take_ (i := 5) (N := some 42) (v := ?_) (a' := ?_) #[true, true, true, true, true, true, false] rfl rfl (take_ofW HT_.out HW_.out (by kernel_rfl)) (fun _ _ _ h => h) (Or.inl ⟨by rfl, ?_⟩) hHeld ?_ ?_
  rotate_left
  · intro w' s0
    go_simp
    with_reducible rfl
  rotate_left
  · simp only [Act.put, List.setIfInBounds_toArray, List.set_cons_zero, List.set_cons_succ, i64_w, i32_w]
    rfl
  refine one_ (i := 6) (N := some 43) #[true, true, true, true, true, true, true] rfl rfl (one_of HT_.out (by kernel_rfl)) (by decide) (fun K hK => ?_)
  refine goes_ Tryd.func41 (by kernel_rfl) rfl #[.slice (some ⟨c, (s - 8), none⟩) 8 8, .int .u64 m] (by rfl) rfl rfl (by first | rfl | (go_simp; done)) ?_
  refine (log_put.calls (blk_drew HC.out) (s - 8) 8 8 m (by rw [LEN.out.2.2.2.2.1]; have := HS.out; omega) (by decide) (by have := HS.out; omega) R0.out.1).mono ?_
  rintro e w4 ⟨rfl, hc, hf⟩
  refine ⟨_, rfl, ?_⟩
  have n0_ : Aside0 (w4.heap[xb]? = some (.cells #[.int .u64 m, .int .u64 r, .int .i64 ln, .int .i64 i, .slice (some ad) bl.length cap] 65 (0, 0))) := ⟨(hf.block xb (blk_lt (blk_drew HX.out)) NE.out).trans (blk_drew HX.out)⟩
  have n1_ : Aside0 (Below w.heap.size w w4) := ⟨hf.below (below_drew1 HB.out) (below_size (below_drew1 HB.out)) (fun i hi => hi ▸ CB.out.1)⟩
  clear HX HC HB hf
  have HX := n0_
  have HB := n1_
  have HC := Aside0.mk hc
  clear n0_ n1_ hc
  refine hK.out _ _ ((blk_cell HX.out 0).trans rfl) (fun hHeld => ?_)
  clear hK K
  refine norm_ (a' := ?_) ?_ ?_
  rotate_left
  · show Act.put _ (some 43) _ = _
    simp only [Act.put, List.setIfInBounds_toArray, List.set_cons_zero, List.set_cons_succ, i64_w, i32_w]
    rfl
  refine done_ (done_of HT_.out (by kernel_rfl)) ?_
  clear HT_ HW_ hHeld
  have HC : Aside0 (w4.heap[c]? = some (Obj.cells (dkB (lg6 s m r ln i bl)) 5 (0, 0))) := ⟨by unfold lg6 lgO; rw [be_length]; exact HC.out⟩
  go_upto_region 8 with (fail)
  refine start_ (n := 13) (S := fun _ => True) (ds := []) #[false, false, false, false, false, false, false, false, false, false, false, false, false] (by kernel_rfl) rfl rfl trivial (fun hHeld => ?_)
  refine with_tabW block_bytes.R8.tab block_bytes.R8.bits (fun HT_ HW_ => ?_)
  refine pure_ (i := 0) (N := some 44) (v := ?_) (a' := ?_) #[true, false, false, false, false, false, false, false, false, false, false, false, false] rfl rfl (any_of HT_.out (by kernel_rfl)) (fun _ _ _ h => h) (Or.inl ⟨by rfl, ?_⟩) ?_ ?_
  rotate_left
  · intro w'
    go_simp
    with_reducible rfl
  rotate_left
  · simp only [Act.put, List.setIfInBounds_toArray, List.set_cons_zero, List.set_cons_succ, i64_w, i32_w]
    rfl
  refine pure_ (i := 1) (N := some 45) (v := ?_) (a' := ?_) #[true, true, false, false, false, false, false, false, false, false, false, false, false] rfl rfl (any_of HT_.out (by kernel_rfl)) (fun _ _ _ h => h) (Or.inl ⟨by rfl, ?_⟩) ?_ ?_
  rotate_left
  · intro w'
    go_simp
    with_reducible rfl
  rotate_left
  · simp only [Act.put, List.setIfInBounds_toArray, List.set_cons_zero, List.set_cons_succ, i64_w, i32_w]
    rfl
  refine pure_ (i := 2) (N := some 46) (v := ?_) (a' := ?_) #[true, true, true, false, false, false, false, false, false, false, false, false, false] rfl rfl (any_of HT_.out (by kernel_rfl)) (fun _ _ _ h => h) (Or.inl ⟨by rfl, ?_⟩) ?_ ?_
  rotate_left
  · intro w'
    go_simp
    with_reducible rfl
  rotate_left
  · simp only [Act.put, List.setIfInBounds_toArray, List.set_cons_zero, List.set_cons_succ, i64_w, i32_w]
    rfl
  refine pure_ (i := 3) (N := some 47) (v := ?_) (a' := ?_) #[true, true, true, true, false, false, false, false, false, false, false, false, false] rfl rfl (any_of HT_.out (by kernel_rfl)) (fun _ _ _ h => h) (Or.inl ⟨by rfl, ?_⟩) ?_ ?_
  rotate_left
  · intro w'
    go_simp
    with_reducible rfl
  rotate_left
  · simp only [Act.put, List.setIfInBounds_toArray, List.set_cons_zero, List.set_cons_succ, i64_w, i32_w]
    rfl
  refine pure_ (i := 4) (N := some 48) (v := ?_) (a' := ?_) #[true, true, true, true, true, false, false, false, false, false, false, false, false] rfl rfl (any_of HT_.out (by kernel_rfl)) (fun _ _ _ h => h) (Or.inl ⟨by rfl, ?_⟩) ?_ ?_
  rotate_left
  · intro w'
    go_simp
    with_reducible rfl
  rotate_left
  · simp only [Act.put, List.setIfInBounds_toArray, List.set_cons_zero, List.set_cons_succ, i64_w, i32_w]
    rfl
  refine pure_ (i := 5) (N := some 49) (v := ?_) (a' := ?_) #[true, true, true, true, true, true, false, false, false, false, false, false, false] rfl rfl (any_of HT_.out (by kernel_rfl)) (fun _ _ _ h => h) (Or.inl ⟨by rfl, ?_⟩) ?_ ?_
  rotate_left
  · intro w'
    go_simp
    with_reducible rfl
  rotate_left
  · simp only [Act.put, List.setIfInBounds_toArray, List.set_cons_zero, List.set_cons_succ, i64_w, i32_w]
    rfl
  refine pure_ (i := 6) (N := some 50) (v := ?_) (a' := ?_) #[true, true, true, true, true, true, true, false, false, false, false, false, false] rfl rfl (any_of HT_.out (by kernel_rfl)) (fun _ _ _ h => h) (Or.inl ⟨by rfl, ?_⟩) ?_ ?_
  rotate_left
  · intro w'
    go_simp
    with_reducible rfl
  rotate_left
  · simp only [Act.put, List.setIfInBounds_toArray, List.set_cons_zero, List.set_cons_succ, i64_w, i32_w]
    rfl
  refine pure_ (i := 7) (N := some 51) (v := ?_) (a' := ?_) #[true, true, true, true, true, true, true, true, false, false, false, false, false] rfl rfl (any_of HT_.out (by kernel_rfl)) (fun _ _ _ h => h) (Or.inl ⟨by rfl, ?_⟩) ?_ ?_
  rotate_left
  · intro w'
    go_simp
    with_reducible rfl
  rotate_left
  · simp only [Act.put, List.setIfInBounds_toArray, List.set_cons_zero, List.set_cons_succ, i64_w, i32_w]
    rfl
  refine pure_ (i := 8) (N := some 52) (v := ?_) (a' := ?_) #[true, true, true, true, true, true, true, true, true, false, false, false, false] rfl rfl (any_of HT_.out (by kernel_rfl)) (fun _ _ _ h => h) (Or.inl ⟨by rfl, ?_⟩) ?_ ?_
  rotate_left
  · intro w'
    go_simp
    with_reducible rfl
  rotate_left
  · simp only [Act.put, List.setIfInBounds_toArray, List.set_cons_zero, List.set_cons_succ, i64_w, i32_w]
    rfl
  refine pure_ (i := 9) (N := some 53) (v := ?_) (a' := ?_) #[true, true, true, true, true, true, true, true, true, true, false, false, false] rfl rfl (any_of HT_.out (by kernel_rfl)) (fun _ _ _ h => h) (Or.inl ⟨by rfl, ?_⟩) ?_ ?_
  rotate_left
  · intro w'
    go_simp
    with_reducible rfl
  rotate_left
  · simp only [Act.put, List.setIfInBounds_toArray, List.set_cons_zero, List.set_cons_succ, i64_w, i32_w]
    rfl
  refine one_ (i := 10) (N := some 54) #[true, true, true, true, true, true, true, true, true, true, true, false, false] rfl rfl (one_of HT_.out (by kernel_rfl)) (by decide) (fun K hK => ?_)
  refine goes_ Tryd.func11 (by kernel_rfl) rfl #[.slice (some ⟨c, 0, none⟩) (s - 12) s] (by rfl) rfl rfl (by first | rfl | (go_simp; done)) ?_
  refine (lg_sum (blk_drew HC.out) (by rw [LEN.out.2.2.2.2.2]; have := HS.out; omega) (s - 12) s (by rw [LEN.out.2.2.2.2.2]; omega) (by omega)).mono ?_
  rintro e w5 ⟨rfl, ⟨nd, rfl⟩⟩
  refine ⟨_, rfl, ?_⟩
  rw [lg6_take s m r ln i bl HS.out.1 HS.out.2.2]
  have n0_ : Aside0 ((w4.drew.drewN nd).heap[xb]? = some (.cells #[.int .u64 m, .int .u64 r, .int .i64 ln, .int .i64 i, .slice (some ad) bl.length cap] 65 (0, 0))) := ⟨blk_drewN (blk_drew HX.out) nd⟩
  have n1_ : Aside0 (Below w.heap.size w (w4.drew.drewN nd)) := ⟨pw_below_drewN (below_drew1 HB.out) nd⟩
  have n2_ : Aside0 ((w4.drew.drewN nd).heap[c]? = some (.cells (dkB (lg6 s m r ln i bl)) 5 (0, 0))) := ⟨blk_drewN (blk_drew HC.out) nd⟩
  clear HX HC HB
  have HX := n0_
  have HB := n1_
  have HC := n2_
  clear n0_ n1_ n2_
  generalize w4.drew.drewN nd = w4 at HX HB HC ⊢
  refine hK.out _ _ trivial (fun hHeld => ?_)
  clear hK K
  refine norm_ (a' := ?_) ?_ ?_
  rotate_left
  · show Act.put _ (some 54) _ = _
    simp only [Act.put, List.setIfInBounds_toArray, List.set_cons_zero, List.set_cons_succ, i64_w, i32_w]
    rfl
  refine pure_ (i := 11) (N := some 55) (v := ?_) (a' := ?_) #[true, true, true, true, true, true, true, true, true, true, true, true, false] rfl rfl (any_of HT_.out (by kernel_rfl)) (fun _ _ _ h => h) (Or.inl ⟨by rfl, ?_⟩) ?_ ?_
  rotate_left
  · intro w'
    go_simp
    with_reducible rfl
  rotate_left
  · simp only [Act.put, List.setIfInBounds_toArray, List.set_cons_zero, List.set_cons_succ, i64_w, i32_w]
    rfl
  refine one_ (i := 12) (N := some 56) #[true, true, true, true, true, true, true, true, true, true, true, true, true] rfl rfl (one_of HT_.out (by kernel_rfl)) (by decide) (fun K hK => ?_)
  refine goes_ Tryd.func41 (by kernel_rfl) rfl #[.slice (some ⟨c, (s - 12), none⟩) 4 12, .int .u64 (crcF (lgBody s m r ln i bl))] (by rfl) rfl rfl (by first | rfl | (go_simp; done)) ?_
  refine (log_put.calls HC.out (s - 12) 4 12 (crcF (lgBody s m r ln i bl)) (by rw [LEN.out.2.2.2.2.2]; have := HS.out; omega) (by decide) (by have := HS.out; omega) CR.out.1).mono ?_
  rintro e w4 ⟨rfl, hc, hf⟩
  refine ⟨_, rfl, ?_⟩
  have n0_ : Aside0 (w4.heap[xb]? = some (.cells #[.int .u64 m, .int .u64 r, .int .i64 ln, .int .i64 i, .slice (some ad) bl.length cap] 65 (0, 0))) := ⟨(hf.block xb (blk_lt HX.out) NE.out).trans HX.out⟩
  have n1_ : Aside0 (Below w.heap.size w w4) := ⟨hf.below HB.out (below_size HB.out) (fun i hi => hi ▸ CB.out.1)⟩
  clear HX HC HB hf
  have HX := n0_
  have HB := n1_
  have HC := Aside0.mk hc
  clear n0_ n1_ hc
  refine hK.out _ _ trivial (fun hHeld => ?_)
  clear hK K
  refine norm_ (a' := ?_) ?_ ?_
  rotate_left
  · show Act.put _ (some 56) _ = _
    simp only [Act.put, List.setIfInBounds_toArray, List.set_cons_zero, List.set_cons_succ, i64_w, i32_w]
    rfl
  refine done_ (done_of HT_.out (by kernel_rfl)) ?_
  clear HT_ HW_ hHeld

  go_wp2
  go_ret
  refine ⟨c, rfl, ?_, CB.out.1, HB.out⟩
  have h_ := HC.out
  have h7 := lg7_eq s m r ln i bl HS.out.1 HS.out.2.2
  unfold lgO at h7
  rw [be_length] at h7
  rw [h7] at h_
  exact h_
end Go.Proofs.YtgeggcifhojpmaaDoor.PB
