import Derived.Test.YtgeggcifhojpmaaDiskSwN
import Derived.Test.YtgeggcifhojpmaaDiskSwW
import Derived.Test.YtgeggcifhojpmaaDiskSwC
import Derived.Test.YtgeggcifhojpmaaDiskSwP
import Derived.Test.YtgeggcifhojpmaaDiskSwS
import Derived.Test.YtgeggcifhojpmaaDiskSwY
import Derived.Test.YtgeggcifhojpmaaDiskTl
import Derived.Laws.CopyRow
import Derived.Laws.MakeOwn
import Derived.Laws.CopyOwn
import Derived.Deep.Cut
import Derived.Deep.CutRange
import Derived.Deep.CutBlock
namespace Go.Proofs.Ytgeggcifhojpmaa.PA
open Go.RowKit Go.Proofs.YtgeggcifhojpmaaW.PrintWords Go.Proofs.YtgeggcifhojpmaaW.PrintLast Go.Proofs.YtgeggcifhojpmaaW.PrintMore
attribute [local go_sem] max2_mx min2_mn max_two min_two max_three min_three max_four min_four   -- for this text's walks alone
set_option linter.unusedVariables false
set_option linter.unusedSimpArgs false

def lychlaw9_DiskPlays.T12 : Bool × List (List Nat × List Nat) := (true, [([], []), ([], []), ([1], [1]), ([2], [2]), ([3], [3]), ([], []), ([5], [5]), ([6], [6]), ([7], [7]), ([8, 8], [8]), ([9], [9]), ([4, 10], [4, 10]), ([0, 0, 1, 2, 3, 4, 5, 6, 7, 8, 9, 10, 11], [0]), ([12, 0, 1, 2, 3, 4, 5, 6, 7, 8, 9, 10, 11], [12]), ([13, 11, 11, 0, 1, 2, 3, 4, 5, 6, 7, 8, 9, 10, 11], [11, 13])])
def lychlaw9_DiskPlays.B12 : List Nat := [0, 0, 2, 6, 14, 0, 32, 96, 224, 480, 992, 2046, 4095, 8191, 16383]
theorem lychlaw9_DiskPlays.tab12 : rtab .any (opsOf Try.f5 12) = lychlaw9_DiskPlays.T12 := by kernel_rfl
theorem lychlaw9_DiskPlays.bits12 : waitsOk lychlaw9_DiskPlays.T12.2 lychlaw9_DiskPlays.B12 = true := by kernel_rfl
def lychlaw9_DiskPlays.T13 : Bool × List (List Nat × List Nat) := (true, [([], []), ([0], [0]), ([], []), ([2], [2]), ([3], [3]), ([4], [4]), ([5], [5]), ([1, 6], [1, 6]), ([7, 1], [7]), ([8], [8]), ([9, 8, 8], [8, 9]), ([8], [8]), ([11, 8], [8, 11]), ([12, 8], [8, 12]), ([13, 8], [8, 13]), ([10, 14, 8], [8, 10, 14]), ([8, 15], [8, 15])])
def lychlaw9_DiskPlays.B13 : List Nat := [0, 1, 0, 4, 12, 28, 60, 127, 255, 511, 1023, 511, 2559, 6655, 14847, 32767, 65535]
theorem lychlaw9_DiskPlays.tab13 : rtab .any (opsOf Try.f5 13) = lychlaw9_DiskPlays.T13 := by kernel_rfl
theorem lychlaw9_DiskPlays.bits13 : waitsOk lychlaw9_DiskPlays.T13.2 lychlaw9_DiskPlays.B13 = true := by kernel_rfl
def lychlaw9_DiskPlays.T19 : Bool × List (List Nat × List Nat) := (true, [([], []), ([0], [0]), ([], []), ([2], [2]), ([3], [3]), ([4], [4]), ([5], [5]), ([6], [6]), ([1, 7], [1, 7]), ([8], [8]), ([9, 8, 0, 1, 2, 3, 4, 5, 6, 7, 8, 9], [9])])
def lychlaw9_DiskPlays.B19 : List Nat := [0, 1, 0, 4, 12, 28, 60, 124, 255, 511, 1023]
theorem lychlaw9_DiskPlays.tab19 : rtab .any (opsOf Try.f5 19) = lychlaw9_DiskPlays.T19 := by kernel_rfl
theorem lychlaw9_DiskPlays.bits19 : waitsOk lychlaw9_DiskPlays.T19.2 lychlaw9_DiskPlays.B19 = true := by kernel_rfl
/-- An act of a script. -/
structure DAct where
  what : Int
  i : Int
  n : Int
  p : Int
  x : Int
/-- The acts lie at A. -/
def AC (W : World) (A : Option Addr) (l : List DAct) : Prop := 0 < l.length → ∃ ad, A = some ad ∧ ∀ (j : Nat) (a : DAct), l[j]? = some a →
  W.cell? ((ad.add (j * 5)).add 0) = some (.int .i64 a.what) ∧ W.cell? ((ad.add (j * 5)).add 1) = some (.int .i64 a.i) ∧ W.cell? ((ad.add (j * 5)).add 2) = some (.int .i64 a.n) ∧ W.cell? ((ad.add (j * 5)).add 3) = some (.int .i64 a.p) ∧ W.cell? ((ad.add (j * 5)).add 4) = some (.int .u8 a.x)
/-- The model while its rows are made. -/
structure FM (W : World) (bm s : Nat) (v : Value) (ms : List (Nat × Nat)) : Prop where
  top : W.heap[bm]? = some (.cells #[v, .int .i64 s, .bool false, .bool false, .int .i64 0, .int .i64 0] 41 (0, 0))
  row : Kd.R (Kd.scalar (mEnc s) (fun _ => rfl)) 27 W (bm + 1) (fun _ => True) v ms
  nodup : (ms.map Prod.fst).Nodup
  each : ∀ p ∈ ms, bm + 1 ≤ p.1 ∧ p.2 = s ∧ W.heap[p.1]? = some (.cells (dkB (List.replicate s 0)) 5 (0, 0))
theorem FM.mk_ {W : World} {bm s : Nat} {v : Value} {ms : List (Nat × Nat)} (h : FM W bm s v ms) (hn : 1 ≤ ms.length) : ∃ qm cap, v = .slice (some ⟨qm, 0, none⟩) ms.length cap ∧ MK W bm bm qm cap s ms (List.replicate ms.length (List.replicate s 0)) 0 0 false false ∧ bm + 1 ≤ qm := by
  have h1 := Kd.own_of_R (enc := mEnc s) (h1 := fun _ => rfl) h.row
  rcases h1.2 with ⟨_, h2⟩ | ⟨g, cap, cur, h3, h4, h5, h6, _, _, h7⟩
  · omega
  · refine ⟨g, cap, h3, ⟨?_, ⟨cur, h5, ?_⟩, by rw [List.length_replicate], h.nodup, fun i p l hi hl => ?_, ⟨Nat.le_refl _, by omega, fun p hp => by have := (h.each p hp).1; omega⟩⟩, h4⟩
    · rw [← h3]
      exact h.top
    · rw [Nat.mul_one] at h7
      exact h7
    · have hm := List.mem_of_getElem? hi
      obtain rfl : List.replicate s 0 = l := (List.mem_replicate.1 (List.mem_of_getElem? hl)).2.symm
      obtain ⟨a1, a2, a3⟩ := h.each p hm
      exact ⟨List.length_replicate, by omega, _, a3, by unfold dkB; rw [List.toList_toArray, List.take_of_length_le (by simp)]⟩
theorem balloc {b : Nat} {w0 w : World} (h : Below b w0 w) (hb : b ≤ w.heap.size) (o : Obj) : Below b w0 (w.alloc o) := h.trans ⟨rfl, rfl, rfl, by rw [alloc_size]; omega, fun i hi => Below.heap_alloc w o i (by omega)⟩
theorem lit_row {W : World} {L B s : Nat} (h : W.heap[L]? = some (.cells #[.slice (some ⟨B, 0, none⟩) s s] 27 (0, 0))) : ReadsRow (fun (p : Nat × Nat) cs => cs = [mEnc s p]) 1 W (some ⟨L, 0, none⟩) 1 [(B, s)] := by
  refine ⟨rfl, by omega, fun _ => ⟨_, rfl, fun j p hp => ?_⟩⟩
  cases j with
  | zero =>
    obtain rfl : (B, s) = p := by simpa using hp
    refine ⟨_, rfl, rfl, fun i u hu => ?_⟩
    cases i with
    | zero =>
      obtain rfl : mEnc s (B, s) = u := by simpa using hu
      rw [add_at]
      exact (blk_cell h 0).trans rfl
    | succ n => simp at hu
  | succ n => simp at hp
set_option maxHeartbeats 16000000 in
set_option maxRecDepth 100000 in
theorem lychlaw9_DiskPlays.calls (A2 : Option Addr) (l : List DAct) (c2 : Nat) (a0 a1 : Int) (w : World) (hac : AC w A2 l) : Calls Try.prog 5 #[.int .i64 a0, .int .i64 a1, .slice A2 l.length c2] w fun e w' => e = .returned (.bool true) ∧ Below w.heap.size w w' := by
  have hu49 := Try.underlying49
  have hu41 := Try.underlying41
  have hu43 := Try.underlying43
  have hu27 := Try.underlying27
  have HAC := Aside0.mk hac
  clear hac
  by_cases k0 : 60 < l.length
  · have k0b : decide ((60 : Int) < (l.length : Int)) = true := decide_eq_true (by omega)
    have k0c : decide (60 < l.length) = true := decide_eq_true k0
    clear k0
    go_enter Try.func5, Try.ntmps5
    go_wp2_with fail
    refine (disk_known.calls w).mono ?_
    rintro e w1 ⟨rfl, hb⟩
    have HB := Aside0.mk hb
    clear hb
    (try dsimp only)
    go_wp2
    (try simp only [Exit.inBlock, Exit.then])
    go_ret
    exact ⟨rfl, HB.out⟩
  have k0b : decide ((60 : Int) < (l.length : Int)) = false := decide_eq_false (by omega)
  have k0c : decide (60 < l.length) = false := decide_eq_false k0
  have HL := Aside0.mk (show l.length ≤ 60 by omega)
  clear k0
  obtain ⟨r0, hr0, hr1, hr2⟩ := placeN a0 6 (by decide) (by decide)
  obtain ⟨r1, hs0, hs1, hs2⟩ := placeN a1 200 (by decide) (by decide)
  have HR0 := Aside0.mk hr0
  have HR1 := Aside0.mk hs0
  have HRR := Aside0.mk (And.intro hr1 (And.intro hr2 (And.intro hs1 hs2)))
  have w9 : wrap64 (r0 - 1) = r0 - 1 := by unfold wrap64; omega
  have eN : mx (r0 - 1) 1 = (dkN (r0 - 1) : Int) := by have h := dkN_range (r0 - 1); unfold mn mx at h; unfold mx; split at h <;> split at h <;> split <;> omega
  have eS : mx r1 64 = (dkS r1 : Int) := by have h := dkS_range r1; unfold mn mx at h; unfold mx; split at h <;> split at h <;> split <;> omega
  have EN := Aside0.mk (show mx (r0 - 1) 1 = (dkN (r0 - 1) : Int) ∧ 1 ≤ dkN (r0 - 1) ∧ dkN (r0 - 1) ≤ 64 from ⟨eN, (dkN_range _).2⟩)
  have ES := Aside0.mk (show mx r1 64 = (dkS r1 : Int) ∧ 64 ≤ dkS r1 ∧ dkS r1 ≤ 65536 from ⟨eS, (dkS_range _).2⟩)
  clear hr0 hs0 hr1 hr2 hs1 hs2 eN eS
  go_enter Try.func5, Try.ntmps5
  go_wp2_with fail
  refine (disk_known.calls w).mono ?_
  rintro e w1 ⟨rfl, hb⟩
  have HB := Aside0.mk hb
  clear hb
  (try dsimp only)
  go_wp2_with fail
  refine (lychhelp_Place.calls a0 6 r0 _ HR0.out).mono ?_
  rintro e w2 ⟨rfl, ⟨nd, rfl⟩⟩
  (try dsimp only)
  go_wp2_with fail
  refine (lychhelp_Place.calls a1 200 r1 _ HR1.out).mono ?_
  rintro e w2 ⟨rfl, ⟨nd2, rfl⟩⟩
  (try dsimp only)
  go_wp2_with fail
  refine (disk_New.calls (r0 - 1) r1 _).mono ?_
  rintro e w3 ⟨g, q, hs, rfl, hd, hn, hb⟩
  (try dsimp only)
  obtain ⟨bd, hbd⟩ : ∃ bd, bd = (w1.drewN (nd + nd2)).heap.size := ⟨_, rfl⟩
  have HBD := Aside0.mk (show w.heap.size ≤ bd by rw [hbd]; exact below_size (pw_below_drewN HB.out (nd + nd2)))
  rw [← hbd] at hd
  have HD := Aside0.mk hd
  have HN := Aside0.mk hn
  have n_ := Aside0.mk (below_step (pw_below_drewN HB.out (nd + nd2)) hb)
  clear HB hd hn hb hbd
  have HB := n_
  clear n_
  obtain ⟨s, hs_⟩ : ∃ s, s = dkS r1 := ⟨_, rfl⟩
  obtain ⟨n, hn_⟩ : ∃ n, n = dkN (r0 - 1) := ⟨_, rfl⟩
  rw [← hs_] at ES
  rw [← hn_] at EN
  rw [← hs_, ← hn_] at HD
  rw [← hn_] at HN
  have e1 := EN.out.1
  have e2 := ES.out.1
  clear hs_ hn_
  go_upto_region 9 with (fail)
  obtain ⟨bm, hbm⟩ : ∃ bm, bm = w3.heap.size := ⟨_, rfl⟩
  rw [← hbm]
  have HBM := Aside0.mk (show w.heap.size ≤ bm ∧ bd ≤ bm ∧ g < bm ∧ q < bm ∧ ∀ b ∈ hs, b < bm from ⟨by rw [hbm]; exact below_size HB.out, by have := HD.out.own.1; have := HD.out.lt.1; omega, by rw [hbm]; exact HD.out.lt⟩)
  have HF : Aside0 (FM (w3.alloc (.cells #[.slice none 0 0, .int .i64 (s : Int), .bool false, .bool false, .int .i64 0, .int .i64 0] 41)) bm s (.slice none 0 0) []) := ⟨⟨by rw [hbm]; exact blk_new w3 _, Kd.R_nil _ _ _ _ _, List.nodup_nil, fun p hp => by cases hp⟩⟩
  have HG : Aside0 (Below bm w3 (w3.alloc (.cells #[.slice none 0 0, .int .i64 (s : Int), .bool false, .bool false, .int .i64 0, .int .i64 0] 41))) := ⟨by rw [hbm]; exact below_alloc (Below.refl _ _) _⟩
  generalize w3.alloc (.cells #[.slice none 0 0, .int .i64 (s : Int), .bool false, .bool false, .int .i64 0, .int .i64 0] 41) = w4 at HF HG ⊢
  have HBW := Aside0.mk hbm
  clear hbm
  go_wp2_with fail
  go_loopg [9] n (fun kq v9 w' => ∃ (v : Value) (ms : List (Nat × Nat)), v9 = .int .i64 (ms.length : Int) ∧ Aside0 (kq + ms.length = n) ∧ Aside0 (FM w' bm s v ms) ∧ Aside0 (Below bm w3 w'))
  case atStart => exact ⟨_, [], rfl, ⟨rfl⟩, ⟨HF.out⟩, ⟨HG.out⟩⟩
  case round =>
    clear HF HG
    obtain ⟨v, ms, rfl, Hk, HF, HG⟩ := hrel
    by_cases c6 : ms.length < n
    · have c6b : decide ((ms.length : Int) < (n : Int)) = true := decide_eq_true (by omega)
      have c6c : decide (ms.length < n) = true := decide_eq_true c6
      have H6 := Aside0.mk c6
      clear c6
      go_upto_region 12 with (fail)
      refine start_ (n := 15) (S := (fun w' => w'.cell? ⟨bm, 0, none⟩ = some v ∧ w'.cell? ⟨bm, 1, none⟩ = some (.int .i64 (s : Int)))) (ds := [14]) #[false, false, false, false, false, false, false, false, false, false, false, false, false, false, false] (by kernel_rfl) rfl rfl ⟨(blk_cell HF.out.top 0).trans rfl, (blk_cell HF.out.top 1).trans rfl⟩ (fun hHeld => ?_)
      refine with_tabW lychlaw9_DiskPlays.tab12 lychlaw9_DiskPlays.bits12 (fun HT_ HW_ => ?_)
      have hmk1 := dk_make (s : Int) (by omega) (by have := ES.out.2; omega)
      rw [Int.toNat_natCast] at hmk1
      have n0_ : Aside0 (FM wr.drew bm s v ms) := ⟨⟨blk_drew HF.out.top, Kd.R_drew HF.out.row, HF.out.nodup, fun p hp => ⟨(HF.out.each p hp).1, (HF.out.each p hp).2.1, blk_drew (HF.out.each p hp).2.2⟩⟩⟩
      have n1_ := Aside0.mk (below_drew1 HG.out)
      clear HF HG
      have HF := n0_
      have HG := n1_
      clear n0_ n1_
      generalize wr.drew = w5 at HF HG hHeld ⊢
      refine pure_ (i := 0) (N := some 42) (v := ?_) (a' := ?_) #[true, false, false, false, false, false, false, false, false, false, false, false, false, false, false] rfl rfl (any_of HT_.out (by kernel_rfl)) (fun _ _ _ h => h) (Or.inl ⟨by rfl, ?_⟩) ?_ ?_
      rotate_left
      · intro w'
        go_simp
        with_reducible rfl
      rotate_left
      · simp only [Act.put, List.setIfInBounds_toArray, List.set_cons_zero, List.set_cons_succ, i64_w, i32_w]
        rfl
      refine pure_ (i := 1) (N := some 43) (v := ?_) (a' := ?_) #[true, true, false, false, false, false, false, false, false, false, false, false, false, false, false] rfl rfl (any_of HT_.out (by kernel_rfl)) (fun _ _ _ h => h) (Or.inl ⟨by rfl, ?_⟩) ?_ ?_
      rotate_left
      · intro w'
        go_simp
        with_reducible rfl
      rotate_left
      · simp only [Act.put, List.setIfInBounds_toArray, List.set_cons_zero, List.set_cons_succ, i64_w, i32_w]
        rfl
      refine pure_ (i := 2) (N := some 44) (v := ?_) (a' := ?_) #[true, true, true, false, false, false, false, false, false, false, false, false, false, false, false] rfl rfl (any_of HT_.out (by kernel_rfl)) (fun _ _ _ h => h) (Or.inl ⟨by rfl, ?_⟩) ?_ ?_
      rotate_left
      · intro w'
        go_simp
        with_reducible rfl
      rotate_left
      · simp only [Act.put, List.setIfInBounds_toArray, List.set_cons_zero, List.set_cons_succ, i64_w, i32_w]
        rfl
      refine pure_ (i := 3) (N := some 45) (v := ?_) (a' := ?_) #[true, true, true, true, false, false, false, false, false, false, false, false, false, false, false] rfl rfl (any_of HT_.out (by kernel_rfl)) (fun _ _ _ h => h) (Or.inl ⟨by rfl, ?_⟩) ?_ ?_
      rotate_left
      · intro w'
        go_simp
        with_reducible rfl
      rotate_left
      · simp only [Act.put, List.setIfInBounds_toArray, List.set_cons_zero, List.set_cons_succ, i64_w, i32_w]
        rfl
      refine take_ (i := 4) (N := some 46) (v := ?_) (a' := ?_) #[true, true, true, true, true, false, false, false, false, false, false, false, false, false, false] rfl rfl (take_ofW HT_.out HW_.out (by kernel_rfl)) (fun _ _ _ h => h) (Or.inl ⟨by rfl, ?_⟩) hHeld ?_ ?_
      rotate_left
      · intro w' s0
        obtain ⟨s0, s1⟩ := s0
        go_simp
        with_reducible rfl
      rotate_left
      · simp only [Act.put, List.setIfInBounds_toArray, List.set_cons_zero, List.set_cons_succ, i64_w, i32_w]
        rfl
      refine pure_ (i := 5) (N := some 47) (v := ?_) (a' := ?_) #[true, true, true, true, true, true, false, false, false, false, false, false, false, false, false] rfl rfl (any_of HT_.out (by kernel_rfl)) (fun _ _ _ h => h) (Or.inl ⟨by rfl, ?_⟩) ?_ ?_
      rotate_left
      · intro w'
        go_simp
        with_reducible rfl
      rotate_left
      · simp only [Act.put, List.setIfInBounds_toArray, List.set_cons_zero, List.set_cons_succ, i64_w, i32_w]
        rfl
      refine pure_ (i := 6) (N := some 48) (v := ?_) (a' := ?_) #[true, true, true, true, true, true, true, false, false, false, false, false, false, false, false] rfl rfl (any_of HT_.out (by kernel_rfl)) (fun _ _ _ h => h) (Or.inl ⟨by rfl, ?_⟩) ?_ ?_
      rotate_left
      · intro w'
        go_simp
        with_reducible rfl
      rotate_left
      · simp only [Act.put, List.setIfInBounds_toArray, List.set_cons_zero, List.set_cons_succ, i64_w, i32_w]
        rfl
      refine pure_ (i := 7) (N := some 49) (v := ?_) (a' := ?_) #[true, true, true, true, true, true, true, true, false, false, false, false, false, false, false] rfl rfl (any_of HT_.out (by kernel_rfl)) (fun _ _ _ h => h) (Or.inl ⟨by rfl, ?_⟩) ?_ ?_
      rotate_left
      · intro w'
        go_simp
        with_reducible rfl
      rotate_left
      · simp only [Act.put, List.setIfInBounds_toArray, List.set_cons_zero, List.set_cons_succ, i64_w, i32_w]
        rfl
      refine take_ (i := 8) (N := some 50) (v := ?_) (a' := ?_) #[true, true, true, true, true, true, true, true, true, false, false, false, false, false, false] rfl rfl (take_ofW HT_.out HW_.out (by kernel_rfl)) (fun _ _ _ h => h) (Or.inl ⟨by rfl, ?_⟩) hHeld ?_ ?_
      rotate_left
      · intro w' s0
        obtain ⟨s0, s1⟩ := s0
        go_simp
        with_reducible rfl
      rotate_left
      · simp only [Act.put, List.setIfInBounds_toArray, List.set_cons_zero, List.set_cons_succ, i64_w, i32_w]
        rfl
      refine one_ (i := 9) (N := some 51) #[true, true, true, true, true, true, true, true, true, true, false, false, false, false, false] rfl rfl (one_of HT_.out (by kernel_rfl)) (by decide) (fun K hK => ?_)
      refine value_ (v := .slice (some ⟨w5.heap.size, 0, none⟩) s s) (w1 := w5.alloc (.cells (dkB (List.replicate s 0)) 5)) (by rfl) rfl ?_ ?_
      · have hm_ := hmk1 w5
        go_simp
      obtain ⟨B, hB⟩ : ∃ B, B = w5.heap.size := ⟨_, rfl⟩
      rw [← hB]
      have NB : Aside0 (bm + 1 ≤ B ∧ ∀ p ∈ ms, p.1 ≠ B) := ⟨by have := blk_lt HF.out.top; omega, fun p hp e => by have := blk_lt (HF.out.each p hp).2.2; omega⟩
      have n0_ : Aside0 (FM (w5.alloc (.cells (dkB (List.replicate s 0)) 5)) bm s v ms) := ⟨⟨blk_alloc HF.out.top _, Kd.R_alloc HF.out.row _, HF.out.nodup, fun p hp => ⟨(HF.out.each p hp).1, (HF.out.each p hp).2.1, blk_alloc (HF.out.each p hp).2.2 _⟩⟩⟩
      have n1_ := Aside0.mk (balloc HG.out (by have := blk_lt HF.out.top; omega) (.cells (dkB (List.replicate s 0)) 5))
      have n2_ : Aside0 ((w5.alloc (.cells (dkB (List.replicate s 0)) 5)).heap[B]? = some (.cells (dkB (List.replicate s 0)) 5 (0, 0))) := ⟨by rw [hB]; exact blk_new w5 _⟩
      clear HF HG hB hmk1
      have HF := n0_
      have HG := n1_
      have HNB := n2_
      clear n0_ n1_ n2_
      generalize w5.alloc (.cells (dkB (List.replicate s 0)) 5) = w6 at HF HG HNB ⊢
      refine hK.out _ _ ⟨(blk_cell HF.out.top 0).trans rfl, (blk_cell HF.out.top 1).trans rfl⟩ (fun hHeld => ?_)
      clear hK K
      refine norm_ (a' := ?_) ?_ ?_
      rotate_left
      · show Act.put _ (some 51) _ = _
        simp only [Act.put, List.setIfInBounds_toArray, List.set_cons_zero, List.set_cons_succ, i64_w, i32_w]
        rfl
      refine one_ (i := 10) (N := some 52) #[true, true, true, true, true, true, true, true, true, true, true, false, false, false, false] rfl rfl (one_of HT_.out (by kernel_rfl)) (by decide) (fun K hK => ?_)
      refine value_ (v := .slice (some ⟨w6.heap.size, 0, none⟩) 1 1) (w1 := w6.alloc (.cells #[.slice (some ⟨B, 0, none⟩) s s] 27)) (by rfl) rfl ?_ ?_
      · go_simp
      obtain ⟨L, hL⟩ : ∃ L, L = w6.heap.size := ⟨_, rfl⟩
      rw [← hL]
      have NL : Aside0 (∀ p ∈ ms, p.1 ≠ L) := ⟨fun p hp e => by have := blk_lt (HF.out.each p hp).2.2; omega⟩
      have n0_ : Aside0 (FM (w6.alloc (.cells #[.slice (some ⟨B, 0, none⟩) s s] 27)) bm s v ms) := ⟨⟨blk_alloc HF.out.top _, Kd.R_alloc HF.out.row _, HF.out.nodup, fun p hp => ⟨(HF.out.each p hp).1, (HF.out.each p hp).2.1, blk_alloc (HF.out.each p hp).2.2 _⟩⟩⟩
      have n1_ := Aside0.mk (balloc HG.out (by have := blk_lt HF.out.top; omega) (.cells #[.slice (some ⟨B, 0, none⟩) s s] 27))
      have n2_ := Aside0.mk (blk_alloc HNB.out (.cells #[.slice (some ⟨B, 0, none⟩) s s] 27))
      have n3_ : Aside0 ((w6.alloc (.cells #[.slice (some ⟨B, 0, none⟩) s s] 27)).heap[L]? = some (.cells #[.slice (some ⟨B, 0, none⟩) s s] 27 (0, 0))) := ⟨by rw [hL]; exact blk_new w6 _⟩
      clear HF HG HNB hL
      have HF := n0_
      have HG := n1_
      have HNB := n2_
      have HLT := n3_
      clear n0_ n1_ n2_ n3_
      generalize w6.alloc (.cells #[.slice (some ⟨B, 0, none⟩) s s] 27) = w7 at HF HG HNB HLT ⊢
      refine hK.out _ _ ⟨(blk_cell HF.out.top 0).trans rfl, (blk_cell HF.out.top 1).trans rfl⟩ (fun hHeld => ?_)
      clear hK K
      refine norm_ (a' := ?_) ?_ ?_
      rotate_left
      · show Act.put _ (some 52) _ = _
        simp only [Act.put, List.setIfInBounds_toArray, List.set_cons_zero, List.set_cons_succ, i64_w, i32_w]
        rfl
      refine one_ (i := 11) (N := some 53) #[true, true, true, true, true, true, true, true, true, true, true, true, false, false, false] rfl rfl (one_of HT_.out (by kernel_rfl)) (by decide) (fun K hK => ?_)
      refine Kd.R_append_rows_step (Kd.scalar (mEnc s) (fun _ => rfl)) (w0 := w7) (bm + 1) (by rfl) (.tmp 46) (.tmp 52) 39 27 (.slice none 0 0) 24 rfl Try.underlying39 info27 rfl Nat.one_pos (by omega) v ms [(B, s)] _ _ _ (fun _ => True) (fun _ => False) rfl (by first | rfl | (go_simp; done)) ?aO ?aR (fun _ _ h => h) (fun _ h => h.elim) ?aF ?aB ?aS ?aL ?_
      (case aO => exact HF.out.row)
      (case aR => exact lit_row HLT.out)
      (case aF => exact (fun _ _ => trivial))
      (case aB => exact Below.refl' _ _)
      (case aS => have := blk_lt HF.out.top; omega)
      (case aL => have := H6.out; have := EN.out.2; omega)
      intro v1 w8 ho hb hg hat
      obtain ⟨A3, c3, rfl⟩ := Kd.R_slice ho
      have hfr : ∀ p ∈ ms, w8.heap[p.1]? = some (.cells (dkB (List.replicate s 0)) 5 (0, 0)) := fun p hp => blk_grown (HF.out.each p hp).2.2 hg (Kd.R_ne HF.out.row (HF.out.each p hp).2.2 (by decide))
      have hfn : w8.heap[B]? = some (.cells (dkB (List.replicate s 0)) 5 (0, 0)) := blk_grown HNB.out hg (Kd.R_ne HF.out.row HNB.out (by decide))
      have hft : w8.heap[bm]? = some (.cells #[v, .int .i64 (s : Int), .bool false, .bool false, .int .i64 0, .int .i64 0] 41 (0, 0)) := (hb.block bm (by omega)).trans HF.out.top
      have n0_ : Aside0 (Below bm w3 w8) := ⟨HG.out.trans ⟨hb.os, hb.tape, hb.output, hb.size, fun i hi => hb.block i (by omega)⟩⟩
      have n1_ := Aside0.mk hfr
      have n2_ := Aside0.mk hfn
      have n3_ := Aside0.mk hft
      have n4_ := Aside0.mk ho
      have HND := Aside0.mk HF.out.nodup
      have HEA : Aside0 (∀ p ∈ ms, bm + 1 ≤ p.1 ∧ p.2 = s) := ⟨fun p hp => ⟨(HF.out.each p hp).1, (HF.out.each p hp).2.1⟩⟩
      clear HF HG HNB HLT ho hb hg hat hfr hfn hft
      have HG := n0_
      have HFR := n1_
      have HFN := n2_
      have HFT := n3_
      have HRW := n4_
      clear n0_ n1_ n2_ n3_ n4_
      refine hK.out _ _ ⟨(blk_cell HFT.out 0).trans rfl, (blk_cell HFT.out 1).trans rfl⟩ (fun hHeld => ?_)
      clear hK K
      refine norm_ (a' := ?_) ?_ ?_
      rotate_left
      · show Act.put _ (some 53) _ = _
        simp only [Act.put, List.setIfInBounds_toArray, List.set_cons_zero, List.set_cons_succ, i64_w, i32_w]
        rfl
      refine pure_ (i := 12) (N := some 54) (v := ?_) (a' := ?_) #[true, true, true, true, true, true, true, true, true, true, true, true, true, false, false] rfl rfl (any_of HT_.out (by kernel_rfl)) (fun _ _ _ h => h) (Or.inl ⟨by rfl, ?_⟩) ?_ ?_
      rotate_left
      · intro w'
        go_simp
        with_reducible rfl
      rotate_left
      · simp only [Act.put, List.setIfInBounds_toArray, List.set_cons_zero, List.set_cons_succ, i64_w, i32_w]
        rfl
      refine pure_ (i := 13) (N := some 55) (v := ?_) (a' := ?_) #[true, true, true, true, true, true, true, true, true, true, true, true, true, true, false] rfl rfl (any_of HT_.out (by kernel_rfl)) (fun _ _ _ h => h) (Or.inl ⟨by rfl, ?_⟩) ?_ ?_
      rotate_left
      · intro w'
        go_simp
        with_reducible rfl
      rotate_left
      · simp only [Act.put, List.setIfInBounds_toArray, List.set_cons_zero, List.set_cons_succ, i64_w, i32_w]
        rfl
      refine last_ (i := 14) (N := none) #[true, true, true, true, true, true, true, true, true, true, true, true, true, true, true] rfl rfl (one_of HT_.out (by kernel_rfl)) (by decide) (fun K hK => ?_)
      have hs0 : w8.cell? ⟨bm, 0, none⟩ = some v := (blk_cell HFT.out 0).trans rfl
      have hfs0 := blk_frozen HFT.out 0
      refine skip_ (w1 := w8.setCell ⟨bm, 0, none⟩ (.slice A3 (ms ++ [(B, s)]).length c3)) (by rfl) rfl ?_ ?_
      · go_simp
      have n0_ : Aside0 (FM (w8.setCell ⟨bm, 0, none⟩ (.slice A3 (ms ++ [(B, s)]).length c3)) bm s (.slice A3 (ms ++ [(B, s)]).length c3) (ms ++ [(B, s)])) := ⟨by
        refine ⟨blk_put HFT.out 0 _ rfl, Kd.R_set HRW.out HFT.out (fun q_ hq_ => ?_) 0 _, ?_, fun p hp => ?_⟩
        · have e_ : q_ = 27 := (List.mem_cons.1 hq_).resolve_right (fun h => nomatch h)
          rw [e_]
          decide
        · rw [List.map_append, List.nodup_append]
          refine ⟨HND.out, by simp, fun a ha b hb' => ?_⟩
          obtain ⟨p, hp, rfl⟩ := List.mem_map.1 ha
          have hb2 : b = B := by simpa using hb'
          rw [hb2]
          exact NB.out.2 p hp
        · rcases List.mem_append.1 hp with h | h
          · exact ⟨(HEA.out p h).1, (HEA.out p h).2, blk_far (HFR.out p h) (p := ⟨bm, 0, none⟩) (fun e => by have := (HEA.out p h).1; simp only at e; omega) _⟩
          · obtain rfl : p = (B, s) := by simpa using h
            exact ⟨NB.out.1, rfl, blk_far HFN.out (p := ⟨bm, 0, none⟩) (fun e => by have := NB.out.1; simp only at e; omega) _⟩⟩
      have n1_ : Aside0 (Below bm w3 (w8.setCell ⟨bm, 0, none⟩ (.slice A3 (ms ++ [(B, s)]).length c3))) := ⟨HG.out.setCell (Nat.le_refl _) _⟩
      generalize w8.setCell ⟨bm, 0, none⟩ (.slice A3 (ms ++ [(B, s)]).length c3) = w9 at n0_ n1_ ⊢
      clear HG HFR HFN HFT HRW hs0 hfs0
      have HF := n0_
      have HG := n1_
      clear n0_ n1_
      refine hK.out _ _ ?_
      clear hK K
      refine done_ (done_of HT_.out (by kernel_rfl)) ?_
      clear HT_ HW_ hHeld
      have w7 : wrap64 ((ms.length : Int) + 1) = ((ms ++ [(B, s)]).length : Int) := by rw [List.length_append, List.length_singleton]; unfold wrap64; have := EN.out.2.2; have := H6.out; omega
      go_wp2
      go_roundg (gk - 1)
      case measure => have := Hk.out; have := H6.out; omega
      case rel => exact ⟨_, ms ++ [(B, s)], congrArg (Value.int .i64) w7, ⟨by have := Hk.out; have := H6.out; rw [List.length_append, List.length_singleton]; omega⟩, ⟨HF.out⟩, ⟨HG.out⟩⟩
    · have c6b : decide ((ms.length : Int) < (n : Int)) = false := decide_eq_false (by omega)
      have c6c : decide (ms.length < n) = false := decide_eq_false c6
      have el : ms.length = n := by have := Hk.out; omega
      clear c6
      obtain rfl : n = ms.length := el.symm
      clear el
      obtain ⟨qm, cap, rfl, hm, hq⟩ := HF.out.mk_ EN.out.2.1
      have HM := Aside0.mk hm
      have HQM := Aside0.mk (show bm + 1 ≤ qm from hq)
      have n0_ := Aside0.mk (HD.out.below (w' := wr) (by rw [← HBW.out]; exact HG.out))
      clear HF hm hq Hk HD
      have HD := n0_
      clear n0_
      go_upto_region 13 with (fail)
      refine start_ (n := 17) (S := (fun w' => w'.cell? ⟨bm, 0, none⟩ = some (.slice (some ⟨qm, 0, none⟩) ms.length cap) ∧ w'.cell? ⟨bm, 1, none⟩ = some (.int .i64 (s : Int)))) (ds := []) #[false, false, false, false, false, false, false, false, false, false, false, false, false, false, false, false, false] (by kernel_rfl) rfl rfl ⟨(blk_cell HM.out.top 0).trans rfl, (blk_cell HM.out.top 1).trans rfl⟩ (fun hHeld => ?_)
      refine with_tabW lychlaw9_DiskPlays.tab13 lychlaw9_DiskPlays.bits13 (fun HT_ HW_ => ?_)
      have n0_ := Aside0.mk (HD.out.drewN 1)
      have n1_ := Aside0.mk (HM.out.drewN 1)
      have n2_ := Aside0.mk (pw_below_drewN HG.out 1)
      clear HD HM HG
      have HD := n0_
      have HM := n1_
      have HG := n2_
      clear n0_ n1_ n2_
      have ed_ : wr.drewN 1 = wr.drew := rfl
      rw [ed_] at HD HM HG
      clear ed_
      generalize wr.drew = w5 at HD HM HG hHeld ⊢
      refine pure_ (i := 0) (N := some 56) (v := ?_) (a' := ?_) #[true, false, false, false, false, false, false, false, false, false, false, false, false, false, false, false, false] rfl rfl (any_of HT_.out (by kernel_rfl)) (fun _ _ _ h => h) (Or.inl ⟨by rfl, ?_⟩) ?_ ?_
      rotate_left
      · intro w'
        go_simp
        with_reducible rfl
      rotate_left
      · simp only [Act.put, List.setIfInBounds_toArray, List.set_cons_zero, List.set_cons_succ, i64_w, i32_w]
        rfl
      refine pure_ (i := 2) (N := some 58) (v := ?_) (a' := ?_) #[true, false, true, false, false, false, false, false, false, false, false, false, false, false, false, false, false] rfl rfl (any_of HT_.out (by kernel_rfl)) (fun _ _ _ h => h) (Or.inl ⟨by rfl, ?_⟩) ?_ ?_
      rotate_left
      · intro w'
        go_simp
        with_reducible rfl
      rotate_left
      · simp only [Act.put, List.setIfInBounds_toArray, List.set_cons_zero, List.set_cons_succ, i64_w, i32_w]
        rfl
      refine pure_ (i := 3) (N := some 59) (v := ?_) (a' := ?_) #[true, false, true, true, false, false, false, false, false, false, false, false, false, false, false, false, false] rfl rfl (any_of HT_.out (by kernel_rfl)) (fun _ _ _ h => h) (Or.inl ⟨by rfl, ?_⟩) ?_ ?_
      rotate_left
      · intro w'
        go_simp
        with_reducible rfl
      rotate_left
      · simp only [Act.put, List.setIfInBounds_toArray, List.set_cons_zero, List.set_cons_succ, i64_w, i32_w]
        rfl
      refine pure_ (i := 4) (N := some 60) (v := ?_) (a' := ?_) #[true, false, true, true, true, false, false, false, false, false, false, false, false, false, false, false, false] rfl rfl (any_of HT_.out (by kernel_rfl)) (fun _ _ _ h => h) (Or.inl ⟨by rfl, ?_⟩) ?_ ?_
      rotate_left
      · intro w'
        go_simp
        with_reducible rfl
      rotate_left
      · simp only [Act.put, List.setIfInBounds_toArray, List.set_cons_zero, List.set_cons_succ, i64_w, i32_w]
        rfl
      refine take_ (i := 5) (N := some 61) (v := ?_) (a' := ?_) #[true, false, true, true, true, true, false, false, false, false, false, false, false, false, false, false, false] rfl rfl (take_ofW HT_.out HW_.out (by kernel_rfl)) (fun _ _ _ h => h) (Or.inl ⟨by rfl, ?_⟩) hHeld ?_ ?_
      rotate_left
      · intro w' s0
        obtain ⟨s0, s1⟩ := s0
        go_simp
        with_reducible rfl
      rotate_left
      · simp only [Act.put, List.setIfInBounds_toArray, List.set_cons_zero, List.set_cons_succ, i64_w, i32_w]
        rfl
      refine pure_ (i := 6) (N := some 62) (v := ?_) (a' := ?_) #[true, false, true, true, true, true, true, false, false, false, false, false, false, false, false, false, false] rfl rfl (any_of HT_.out (by kernel_rfl)) (fun _ _ _ h => h) (Or.inl ⟨by rfl, ?_⟩) ?_ ?_
      rotate_left
      · intro w'
        go_simp
        with_reducible rfl
      rotate_left
      · simp only [Act.put, List.setIfInBounds_toArray, List.set_cons_zero, List.set_cons_succ, i64_w, i32_w]
        rfl
      refine one_ (i := 1) (N := some 57) #[true, true, true, true, true, true, true, false, false, false, false, false, false, false, false, false, false] rfl rfl (one_of HT_.out (by kernel_rfl)) (by decide) (fun K hK => ?_)
      refine goes_ Try.func8 (by kernel_rfl) rfl #[.pointer (some ⟨g, 0, none⟩)] (by rfl) rfl rfl (by first | rfl | (go_simp; done)) ?_
      refine (disk_Blocks.calls HD.out).mono ?_
      rintro e w6 ⟨rfl, ⟨nd3, rfl⟩⟩
      rw [HN.out]
      refine ⟨_, rfl, ?_⟩
      have n0_ := Aside0.mk (HD.out.drewN nd3)
      have n1_ := Aside0.mk (HM.out.drewN nd3)
      have n2_ := Aside0.mk (pw_below_drewN HG.out nd3)
      clear HD HM HG
      have HD := n0_
      have HM := n1_
      have HG := n2_
      clear n0_ n1_ n2_
      generalize w5.drewN nd3 = w6 at HD HM HG ⊢
      refine hK.out _ _ ⟨(blk_cell HM.out.top 0).trans rfl, (blk_cell HM.out.top 1).trans rfl⟩ (fun hHeld => ?_)
      clear hK K
      refine norm_ (a' := ?_) ?_ ?_
      rotate_left
      · show Act.put _ (some 57) _ = _
        simp only [Act.put, List.setIfInBounds_toArray, List.set_cons_zero, List.set_cons_succ, i64_w, i32_w]
        rfl
      refine pure_ (i := 7) (N := some 63) (v := ?_) (a' := ?_) #[true, true, true, true, true, true, true, true, false, false, false, false, false, false, false, false, false] rfl rfl (any_of HT_.out (by kernel_rfl)) (fun _ _ _ h => h) (Or.inl ⟨by rfl, ?_⟩) ?_ ?_
      rotate_left
      · intro w'
        go_simp
        with_reducible rfl
      rotate_left
      · simp only [Act.put, List.setIfInBounds_toArray, List.set_cons_zero, List.set_cons_succ, i64_w, i32_w]
        rfl
      refine pure_ (i := 8) (N := some 64) (v := ?_) (a' := ?_) #[true, true, true, true, true, true, true, true, true, false, false, false, false, false, false, false, false] rfl rfl (any_of HT_.out (by kernel_rfl)) (fun _ _ _ h => h) (Or.inl ⟨by rfl, ?_⟩) ?_ ?_
      rotate_left
      · intro w'
        go_simp
        with_reducible rfl
      rotate_left
      · simp only [Act.put, List.setIfInBounds_toArray, List.set_cons_zero, List.set_cons_succ, i64_w, i32_w]
        rfl
      refine pure_ (i := 9) (N := some 65) (v := ?_) (a' := ?_) #[true, true, true, true, true, true, true, true, true, true, false, false, false, false, false, false, false] rfl rfl (any_of HT_.out (by kernel_rfl)) (fun _ _ _ h => h) (Or.inl ⟨by rfl, ?_⟩) ?_ ?_
      rotate_left
      · intro w'
        go_simp
        with_reducible rfl
      rotate_left
      · simp only [Act.put, List.setIfInBounds_toArray, List.set_cons_zero, List.set_cons_succ, i64_w, i32_w]
        rfl
      refine pure_ (i := 11) (N := some 67) (v := ?_) (a' := ?_) #[true, true, true, true, true, true, true, true, true, true, false, true, false, false, false, false, false] rfl rfl (any_of HT_.out (by kernel_rfl)) (fun _ _ _ h => h) (Or.inl ⟨by rfl, ?_⟩) ?_ ?_
      rotate_left
      · intro w'
        go_simp
        with_reducible rfl
      rotate_left
      · simp only [Act.put, List.setIfInBounds_toArray, List.set_cons_zero, List.set_cons_succ, i64_w, i32_w]
        rfl
      refine pure_ (i := 12) (N := some 68) (v := ?_) (a' := ?_) #[true, true, true, true, true, true, true, true, true, true, false, true, true, false, false, false, false] rfl rfl (any_of HT_.out (by kernel_rfl)) (fun _ _ _ h => h) (Or.inl ⟨by rfl, ?_⟩) ?_ ?_
      rotate_left
      · intro w'
        go_simp
        with_reducible rfl
      rotate_left
      · simp only [Act.put, List.setIfInBounds_toArray, List.set_cons_zero, List.set_cons_succ, i64_w, i32_w]
        rfl
      refine pure_ (i := 13) (N := some 69) (v := ?_) (a' := ?_) #[true, true, true, true, true, true, true, true, true, true, false, true, true, true, false, false, false] rfl rfl (any_of HT_.out (by kernel_rfl)) (fun _ _ _ h => h) (Or.inl ⟨by rfl, ?_⟩) ?_ ?_
      rotate_left
      · intro w'
        go_simp
        with_reducible rfl
      rotate_left
      · simp only [Act.put, List.setIfInBounds_toArray, List.set_cons_zero, List.set_cons_succ, i64_w, i32_w]
        rfl
      refine take_ (i := 14) (N := some 70) (v := ?_) (a' := ?_) #[true, true, true, true, true, true, true, true, true, true, false, true, true, true, true, false, false] rfl rfl (take_ofW HT_.out HW_.out (by kernel_rfl)) (fun _ _ _ h => h) (Or.inl ⟨by rfl, ?_⟩) hHeld ?_ ?_
      rotate_left
      · intro w' s0
        obtain ⟨s0, s1⟩ := s0
        go_simp
        with_reducible rfl
      rotate_left
      · simp only [Act.put, List.setIfInBounds_toArray, List.set_cons_zero, List.set_cons_succ, i64_w, i32_w]
        rfl
      refine one_ (i := 10) (N := some 66) #[true, true, true, true, true, true, true, true, true, true, true, true, true, true, true, false, false] rfl rfl (one_of HT_.out (by kernel_rfl)) (by decide) (fun K hK => ?_)
      refine goes_ Try.func9 (by kernel_rfl) rfl #[.pointer (some ⟨g, 0, none⟩)] (by rfl) rfl rfl (by first | rfl | (go_simp; done)) ?_
      refine (disk_Size.calls HD.out (by rw [HN.out]; exact EN.out.2.1)).mono ?_
      rintro e w7 ⟨rfl, ⟨nd4, rfl⟩⟩
      refine ⟨_, rfl, ?_⟩
      have n0_ := Aside0.mk (HD.out.drewN nd4)
      have n1_ := Aside0.mk (HM.out.drewN nd4)
      have n2_ := Aside0.mk (pw_below_drewN HG.out nd4)
      clear HD HM HG
      have HD := n0_
      have HM := n1_
      have HG := n2_
      clear n0_ n1_ n2_
      generalize w6.drewN nd4 = w7 at HD HM HG ⊢
      refine hK.out _ _ ⟨(blk_cell HM.out.top 0).trans rfl, (blk_cell HM.out.top 1).trans rfl⟩ (fun hHeld => ?_)
      clear hK K
      refine norm_ (a' := ?_) ?_ ?_
      rotate_left
      · show Act.put _ (some 66) _ = _
        simp only [Act.put, List.setIfInBounds_toArray, List.set_cons_zero, List.set_cons_succ, i64_w, i32_w]
        rfl
      refine pure_ (i := 15) (N := some 71) (v := ?_) (a' := ?_) #[true, true, true, true, true, true, true, true, true, true, true, true, true, true, true, true, false] rfl rfl (any_of HT_.out (by kernel_rfl)) (fun _ _ _ h => h) (Or.inl ⟨by rfl, ?_⟩) ?_ ?_
      rotate_left
      · intro w'
        go_simp
        with_reducible rfl
      rotate_left
      · simp only [Act.put, List.setIfInBounds_toArray, List.set_cons_zero, List.set_cons_succ, i64_w, i32_w]
        rfl
      refine pure_ (i := 16) (N := some 72) (v := ?_) (a' := ?_) #[true, true, true, true, true, true, true, true, true, true, true, true, true, true, true, true, true] rfl rfl (any_of HT_.out (by kernel_rfl)) (fun _ _ _ h => h) (Or.inl ⟨by rfl, ?_⟩) ?_ ?_
      rotate_left
      · intro w'
        go_simp
        with_reducible rfl
      rotate_left
      · simp only [Act.put, List.setIfInBounds_toArray, List.set_cons_zero, List.set_cons_succ, i64_w, i32_w]
        rfl
      refine done_ (done_of HT_.out (by kernel_rfl)) ?_
      clear HT_ HW_ hHeld
      go_wp2_with fail
      have HP0 : Aside0 (PL w7 w.heap.size bm qm cap s ms.length g q hs ms (List.replicate ms.length (List.replicate s 0)) (-1) 0 0 0 false false) := ⟨⟨HD.out.base_ HBD.out, HM.out.base_ HBM.out.1, HN.out, rfl, fun e => (by have h1 := HBM.out.2.2.2.1; have h2 := HQM.out; omega), fun p hp hq => (by have h1 := HM.out.own.2.2 p hp; have h2 := HBM.out.2.2.2.2 _ hq; omega), by omega, fun _ => rfl, fun e => (by cases e)⟩⟩
      have HB0 : Aside0 (Below w.heap.size w w7) := ⟨below_weaken HB.out HBM.out.1 HG.out⟩
      obtain ⟨N, hN⟩ : ∃ N, N = ms.length := ⟨_, rfl⟩
      rw [← hN] at HP0
      have EN2 := Aside0.mk (show 1 ≤ N ∧ N ≤ 64 by rw [hN]; exact EN.out.2)
      clear HD HM HG HB HN HBM HQM HBD hN
      go_loopg [7, 10] l.length (fun kq v7 v10 w' => ∃ (g q : Nat) (hs : List Nat) (ms : List (Nat × Nat)) (bs : List (List Int)) (cut pre mc mp : Int) (dead armed : Bool) (j : Nat), v7 = .pointer (some ⟨g, 0, none⟩) ∧ v10 = .int .i64 (j : Int) ∧ Aside0 (kq + j = l.length) ∧ Aside0 (PL w' w.heap.size bm qm cap s N g q hs ms bs cut pre mc mp dead armed) ∧ Aside0 (Below w.heap.size w w'))
      case atStart => exact ⟨g, q, hs, ms, _, -1, 0, 0, 0, false, false, 0, rfl, rfl, ⟨rfl⟩, ⟨HP0.out⟩, ⟨HB0.out⟩⟩
      case round =>
        clear HP0 HB0
        obtain ⟨g, q, hs, ms, bs, cut, pre, mc, mp, dead, armed, j, rfl, rfl, Hk, HP, HB⟩ := hrel
        by_cases c6 : j < l.length
        · have c6b : decide ((j : Int) < (l.length : Int)) = true := decide_eq_true (by omega)
          have c6c : decide (j < l.length) = true := decide_eq_true c6
          obtain ⟨a, ha⟩ : ∃ a, l[j]? = some a := ⟨l[j], List.getElem?_eq_getElem c6⟩
          obtain ⟨ad, hA, hcs⟩ := HAC.out (by omega)
          obtain ⟨s0, s1, s2, s3, s4⟩ := hcs j a ha
          have H6 := Aside0.mk c6
          have q0 : ((j : Int) < (l.length : Int)) = True := eq_true (by omega)
          have q1 : (j < l.length) = True := eq_true c6
          obtain ⟨what, ai, an, ap, ax⟩ := a
          dsimp only at s0 s1 s2 s3 s4
          have t1 : wr.cell? ⟨(ad.add (j * 5)).block, (ad.add (j * 5)).off + 1, none⟩ = some (.int .i64 ai) := pw_cell_below HB.out s1
          have t2 : wr.cell? ⟨(ad.add (j * 5)).block, (ad.add (j * 5)).off + 2, none⟩ = some (.int .i64 an) := pw_cell_below HB.out s2
          have t3 : wr.cell? ⟨(ad.add (j * 5)).block, (ad.add (j * 5)).off + 3, none⟩ = some (.int .i64 ap) := pw_cell_below HB.out s3
          have t4 : wr.cell? ⟨(ad.add (j * 5)).block, (ad.add (j * 5)).off + 4, none⟩ = some (.int .u8 ax) := pw_cell_below HB.out s4
          have t5 : wr.cell? (ad.add (j * 5)) = some (.int .i64 what) := pw_cell_below HB.out s0
          clear s0 s1 s2 s3 s4 hcs ha c6
          rw [hA]
          go_upto_region 19 with (fail)
          rw [← hA]
          clear hA
          obtain ⟨xb, hxb⟩ : ∃ xb, xb = wr.heap.size := ⟨_, rfl⟩
          rw [← hxb]
          have HXB := Aside0.mk (show w.heap.size ≤ xb by rw [hxb]; exact below_size HB.out)
          have HX : Aside0 ((wr.alloc (.cells #[.int .i64 what, .int .i64 ai, .int .i64 an, .int .i64 ap, .int .u8 ax] 43)).heap[xb]? = some (.cells #[.int .i64 what, .int .i64 ai, .int .i64 an, .int .i64 ap, .int .u8 ax] 43 (0, 0))) := ⟨by rw [hxb]; exact blk_new wr _⟩
          have n0_ := Aside0.mk (HP.out.below (below_alloc (Below.refl _ wr) (.cells #[.int .i64 what, .int .i64 ai, .int .i64 an, .int .i64 ap, .int .u8 ax] 43)))
          have n1_ := Aside0.mk (below_alloc HB.out (.cells #[.int .i64 what, .int .i64 ai, .int .i64 an, .int .i64 ap, .int .u8 ax] 43))
          clear HP HB t1 t2 t3 t4 t5 hxb
          have HP := n0_
          have HB := n1_
          clear n0_ n1_
          generalize wr.alloc (.cells #[.int .i64 what, .int .i64 ai, .int .i64 an, .int .i64 ap, .int .u8 ax] 43) = w8 at HX HP HB ⊢
          have wN : wrap64 ((ms.length : Int) + 2) = (N : Int) + 2 := by rw [HP.out.nm]; unfold wrap64; have := EN2.out; omega
          obtain ⟨r2, hr0, hr1, hr2⟩ := placeN ai ((N : Int) + 2) (by omega) (by have := EN2.out; omega)
          have HR2 := Aside0.mk hr0
          have HRI := Aside0.mk (And.intro hr1 hr2)
          have wr2 : wrap64 (r2 - 1) = r2 - 1 := by unfold wrap64; have := EN2.out; omega
          clear hr0 hr1 hr2
          refine start_ (n := 11) (S := (fun w' => w'.cell? ⟨xb, 1, none⟩ = some (.int .i64 ai) ∧ w'.cell? ⟨bm, 0, none⟩ = some (.slice (some ⟨qm, 0, none⟩) ms.length cap))) (ds := []) #[false, false, false, false, false, false, false, false, false, false, false] (by kernel_rfl) rfl rfl ⟨(blk_cell HX.out 1).trans rfl, (blk_cell HP.out.mo.top 0).trans rfl⟩ (fun hHeld => ?_)
          refine with_tabW lychlaw9_DiskPlays.tab19 lychlaw9_DiskPlays.bits19 (fun HT_ HW_ => ?_)
          have n0_ := Aside0.mk (HP.out.drewN 1)
          have n1_ := Aside0.mk (pw_below_drewN HB.out 1)
          have n2_ := Aside0.mk (blk_drewN HX.out 1)
          clear HP HB HX
          have HP := n0_
          have HB := n1_
          have HX := n2_
          clear n0_ n1_ n2_
          have ed_ : w8.drewN 1 = w8.drew := rfl
          rw [ed_] at HP HB HX
          clear ed_
          generalize w8.drew = w9_ at HP HB HX hHeld ⊢
          refine pure_ (i := 0) (N := some 83) (v := ?_) (a' := ?_) #[true, false, false, false, false, false, false, false, false, false, false] rfl rfl (any_of HT_.out (by kernel_rfl)) (fun _ _ _ h => h) (Or.inl ⟨by rfl, ?_⟩) ?_ ?_
          rotate_left
          · intro w'
            go_simp
            with_reducible rfl
          rotate_left
          · simp only [Act.put, List.setIfInBounds_toArray, List.set_cons_zero, List.set_cons_succ, i64_w, i32_w]
            rfl
          refine take_ (i := 1) (N := some 84) (v := ?_) (a' := ?_) #[true, true, false, false, false, false, false, false, false, false, false] rfl rfl (take_ofW HT_.out HW_.out (by kernel_rfl)) (fun _ _ _ h => h) (Or.inl ⟨by rfl, ?_⟩) hHeld ?_ ?_
          rotate_left
          · intro w' s0
            obtain ⟨s0, s1⟩ := s0
            go_simp
            with_reducible rfl
          rotate_left
          · simp only [Act.put, List.setIfInBounds_toArray, List.set_cons_zero, List.set_cons_succ, i64_w, i32_w]
            rfl
          refine pure_ (i := 2) (N := some 85) (v := ?_) (a' := ?_) #[true, true, true, false, false, false, false, false, false, false, false] rfl rfl (any_of HT_.out (by kernel_rfl)) (fun _ _ _ h => h) (Or.inl ⟨by rfl, ?_⟩) ?_ ?_
          rotate_left
          · intro w'
            go_simp
            with_reducible rfl
          rotate_left
          · simp only [Act.put, List.setIfInBounds_toArray, List.set_cons_zero, List.set_cons_succ, i64_w, i32_w]
            rfl
          refine pure_ (i := 3) (N := some 86) (v := ?_) (a' := ?_) #[true, true, true, true, false, false, false, false, false, false, false] rfl rfl (any_of HT_.out (by kernel_rfl)) (fun _ _ _ h => h) (Or.inl ⟨by rfl, ?_⟩) ?_ ?_
          rotate_left
          · intro w'
            go_simp
            with_reducible rfl
          rotate_left
          · simp only [Act.put, List.setIfInBounds_toArray, List.set_cons_zero, List.set_cons_succ, i64_w, i32_w]
            rfl
          refine pure_ (i := 4) (N := some 87) (v := ?_) (a' := ?_) #[true, true, true, true, true, false, false, false, false, false, false] rfl rfl (any_of HT_.out (by kernel_rfl)) (fun _ _ _ h => h) (Or.inl ⟨by rfl, ?_⟩) ?_ ?_
          rotate_left
          · intro w'
            go_simp
            with_reducible rfl
          rotate_left
          · simp only [Act.put, List.setIfInBounds_toArray, List.set_cons_zero, List.set_cons_succ, i64_w, i32_w]
            rfl
          refine take_ (i := 5) (N := some 88) (v := ?_) (a' := ?_) #[true, true, true, true, true, true, false, false, false, false, false] rfl rfl (take_ofW HT_.out HW_.out (by kernel_rfl)) (fun _ _ _ h => h) (Or.inl ⟨by rfl, ?_⟩) hHeld ?_ ?_
          rotate_left
          · intro w' s0
            obtain ⟨s0, s1⟩ := s0
            go_simp
            with_reducible rfl
          rotate_left
          · simp only [Act.put, List.setIfInBounds_toArray, List.set_cons_zero, List.set_cons_succ, i64_w, i32_w]
            rfl
          refine pure_ (i := 6) (N := some 89) (v := ?_) (a' := ?_) #[true, true, true, true, true, true, true, false, false, false, false] rfl rfl (any_of HT_.out (by kernel_rfl)) (fun _ _ _ h => h) (Or.inl ⟨by rfl, ?_⟩) ?_ ?_
          rotate_left
          · intro w'
            go_simp
            with_reducible rfl
          rotate_left
          · simp only [Act.put, List.setIfInBounds_toArray, List.set_cons_zero, List.set_cons_succ, i64_w, i32_w]
            rfl
          refine pure_ (i := 7) (N := some 90) (v := ?_) (a' := ?_) #[true, true, true, true, true, true, true, true, false, false, false] rfl rfl (any_of HT_.out (by kernel_rfl)) (fun _ _ _ h => h) (Or.inl ⟨by rfl, ?_⟩) ?_ ?_
          rotate_left
          · intro w'
            go_simp
            with_reducible rfl
          rotate_left
          · simp only [Act.put, List.setIfInBounds_toArray, List.set_cons_zero, List.set_cons_succ, i64_w, i32_w]
            rfl
          refine one_ (i := 8) (N := some 91) #[true, true, true, true, true, true, true, true, true, false, false] rfl rfl (one_of HT_.out (by kernel_rfl)) (by decide) (fun K hK => ?_)
          refine goes_ Try.func12 (by kernel_rfl) rfl #[.int .i64 ai, .int .i64 ((N : Int) + 2)] (by rfl) rfl rfl (by first | rfl | (go_simp; done)) ?_
          refine (lychhelp_Place.calls ai ((N : Int) + 2) r2 _ HR2.out).mono ?_
          rintro e w10_ ⟨rfl, ⟨nd3, rfl⟩⟩
          refine ⟨_, rfl, ?_⟩
          have n0_ := Aside0.mk (HP.out.drewN nd3)
          have n1_ := Aside0.mk (pw_below_drewN HB.out nd3)
          have n2_ := Aside0.mk (blk_drewN HX.out nd3)
          clear HP HB HX
          have HP := n0_
          have HB := n1_
          have HX := n2_
          clear n0_ n1_ n2_
          generalize w9_.drewN nd3 = w10_ at HP HB HX ⊢
          refine hK.out _ _ ⟨(blk_cell HX.out 1).trans rfl, (blk_cell HP.out.mo.top 0).trans rfl⟩ (fun hHeld => ?_)
          clear hK K
          refine norm_ (a' := ?_) ?_ ?_
          rotate_left
          · show Act.put _ (some 91) _ = _
            simp only [Act.put, List.setIfInBounds_toArray, List.set_cons_zero, List.set_cons_succ, i64_w, i32_w]
            rfl
          refine pure_ (i := 9) (N := some 92) (v := ?_) (a' := ?_) #[true, true, true, true, true, true, true, true, true, true, false] rfl rfl (any_of HT_.out (by kernel_rfl)) (fun _ _ _ h => h) (Or.inl ⟨by rfl, ?_⟩) ?_ ?_
          rotate_left
          · intro w'
            go_simp
            with_reducible rfl
          rotate_left
          · simp only [Act.put, List.setIfInBounds_toArray, List.set_cons_zero, List.set_cons_succ, i64_w, i32_w]
            rfl
          refine pure_ (i := 10) (N := some 12) (v := ?_) (a' := ?_) #[true, true, true, true, true, true, true, true, true, true, true] rfl rfl (any_of HT_.out (by kernel_rfl)) (fun _ _ _ h => h) (Or.inl ⟨by rfl, ?_⟩) ?_ ?_
          rotate_left
          · intro w'
            go_simp
            with_reducible rfl
          rotate_left
          · simp only [Act.put, List.setIfInBounds_toArray, List.set_cons_zero, List.set_cons_succ, i64_w, i32_w]
            rfl
          refine done_ (done_of HT_.out (by kernel_rfl)) ?_
          clear HT_ HW_ hHeld
          obtain ⟨at_, hat_⟩ : ∃ at_, at_ = r2 - 1 := ⟨_, rfl⟩
          have HAT := Aside0.mk (show -1 ≤ at_ ∧ at_ ≤ (N : Int) by rw [hat_]; have := HRI.out; omega)
          rw [← hat_]
          clear hat_ wr2 HRI HR2 wN
          have x0 : w10_.cell? ⟨xb, 0, none⟩ = some (.int .i64 what) := (blk_cell HX.out 0).trans rfl
          have w17 : wrap64 ((j : Int) + 1) = ((j + 1 : Nat) : Int) := by unfold wrap64; have := HL.out; have := H6.out; omega
          go_upto_block 4 with (fail)
          go_cut [7, 12] from 73 to 300 (fun s7 s12 w' => ∃ (g q : Nat) (hs : List Nat) (ms : List (Nat × Nat)) (bs : List (List Int)) (cut pre mc mp : Int) (dead armed : Bool), s7 = .pointer (some ⟨g, 0, none⟩) ∧ s12 = .int .i64 at_ ∧ Aside0 (PL w' w.heap.size bm qm cap s N g q hs ms bs cut pre mc mp dead armed) ∧ Aside0 (Below w.heap.size w w'))
          case rest =>
            clear HP HB HX x0
            obtain ⟨g, q, hs, ms, bs, cut, pre, mc, mp, dead, armed, rfl, rfl, HP, HB⟩ := hcut
            go_step
            refine dpTail w wc bm qm cap s N g q hs ms bs cut pre mc mp dead armed at_ ⟨ES.out.2⟩ EN2 HAT HP HB _ _ _ _ _ _ _ _ _ _ _ _ _ _ _ _ _ _ _ _ _ _ _ _ _ _ _ _ _ _ _ _ _ _ _ _ _ _ _ _ _ _ _ _ _ _ _ _ _ _ _ _ _ _ _ _ _ _ _ _ _ _ _ _ _ _ _ _ _ _ _ _ _ _ _ _ _ _ _ _ _ _ _ _ _ _ _ _ _ _ _ _ _ _ _ _ _ _ _ _ _ _ _ _ _ _ _ _ _ _ _ _ _ _ _ _ _ _ _ _ _ _ _ _ _ _ _ _ _ _ _ _ _ _ _ _ _ _ _ _ _ _ _ _ _ _ _ _ _ _ _ _ _ _ _ _ _ _ _ _ _ _ _ _ _ _ _ _ _ _ _ _ _ _ _ _ _ _ _ _ _ _ _ _ _ _ _ _ _ _ _ _ _ _ _ _ _ _ _ _ _ _ _ _ _ _ _ _ _ _ _ _ _ _ _ _ _ _ _ _ _ _ _ _ _ _ _ _ _ _ _ _ _ _ _ _ _ _ _ _ _ _ _ _ _ _ _ _ _ _ _ _ _ _ _ _ _ _ _ _ _ _ _ _ _ _ _ _ _ _ _ _ _ _ _ _ _ _ _ _ _ _ _ _ _ _ _ _ _ _ _ _ _ _ _ _ _ _ _ ⟨fun _ _ t_ _ _ h => by cases t_ <;> exact h⟩ (fun a' w' h => ?_)
            clear HP HB
            obtain ⟨u17, h⟩ := h
            obtain ⟨u18, h⟩ := h
            obtain ⟨u243, h⟩ := h
            obtain ⟨u244, h⟩ := h
            obtain ⟨u245, h⟩ := h
            obtain ⟨u246, h⟩ := h
            obtain ⟨u247, h⟩ := h
            obtain ⟨u248, h⟩ := h
            obtain ⟨u249, h⟩ := h
            obtain ⟨u250, h⟩ := h
            obtain ⟨u251, h⟩ := h
            obtain ⟨u252, h⟩ := h
            obtain ⟨u253, h⟩ := h
            obtain ⟨u254, h⟩ := h
            obtain ⟨u255, h⟩ := h
            obtain ⟨u256, h⟩ := h
            obtain ⟨u257, h⟩ := h
            obtain ⟨u258, h⟩ := h
            obtain ⟨u259, h⟩ := h
            obtain ⟨u260, h⟩ := h
            obtain ⟨u261, h⟩ := h
            obtain ⟨u262, h⟩ := h
            obtain ⟨u263, h⟩ := h
            obtain ⟨u264, h⟩ := h
            obtain ⟨u265, h⟩ := h
            obtain ⟨u266, h⟩ := h
            obtain ⟨u267, h⟩ := h
            obtain ⟨u268, h⟩ := h
            obtain ⟨u269, h⟩ := h
            obtain ⟨u270, h⟩ := h
            obtain ⟨u271, h⟩ := h
            obtain ⟨u272, h⟩ := h
            obtain ⟨u273, h⟩ := h
            obtain ⟨u274, h⟩ := h
            obtain ⟨u275, h⟩ := h
            obtain ⟨u276, h⟩ := h
            obtain ⟨u277, h⟩ := h
            obtain ⟨u278, h⟩ := h
            obtain ⟨u279, h⟩ := h
            obtain ⟨u280, h⟩ := h
            obtain ⟨u281, h⟩ := h
            obtain ⟨u282, h⟩ := h
            obtain ⟨u283, h⟩ := h
            obtain ⟨u284, h⟩ := h
            obtain ⟨u285, h⟩ := h
            obtain ⟨u286, h⟩ := h
            obtain ⟨u287, h⟩ := h
            obtain ⟨u288, h⟩ := h
            obtain ⟨u289, h⟩ := h
            obtain ⟨u290, h⟩ := h
            obtain ⟨u291, h⟩ := h
            obtain ⟨u292, h⟩ := h
            obtain ⟨u293, h⟩ := h
            obtain ⟨u294, h⟩ := h
            obtain ⟨u295, h⟩ := h
            obtain ⟨u296, h⟩ := h
            obtain ⟨u297, h⟩ := h
            obtain ⟨u298, h⟩ := h
            obtain ⟨u299, h⟩ := h
            obtain ⟨u300, h⟩ := h
            obtain ⟨⟨HP, HB⟩, rfl⟩ := h
            go_wp2
            go_roundg (gk - 1)
            case measure => have := Hk.out; have := H6.out; omega
            case rel => exact ⟨g, q, hs, ms, bs, cut, pre, mc, mp, dead, armed, j + 1, rfl, congrArg (Value.int .i64) w17, ⟨by have := Hk.out; have := H6.out; omega⟩, ⟨HP.out⟩, ⟨HB.out⟩⟩
          case first =>
            rename_i J K' hJ hK
            by_cases kw : what = 0 ∨ what = 1 ∨ what = 2
            · exact dpSw_write w w10_ bm qm cap s N g q hs ms bs cut pre mc mp dead armed at_ ⟨ES.out.2⟩ EN2 HAT HP HB xb what ai an ap ax HX kw _ _ _ _ _ _ _ _ _ _ _ _ _ _ _ _ _ _ _ _ _ _ _ _ _ _ _ _ _ _ _ _ _ _ _ _ _ _ _ _ _ _ _ _ _ _ _ _ _ _ _ _ _ _ _ _ _ _ _ _ _ _ _ _ _ _ _ _ _ _ _ _ _ _ _ _ _ _ _ _ _ _ _ _ _ _ _ _ _ _ _ _ _ _ _ _ _ _ _ _ _ _ _ _ _ _ _ _ _ _ _ _ _ _ _ _ _ _ _ _ _ _ _ _ _ _ _ _ _ _ _ _ _ _ _ _ _ _ _ _ _ _ _ _ _ _ _ _ _ _ _ _ _ _ _ _ _ _ _ _ _ _ _ _ _ _ _ _ _ _ _ _ _ _ _ _ _ _ _ _ _ _ _ _ _ _ _ _ _ _ _ _ _ _ _ _ _ _ _ _ _ _ _ _ _ _ _ _ _ _ _ _ _ _ _ _ _ _ _ _ _ _ _ _ _ _ _ _ _ _ _ _ _ _ _ _ _ _ _ _ _ _ _ _ _ _ _ _ _ _ _ _ _ _ _ _ _ _ _ _ _ _ _ _ _ _ _ _ _ _ _ _ _ _ _ _ _ _ _ _ _ _ _ _ _ _ _ _ _ _ _ _ _ _ _ _ _ ⟨fun _ _ t_ _ _ h => by cases t_ <;> exact h⟩ (fun a' w' h => hK _ _ (Met.intro (hJ _ _ h)))
            by_cases k4 : what = 4
            · exact dpSw_cut w w10_ bm qm cap s N g q hs ms bs cut pre mc mp dead armed at_ ⟨ES.out.2⟩ EN2 HAT HP HB xb what ai an ap ax HX k4 _ _ _ _ _ _ _ _ _ _ _ _ _ _ _ _ _ _ _ _ _ _ _ _ _ _ _ _ _ _ _ _ _ _ _ _ _ _ _ _ _ _ _ _ _ _ _ _ _ _ _ _ _ _ _ _ _ _ _ _ _ _ _ _ _ _ _ _ _ _ _ _ _ _ _ _ _ _ _ _ _ _ _ _ _ _ _ _ _ _ _ _ _ _ _ _ _ _ _ _ _ _ _ _ _ _ _ _ _ _ _ _ _ _ _ _ _ _ _ _ _ _ _ _ _ _ _ _ _ _ _ _ _ _ _ _ _ _ _ _ _ _ _ _ _ _ _ _ _ _ _ _ _ _ _ _ _ _ _ _ _ _ _ _ _ _ _ _ _ _ _ _ _ _ _ _ _ _ _ _ _ _ _ _ _ _ _ _ _ _ _ _ _ _ _ _ _ _ _ _ _ _ _ _ _ _ _ _ _ _ _ _ _ _ _ _ _ _ _ _ _ _ _ _ _ _ _ _ _ _ _ _ _ _ _ _ _ _ _ _ _ _ _ _ _ _ _ _ _ _ _ _ _ _ _ _ _ _ _ _ _ _ _ _ _ _ _ _ _ _ _ _ _ _ _ _ _ _ _ _ _ _ _ _ _ _ _ _ _ _ _ _ _ _ _ _ _ ⟨fun _ _ t_ _ _ h => by cases t_ <;> exact h⟩ (fun a' w' h => hK _ _ (Met.intro (hJ _ _ h)))
            by_cases k5 : what = 5
            · exact dpSw_power w w10_ bm qm cap s N g q hs ms bs cut pre mc mp dead armed at_ ⟨ES.out.2⟩ EN2 HAT HP HB xb what ai an ap ax HX k5 _ _ _ _ _ _ _ _ _ _ _ _ _ _ _ _ _ _ _ _ _ _ _ _ _ _ _ _ _ _ _ _ _ _ _ _ _ _ _ _ _ _ _ _ _ _ _ _ _ _ _ _ _ _ _ _ _ _ _ _ _ _ _ _ _ _ _ _ _ _ _ _ _ _ _ _ _ _ _ _ _ _ _ _ _ _ _ _ _ _ _ _ _ _ _ _ _ _ _ _ _ _ _ _ _ _ _ _ _ _ _ _ _ _ _ _ _ _ _ _ _ _ _ _ _ _ _ _ _ _ _ _ _ _ _ _ _ _ _ _ _ _ _ _ _ _ _ _ _ _ _ _ _ _ _ _ _ _ _ _ _ _ _ _ _ _ _ _ _ _ _ _ _ _ _ _ _ _ _ _ _ _ _ _ _ _ _ _ _ _ _ _ _ _ _ _ _ _ _ _ _ _ _ _ _ _ _ _ _ _ _ _ _ _ _ _ _ _ _ _ _ _ _ _ _ _ _ _ _ _ _ _ _ _ _ _ _ _ _ _ _ _ _ _ _ _ _ _ _ _ _ _ _ _ _ _ _ _ _ _ _ _ _ _ _ _ _ _ _ _ _ _ _ _ _ _ _ _ _ _ _ _ _ _ _ _ _ _ _ _ _ _ _ _ _ _ _ ⟨fun _ _ t_ _ _ h => by cases t_ <;> exact h⟩ (fun a' w' h => hK _ _ (Met.intro (hJ _ _ h)))
            by_cases k6 : what = 6
            · exact dpSw_spoil w w10_ bm qm cap s N g q hs ms bs cut pre mc mp dead armed at_ ⟨ES.out.2⟩ EN2 HAT HP HB xb what ai an ap ax HX k6 _ _ _ _ _ _ _ _ _ _ _ _ _ _ _ _ _ _ _ _ _ _ _ _ _ _ _ _ _ _ _ _ _ _ _ _ _ _ _ _ _ _ _ _ _ _ _ _ _ _ _ _ _ _ _ _ _ _ _ _ _ _ _ _ _ _ _ _ _ _ _ _ _ _ _ _ _ _ _ _ _ _ _ _ _ _ _ _ _ _ _ _ _ _ _ _ _ _ _ _ _ _ _ _ _ _ _ _ _ _ _ _ _ _ _ _ _ _ _ _ _ _ _ _ _ _ _ _ _ _ _ _ _ _ _ _ _ _ _ _ _ _ _ _ _ _ _ _ _ _ _ _ _ _ _ _ _ _ _ _ _ _ _ _ _ _ _ _ _ _ _ _ _ _ _ _ _ _ _ _ _ _ _ _ _ _ _ _ _ _ _ _ _ _ _ _ _ _ _ _ _ _ _ _ _ _ _ _ _ _ _ _ _ _ _ _ _ _ _ _ _ _ _ _ _ _ _ _ _ _ _ _ _ _ _ _ _ _ _ _ _ _ _ _ _ _ _ _ _ _ _ _ _ _ _ _ _ _ _ _ _ _ _ _ _ _ _ _ _ _ _ _ _ _ _ _ _ _ _ _ _ _ _ _ _ _ _ _ _ _ _ _ _ _ _ _ _ ⟨fun _ _ t_ _ _ h => by cases t_ <;> exact h⟩ (fun a' w' h => hK _ _ (Met.intro (hJ _ _ h)))
            by_cases k7 : what = 7
            · exact dpSw_copy w w10_ bm qm cap s N g q hs ms bs cut pre mc mp dead armed at_ ⟨ES.out.2⟩ EN2 HAT HP HB xb what ai an ap ax HX k7 _ _ _ _ _ _ _ _ _ _ _ _ _ _ _ _ _ _ _ _ _ _ _ _ _ _ _ _ _ _ _ _ _ _ _ _ _ _ _ _ _ _ _ _ _ _ _ _ _ _ _ _ _ _ _ _ _ _ _ _ _ _ _ _ _ _ _ _ _ _ _ _ _ _ _ _ _ _ _ _ _ _ _ _ _ _ _ _ _ _ _ _ _ _ _ _ _ _ _ _ _ _ _ _ _ _ _ _ _ _ _ _ _ _ _ _ _ _ _ _ _ _ _ _ _ _ _ _ _ _ _ _ _ _ _ _ _ _ _ _ _ _ _ _ _ _ _ _ _ _ _ _ _ _ _ _ _ _ _ _ _ _ _ _ _ _ _ _ _ _ _ _ _ _ _ _ _ _ _ _ _ _ _ _ _ _ _ _ _ _ _ _ _ _ _ _ _ _ _ _ _ _ _ _ _ _ _ _ _ _ _ _ _ _ _ _ _ _ _ _ _ _ _ _ _ _ _ _ _ _ _ _ _ _ _ _ _ _ _ _ _ _ _ _ _ _ _ _ _ _ _ _ _ _ _ _ _ _ _ _ _ _ _ _ _ _ _ _ _ _ _ _ _ _ _ _ _ _ _ _ _ _ _ _ _ _ _ _ _ _ _ _ _ _ _ _ _ ⟨fun _ _ t_ _ _ h => by cases t_ <;> exact h⟩ (fun a' w' h => hK _ _ (Met.intro (hJ _ _ h)))
            exact dpSw_none w w10_ bm qm cap s N g q hs ms bs cut pre mc mp dead armed at_ ⟨ES.out.2⟩ EN2 HAT HP HB xb what ai an ap ax HX ⟨fun e => kw (Or.inl e), fun e => kw (Or.inr (Or.inl e)), fun e => kw (Or.inr (Or.inr e)), k4, k5, k6, k7⟩ _ _ _ _ _ _ _ _ _ _ _ _ _ _ _ _ _ _ _ _ _ _ _ _ _ _ _ _ _ _ _ _ _ _ _ _ _ _ _ _ _ _ _ _ _ _ _ _ _ _ _ _ _ _ _ _ _ _ _ _ _ _ _ _ _ _ _ _ _ _ _ _ _ _ _ _ _ _ _ _ _ _ _ _ _ _ _ _ _ _ _ _ _ _ _ _ _ _ _ _ _ _ _ _ _ _ _ _ _ _ _ _ _ _ _ _ _ _ _ _ _ _ _ _ _ _ _ _ _ _ _ _ _ _ _ _ _ _ _ _ _ _ _ _ _ _ _ _ _ _ _ _ _ _ _ _ _ _ _ _ _ _ _ _ _ _ _ _ _ _ _ _ _ _ _ _ _ _ _ _ _ _ _ _ _ _ _ _ _ _ _ _ _ _ _ _ _ _ _ _ _ _ _ _ _ _ _ _ _ _ _ _ _ _ _ _ _ _ _ _ _ _ _ _ _ _ _ _ _ _ _ _ _ _ _ _ _ _ _ _ _ _ _ _ _ _ _ _ _ _ _ _ _ _ _ _ _ _ _ _ _ _ _ _ _ _ _ _ _ _ _ _ _ _ _ _ _ _ _ _ _ _ _ _ _ _ _ _ _ _ _ _ _ _ _ _ _ ⟨fun _ _ t_ _ _ h => by cases t_ <;> exact h⟩ (fun a' w' h => hK _ _ (Met.intro (hJ _ _ h)))
        · have c6b : decide ((j : Int) < (l.length : Int)) = false := decide_eq_false (by omega)
          have c6c : decide (j < l.length) = false := decide_eq_false c6
          clear c6
          go_wp2
          (try simp only [Exit.inBlock, Exit.then])
          go_ret
          exact ⟨rfl, HB.out⟩
end Go.Proofs.Ytgeggcifhojpmaa.PA
