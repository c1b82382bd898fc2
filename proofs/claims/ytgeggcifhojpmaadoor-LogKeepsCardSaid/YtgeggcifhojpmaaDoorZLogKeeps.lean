/- LogKeeps: for every input the Go function returns true, and each argument reads as before; the listed variable tied to the program's text. -/
import Derived.Test.YtgeggcifhojpmaaDoorZLf
import Derived.Test.YtgeggcifhojpmaaDoorRows
import Derived.Test.YtgeggcifhojpmaaDoorTie
import Derived.Test.YtgeggcifhojpmaaDoorCards
import Derived.Test.YtgeggcifhojpmaaDoorZW
import Derived.WalkKit
import Derived.ProofKit
import Derived.OpenShut
import Derived.ShutString
import Derived.ChangeOld
import Derived.Below
import Derived.SizedLaws
import Derived.Lib.SmallJoins
import Derived.RowKitTokens
import Derived.LaidLaws
import Derived.LaidHandle
import Derived.Stop.LaidErr
import Derived.Stop.LaidTwo
import Derived.SevenTiedAt
/- LogKeeps: the last records are there, in order. -/
namespace Go.Proofs.YtgeggcifhojpmaaDoor.PB
open Go.RowKit Go.Proofs.YtgeggcifhojpmaaDoorW.PrintWords Go.Proofs.YtgeggcifhojpmaaDoorW.PrintLast Go.Proofs.YtgeggcifhojpmaaDoorW.PrintMore
attribute [local go_sem] max2_mx min2_mn max_two min_two max_three min_three max_four min_four   -- for this text's walks alone
set_option linter.unusedVariables false
set_option linter.unusedSimpArgs false

def LogKeeps.R24.T : Bool × List (List Nat × List Nat) := (true, [([], []), ([0], [0]), ([], []), ([2], [2]), ([1, 3], [1, 3]), ([4, 1], [4]), ([5], [5]), ([6, 5, 5], [5, 6]), ([5], [5]), ([5], [5]), ([9, 5], [5, 9]), ([10, 5], [5, 10]), ([8, 11, 5], [5, 8, 11]), ([12, 5], [5, 12]), ([7, 13, 7, 5], [5, 7, 13]), ([14, 5], [5, 14]), ([5, 15], [5, 15])])
theorem LogKeeps.R24.tab : rtab .any (opsOf Tryd.f4 24) = LogKeeps.R24.T := by kernel_rfl
theorem LogKeeps.R24.bits : waitsOk LogKeeps.R24.T.2 [0, 1, 0, 4, 15, 31, 63, 127, 63, 63, 575, 1599, 3903, 7999, 16383, 32767, 65535] = true := by kernel_rfl
def LogKeeps.R28.T : Bool × List (List Nat × List Nat) := (true, [([], []), ([0], [0]), ([1], [1]), ([2], [2]), ([3, 2], [2, 3]), ([2, 4], [2, 4]), ([5, 2], [5]), ([6], [6]), ([6], [6]), ([7, 8, 6, 6], [6, 7, 8]), ([9, 6], [6, 9]), ([6, 10], [6, 10]), ([11, 9], [11]), ([12], [12]), ([13, 12, 12], [12, 13]), ([12], [12]), ([15, 12], [12, 15]), ([14, 16, 12], [12, 14, 16]), ([12, 17], [12, 17]), ([18, 14], [18]), ([19], [19]), ([20, 19, 19], [19, 20]), ([19], [19]), ([19], [19]), ([23, 19], [19, 23]), ([24, 19], [19, 24]), ([22, 25, 19], [19, 22, 25]), ([26, 19], [19, 26]), ([21, 27, 21, 19], [19, 21, 27]), ([28, 19], [19, 28]), ([19, 29], [19, 29])])
theorem LogKeeps.R28.tab : rtab .any (opsOf Tryd.f4 28) = LogKeeps.R28.T := by kernel_rfl
theorem LogKeeps.R28.bits : waitsOk LogKeeps.R28.T.2 [0, 1, 3, 7, 15, 31, 63, 127, 127, 511, 1023, 2047, 4095, 8191, 16383, 8191, 40959, 131071, 262143, 524287, 1048575, 2097151, 1048575, 1048575, 9437183, 26214399, 63963135, 131071999, 268435455, 536870911, 1073741823] = true := by kernel_rfl
set_option maxHeartbeats 40000000 in
set_option maxRecDepth 100000 in
theorem LogKeeps.calls (a0 a1 : Int) (A2 : Option Addr) (c2 : Nat) (l2 : List Int) (A3 : Option Addr) (c3 : Nat) (l3 : List Bool) (w : World) (ge : Addr) (hge : w.cell? ⟨0, 0, none⟩ = some (.iface 91 (.pointer (some ge)))) (hr2 : Kd.C (Kd.int .u16) w A2 l2.length l2) (hc2 : l2.length ≤ c2) (hw2 : ∀ x ∈ l2, 0 ≤ x ∧ x ≤ 65535) (hr3 : Kd.C Kd.bool w A3 l3.length l3) (hc3 : l3.length ≤ c3) :
    Calls Tryd.prog 4 #[.int .i64 a0, .int .i64 a1, .slice A2 l2.length c2, .slice A3 l3.length c3] w fun e w' => e = .returned (.bool true) ∧ Below w.heap.size w w' := by
  have HG := Aside0.mk hge
  have HR2 := Aside0.mk hr2
  have HW2 := Aside0.mk hw2
  have HR3 := Aside0.mk hr3
  clear hge hr2 hw2 hr3 hc2 hc3
  go_enter Tryd.func4, Tryd.ntmps4
  go_wp2_with fail
  refine (known.calls w ge HG.out).mono ?_
  rintro e w1 ⟨rfl, hb⟩
  have HB := Aside0.mk hb
  clear hb
  obtain ⟨n2, hn2⟩ : ∃ n2, n2 = l2.length := ⟨_, rfl⟩
  obtain ⟨n3, hn3⟩ : ∃ n3, n3 = l3.length := ⟨_, rfl⟩
  have HN2 := Aside0.mk hn2
  have HN3 := Aside0.mk hn3
  rw [← hn2, ← hn3]
  clear hn2 hn3
  by_cases h40 : 40 < n2 ∨ 40 < n3
  · rcases Nat.lt_or_ge 40 n2 with h4 | h4
    · have hc1 : decide ((40 : Int) < (n2 : Int)) = true := decide_eq_true (by omega)
      have hc2 : decide (40 < n2) = true := decide_eq_true h4
      (try dsimp only)
      go_wp2
      (try simp only [Exit.inBlock, Exit.then])
      go_ret
      exact ⟨rfl, HB.out⟩
    · have h5 : 40 < n3 := by omega
      have hc1 : decide ((40 : Int) < (n2 : Int)) = false := decide_eq_false (by omega)
      have hc2 : decide (40 < n2) = false := decide_eq_false (by omega)
      have hc3 : decide ((40 : Int) < (n3 : Int)) = true := decide_eq_true (by omega)
      have hc4 : decide (40 < n3) = true := decide_eq_true h5
      (try dsimp only)
      go_wp2
      (try simp only [Exit.inBlock, Exit.then])
      go_ret
      exact ⟨rfl, HB.out⟩
  have NL := Aside0.mk (show n2 ≤ 40 ∧ n3 ≤ 40 by omega)
  have hc1 : decide ((40 : Int) < (n2 : Int)) = false := decide_eq_false (by omega)
  have hc2 : decide (40 < n2) = false := decide_eq_false (by omega)
  have hc3 : decide ((40 : Int) < (n3 : Int)) = false := decide_eq_false (by omega)
  have hc4 : decide (40 < n3) = false := decide_eq_false (by omega)
  (try dsimp only)
  go_wp2_with fail
  obtain ⟨r1, hr1, hpr1⟩ := place_f a0 8 (by decide) (by decide)
  refine (lychhelp_Place.calls a0 8 _ w1 hpr1).mono ?_
  rintro e w_ ⟨rfl, ⟨nd, rfl⟩⟩
  clear hpr1
  (try dsimp only)
  go_wp2_with fail
  obtain ⟨r2, hr2, hpr2⟩ := place_f a1 300 (by decide) (by decide)
  refine (lychhelp_Place.calls a1 300 _ _ hpr2).mono ?_
  rintro e w_ ⟨rfl, ⟨nd2, rfl⟩⟩
  clear hpr2
  (try dsimp only)
  go_wp2_with fail
  refine (LD.new (4 + (r1 : Int)) (256 + (r2 : Int)) (w1.drewN (nd + nd2)) (by rw [dkN_id (4 + r1) (by omega), dkS_id (256 + r2) (by omega)]; omega)).mono ?_
  rintro e w2 ⟨g, q, hs, rfl, hd, hn, hb⟩
  rw [dkS_id (256 + r2) (by omega)] at hd
  rw [dkN_id (4 + r1) (by omega)] at hn
  have HD := Aside0.mk hd
  have HN := Aside0.mk hn
  have HBN := Aside0.mk (below_step (pw_below_drewN HB.out (nd + nd2)) hb)
  have HD2 := Aside0.mk (And.intro hb (pw_below_drewN HB.out (nd + nd2)))
  clear hd hn hb HB hc1 hc2 hc3 hc4 h40
  have HB := HBN
  clear HBN
  obtain ⟨base, hbase⟩ : ∃ base, base = (w1.drewN (nd + nd2)).heap.size := ⟨_, rfl⟩
  rw [← hbase] at HD
  have HBS := Aside0.mk (show w.heap.size ≤ base by rw [hbase]; exact below_size HD2.out.2)
  obtain ⟨b0, hb0⟩ : ∃ b0, b0 = w2.heap.size := ⟨_, rfl⟩
  have HB0 := Aside0.mk (show q < b0 ∧ (∀ b ∈ hs, b < b0) ∧ w.heap.size ≤ b0 by rw [hb0]; exact ⟨HD.out.lt.2.1, HD.out.lt.2.2, below_size HB.out⟩)
  have HS0 := Aside0.mk (show b0 ≤ w2.heap.size by rw [hb0]; exact Nat.le_refl _)
  clear hbase hb0 HD2
  (try dsimp only)
  go_wp2_with fail
  refine (LD.open_ HD.out ge (gcell HG.out HB.out)).mono ?_
  rintro e w3 ⟨lb, A, oc, rfl, hlb, hoc, hk, hl, hb⟩
  have HL := Aside0.mk hl
  have n_HB := Aside0.mk (below_step HB.out hb)
  clear HB
  have HB := n_HB
  clear n_HB
  have HS0' := Aside0.mk (Nat.le_trans HS0.out (below_size hb))
  clear HD HS0 hlb hk hl hb hoc
  have HS0 := HS0'
  clear HS0'
  (try dsimp only)
  go_wp2_with fail
  refine (LD.room HL.out.ld).mono ?_
  rintro e w4 ⟨rfl, ⟨nd3, rfl⟩⟩
  have hRM := (room_le HL.out.ld.big).1
  obtain ⟨rm, hrm⟩ : ∃ rm, rm = lgRoom hs.length (256 + r2) := ⟨_, rfl⟩
  have hrm2 : rm = min ((4 + r1) / 2 * (256 + r2 - 36)) 16384 := by
    rw [hrm]
    unfold lgRoom
    rw [hRM, if_pos rfl, HN.out]
  have HRM := Aside0.mk hrm
  rw [← hrm]
  have hm : (3 + r1) / 2 * (192 + r2) ≤ (4 + r1) / 2 * (256 + r2 - 36) := Nat.mul_le_mul (by omega) (by omega)
  have hm2 : (3 + r1) / 2 * (192 + r2) ≤ 5 * 492 := Nat.mul_le_mul (by omega) (by omega)
  have HM := Aside0.mk (show (3 + r1) / 2 * (192 + r2) ≤ rm ∧ (3 + r1) / 2 * (192 + r2) ≤ 2460 ∧ rm ≤ 16384 by omega)
  clear hrm hrm2 hRM hm hm2
  have n_HL := Aside0.mk (HL.out.under (pw_below_drewN (Below.refl _ _) nd3))
  have n_HB := Aside0.mk (pw_below_drewN HB.out nd3)
  have n_HS0 : Aside0 (b0 ≤ (w3.drewN nd3).heap.size) := ⟨HS0.out⟩
  clear HL HB HS0
  have HS0 := n_HS0
  clear n_HS0
  have HL := n_HL
  have HB := n_HB
  clear n_HL n_HB
  generalize w3.drewN nd3 = w4 at HL HB HS0 ⊢
  (try dsimp only)
  go_wp2_with fail
  refine (LD.blocks HL.out.ld).mono ?_
  rintro e w5 ⟨rfl, ⟨nd4, rfl⟩⟩
  rw [HN.out]
  have n_HL := Aside0.mk (HL.out.under (pw_below_drewN (Below.refl _ _) nd4))
  have n_HB := Aside0.mk (pw_below_drewN HB.out nd4)
  have n_HS0 : Aside0 (b0 ≤ (w4.drewN nd4).heap.size) := ⟨HS0.out⟩
  clear HL HB HS0
  have HS0 := n_HS0
  clear n_HS0
  have HL := n_HL
  have HB := n_HB
  clear n_HL n_HB
  generalize w4.drewN nd4 = w5 at HL HB HS0 ⊢
  (try dsimp only)
  go_wp2_with fail
  refine (LD.size HL.out.ld).mono ?_
  rintro e w6 ⟨rfl, ⟨nd5, rfl⟩⟩
  have n_HL := Aside0.mk (HL.out.under (pw_below_drewN (Below.refl _ _) nd5))
  have n_HB := Aside0.mk (pw_below_drewN HB.out nd5)
  have n_HS0 : Aside0 (b0 ≤ (w5.drewN nd5).heap.size) := ⟨HS0.out⟩
  clear HL HB HS0
  have HS0 := n_HS0
  clear n_HS0
  have HL := n_HL
  have HB := n_HB
  clear n_HL n_HB
  generalize w5.drewN nd5 = w6 at HL HB HS0 ⊢
  (try dsimp only)
  go_wp2_with fail
  skip
  · rename_i h
    refine absurd h (Int.not_lt.2 ?_)
    have e1 : (4 + (r1 : Int) - 1) / 2 * (256 + (r2 : Int) - 64) = (((3 + r1) / 2 * (192 + r2) : Nat) : Int) := by
      rw [show 4 + (r1 : Int) - 1 = ((3 + r1 : Nat) : Int) by omega, show 256 + (r2 : Int) - 64 = ((192 + r2 : Nat) : Int) by omega]
      rfl
    rw [e1, wrapN _ (by have := HM.out; omega)]
    have := HM.out
    omega
  rename_i h_ K_ a_
  clear h_
  have hrmle := HM.out.2.2
  go_loopg [10, 14, 15] n2 (fun kq v10 v14 v15 w' => ∃ (i lb n c : Nat) (A : Option Addr) (all l : List (List Int)), v10 = .pointer (some ⟨lb, 0, none⟩) ∧ v14 = .slice A n c ∧ v15 = .int .i64 (i : Int) ∧ Aside0 (kq + i = n2) ∧ Aside0 (all.length = n ∧ n ≤ i) ∧ Aside0 (LO w' base g q (256 + r2) hs (-1) 0 false lb l (n : Int) (i : Int)) ∧ Aside0 (RW w' b0 (.slice A n c) all) ∧ Aside0 (EL all l (n : Int)) ∧ Aside0 (Below w.heap.size w w') ∧ Aside0 (b0 ≤ w'.heap.size))
  case atStart => exact ⟨0, lb, 0, 0, none, [], [], rfl, rfl, rfl, ⟨rfl⟩, ⟨rfl, Nat.le_refl _⟩, ⟨HL.out⟩, ⟨RW.nil _ _⟩, ⟨EL.nil⟩, ⟨HB.out⟩, ⟨HS0.out⟩⟩
  case round =>
    clear HL HB HS0
    obtain ⟨i, lb, n, c, A, all, l, rfl, rfl, rfl, HK, HAL, HL, HR, HE, HB, HS0⟩ := hrel
    by_cases c6 : i < n2
    · have c6b : decide ((i : Int) < (n2 : Int)) = true := decide_eq_true (by omega)
      have c6c : decide (i < n2) = true := decide_eq_true c6
      have q1 : (i < n2) = True := eq_true c6
      have q2 : ((i : Int) < (n2 : Int)) = True := eq_true (by omega)
      have H6 := Aside0.mk (show i < n2 ∧ i ≤ 40 by have := NL.out; omega)
      clear c6
      obtain ⟨ad2, e2, hx2⟩ := Kd.at_int (Kd.C_below HR2.out HB.out) (i : Int) (by omega) (by have := H6.out; have := HN2.out; omega)
      subst e2
      obtain ⟨x, hx⟩ : ∃ x : Nat, rd l2 (i : Int) = (x : Int) ∧ x ≤ 65535 := by
        have hlt : i < l2.length := by have := H6.out; have := HN2.out; omega
        have hm : rd l2 (i : Int) ∈ l2 := by
          unfold rd
          rw [Int.toNat_natCast, List.getD_eq_getElem?_getD, List.getElem?_eq_getElem hlt]
          exact List.getElem_mem _
        have := HW2.out _ hm
        exact ⟨(rd l2 (i : Int)).toNat, by omega, by omega⟩
      rw [hx.1, Int.toNat_natCast] at hx2
      have hx3 := hx.2
      clear hx
      (try dsimp only)
      go_wp2_with fail
      have em : (x : Int) % ((rm : Int) + 3) = ((x % (rm + 3) : Nat) : Int) := by push_cast; rfl
      rw [em]
      clear em
      obtain ⟨m, hm⟩ : ∃ m, m = x % (rm + 3) := ⟨_, rfl⟩
      have HMM := Aside0.mk (show m < rm + 3 by rw [hm]; exact Nat.mod_lt _ (by omega))
      rw [← hm]
      clear hm hx3 hx2
      refine (record.some_ (i : Int) m (by have := HMM.out; omega) wr).mono ?_
      rintro e w7 ⟨c7, rfl, hc7, hge7, hb⟩
      have HC7 := Aside0.mk hc7
      have HNE := Aside0.mk (HL.out.above hge7)
      have n_HS0 := Aside0.mk (Nat.le_trans HS0.out (below_size hb))
      clear HS0 hc7 hge7
      have HS0 := n_HS0
      clear n_HS0
      have n_HL := Aside0.mk (HL.out.under hb)
      have n_HR := Aside0.mk (HR.out.under hb)
      have n_HB := Aside0.mk (below_step HB.out hb)
      clear HL HR HB
      have HL := n_HL
      have HR := n_HR
      have HB := n_HB
      clear n_HL n_HR n_HB
      clear hb
      (try dsimp only)
      go_wp2_with fail
      by_cases k7 : rm < m
      · have c7a : decide ((rm : Int) < (m : Int)) = true := decide_eq_true (by omega)
        have c7b : decide (rm < m) = true := decide_eq_true k7
        have q3 : (rm < m) = True := eq_true k7
        have q4 : ((rm : Int) < (m : Int)) = True := eq_true (by omega)
        refine (HL.out.append_long (some ⟨c7, 0, none⟩) m m (by rw [← HRM.out]; exact k7)).mono ?_
        rintro e w8 ⟨rfl, hb⟩
        have n_HS0 := Aside0.mk (Nat.le_trans HS0.out (below_size hb))
        clear HS0
        have HS0 := n_HS0
        clear n_HS0 HC7 HNE
        have n_HL := Aside0.mk (HL.out.under hb)
        have n_HR := Aside0.mk (HR.out.under hb)
        have n_HB := Aside0.mk (below_step HB.out hb)
        clear HL HR HB
        have HL := n_HL
        have HR := n_HR
        have HB := n_HB
        clear n_HL n_HR n_HB
        clear hb
        (try dsimp only)
        go_wp2
        have w7_ : wrap64 ((i : Int) + 1) = ((i + 1 : Nat) : Int) := by unfold wrap64; have := H6.out; omega
        go_roundg (gk - 1)
        case measure => have := HK.out; have := H6.out; omega
        case rel => exact ⟨i + 1, lb, n, c, A, all, l, rfl, rfl, by first | rfl | (simp [w7_]; done) | (simp only [w7_]; rfl), ⟨by have := HK.out; have := H6.out; omega⟩, ⟨HAL.out.1, by have := HAL.out; omega⟩, ⟨HL.out.mono (by omega)⟩, ⟨HR.out⟩, ⟨HE.out⟩, ⟨HB.out⟩, ⟨HS0.out⟩⟩
      · have c7a : decide ((rm : Int) < (m : Int)) = false := decide_eq_false (by omega)
        have c7b : decide (rm < m) = false := decide_eq_false k7
        have q3 : (rm < m) = False := eq_false k7
        have q4 : ((rm : Int) < (m : Int)) = False := eq_false (by omega)
        have H7 := Aside0.mk k7
        clear k7
        refine (LO.append_ HL.out c7 (rcd (i : Int) m) (rcd_length _ _) HC7.out HNE.out (rcd_isB _ _) (by rw [← HRM.out]; have := H7.out; omega) (Or.inr ⟨by decide, by have := H6.out; omega⟩) (by have := H6.out; have := HAL.out; omega) 0 ⟨rfl, by omega⟩ (by decide)).mono ?_
        rintro e w8 ⟨hf, cut', hc1, hc2, hcase⟩
        obtain rfl := hc1 (by decide)
        rcases hcase with ⟨rfl, hl⟩ | ⟨hc, _⟩
        rotate_left
        · exact absurd hc (by decide)
        have n_HS0 := Aside0.mk (Nat.le_trans HS0.out hf.size)
        have n_HR := Aside0.mk (RW.df HL.out HB0.out.2.1 HR.out hf)
        have n_HB : Aside0 (Below w.heap.size w w8) := ⟨hf.below HB.out (below_size HB.out) (fun k hk => Nat.le_trans HBS.out (HL.out.own hk))⟩
        have n_HE := Aside0.mk (HE.out.good (rcd_isB (i : Int) m))
        clear HL HR HB HS0 HE hc1 hc2 HC7 HNE hf
        have HL := Aside0.mk hl
        have HS0 := n_HS0
        have HR := n_HR
        have HB := n_HB
        have HE := n_HE
        clear n_HS0 n_HR n_HB n_HE hl
        obtain ⟨lt, hlt⟩ : ∃ lt, lt = l.take 1 := ⟨_, rfl⟩
        rw [← hlt] at HL HE
        clear hlt
        (try dsimp only)
        go_wp2_with fail
        refine (record.some_ (i : Int) m (by have := HMM.out; omega) w8).mono ?_
        rintro e w9 ⟨c9, rfl, hc9, hge9, hb⟩
        have HU : Aside0 (w9.ownsRow b0 5 1 (.slice (some ⟨c9, 0, none⟩) m m) (rcd (i : Int) m).length (nums .u8 (rcd (i : Int) m))) := ⟨by
          have h := blk_own hc9 (Nat.le_trans HS0.out hge9) (by rw [rcd_length]; have := HMM.out; omega)
          rw [rcd_length] at h ⊢
          exact h⟩
        have n_HS0 := Aside0.mk (Nat.le_trans HS0.out (below_size hb))
        clear HS0 hc9 hge9
        have HS0 := n_HS0
        clear n_HS0
        have n_HL := Aside0.mk (HL.out.under hb)
        have n_HR := Aside0.mk (HR.out.under hb)
        have n_HB := Aside0.mk (below_step HB.out hb)
        clear HL HR HB
        have HL := n_HL
        have HR := n_HR
        have HB := n_HB
        clear n_HL n_HR n_HB
        clear hb
        obtain ⟨us, hus, hrow, heach⟩ := HR.out.it
        have HROW := Aside0.mk hrow
        have HEACH := Aside0.mk heach
        have HUS := Aside0.mk (show us.length = n by rw [hus]; exact HAL.out.1)
        clear hrow heach hus HR
        (try dsimp only)
        go_upto_region 24 with (((refine print_append (w0 := w9) b0 rfl (.tmp 96) (.tmp 100) 33 22 (.slice none 0 0) 24 rfl Tryd.underlying33 info22 rfl (by decide) (.slice A n c) us (.slice (some ⟨c9, 0, none⟩) m m) rfl rfl rfl HROW.out (Below.refl _ _) HS0.out (by have := HUS.out; have := HAL.out; have := H6.out; omega) ?_; intro v1 w4 hown hb1 hgr hat; obtain ⟨A1, c1, rfl⟩ := own_slice hown)))
        have hlen : (us ++ [Value.slice (some ⟨c9, 0, none⟩) m m]).length = n + 1 := by rw [List.length_append, List.length_singleton, HUS.out]
        have HR := Aside0.mk (RW.push (all := all) (HUS.out.trans HAL.out.1.symm) HROW.out HEACH.out HU.out hgr hown)
        have n_HL : Aside0 (LO w4 base g q (256 + r2) hs (-1) 0 false lb (rcd (i : Int) m :: lt) ((n + 1 : Nat) : Int) ((i + 1 : Nat) : Int)) := ⟨HL.out.grown HROW.out hgr HB0.out.1⟩
        have n_HB := Aside0.mk (below_grown HB.out hgr (fun k hk => Nat.le_trans HB0.out.2.2 (own_base HROW.out hk)))
        have n_HS0 := Aside0.mk (Nat.le_trans HS0.out hgr.size)
        have n_HE : Aside0 (EL (all ++ [rcd (i : Int) m]) (rcd (i : Int) m :: lt) ((n + 1 : Nat) : Int)) := ⟨HE.out⟩
        rw [hlen] at HR
        rw [HUS.out]
        have HN1 := Aside0.mk (show (all ++ [rcd (i : Int) m]).length = n + 1 by rw [List.length_append, List.length_singleton, HAL.out.1])
        clear HL HB HS0 HROW HEACH HU HUS hown hb1 hgr hat hlen HE
        have HL := n_HL
        have HB := n_HB
        have HS0 := n_HS0
        have HE := n_HE
        clear n_HL n_HB n_HS0 n_HE
        have HI := Aside0.mk (show n + 1 ≤ i + 1 by have := HAL.out; omega)
        obtain ⟨n', hn'⟩ : ∃ n', n' = n + 1 := ⟨_, rfl⟩
        rw [← hn'] at HL HE HR HN1 HI ⊢
        have HNP := Aside0.mk (show 0 < n' ∧ n' ≤ 41 by have := HI.out; have := H6.out; omega)
        clear hn' HAL
        obtain ⟨all', hall'⟩ : ∃ all', all' = all ++ [rcd (i : Int) m] := ⟨_, rfl⟩
        rw [← hall'] at HE HR HN1
        clear hall'
        obtain ⟨l', hl'⟩ : ∃ l', l' = rcd (i : Int) m :: lt := ⟨_, rfl⟩
        rw [← hl'] at HE HL
        clear hl'
        obtain ⟨ad, uA, uc, e1, hx, hxc, hxk⟩ := RW.last HR.out HN1.out (by have := HNP.out; omega) HNP.out.1
        subst e1
        have hlast : all'.getD (n' - 1) [] = l'.headD [] := by
          have h := HE.out.last (by rw [HN1.out]; exact HNP.out.1)
          rw [HN1.out] at h
          exact h
        rw [hlast] at hx hxc hxk
        obtain ⟨d, hd⟩ : ∃ d, d = l'.headD [] := ⟨_, rfl⟩
        rw [← hd] at hx hxc hxk
        have HDE := Aside0.mk hd
        have HDB : Aside0 (IsB d) := ⟨by
          rw [hd, ← hlast, List.getD_eq_getElem?_getD]
          cases hq : all'[n' - 1]? with
          | none => exact fun x hx => by cases hx
          | some y => exact HE.out.byt y (List.mem_of_getElem? hq)⟩
        clear hd hlast
        obtain ⟨p, hp⟩ : ∃ p, p = n' - 1 := ⟨_, rfl⟩
        rw [← hp] at hx
        have P1 := Aside0.mk (show wrap64 ((n' : Int) - 1) = (p : Int) by unfold wrap64; have := HNP.out; omega)
        have pa : (p < n') = True := eq_true (by have := HNP.out; omega)
        have pb : ((p : Int) < (n' : Int)) = True := eq_true (by have := HNP.out; omega)
        clear hp
        have HC := Aside0.mk hx
        have HQ := Aside0.mk hxk
        have HQC := Aside0.mk hxc
        clear hx hxk hxc
        refine start_ (n := 17) (S := fun w' => w'.cell? (ad.add p) = some (.slice uA d.length uc)) (ds := []) #[false, false, false, false, false, false, false, false, false, false, false, false, false, false, false, false, false] (by kernel_rfl) rfl rfl HC.out (fun hHeld => ?_)
        refine with_tabW LogKeeps.R24.tab LogKeeps.R24.bits (fun HT_ HW_ => ?_)
        have hb_ := below_drew1 (Below.refl w4.heap.size w4)
        have n_HL := Aside0.mk (HL.out.under hb_)
        have n_HR := Aside0.mk (HR.out.under hb_)
        have n_HB := Aside0.mk (below_step HB.out hb_)
        have n_HC := Aside0.mk (cell_below HC.out hb_)
        have n_HQ := Aside0.mk (Kd.C_below HQ.out hb_)
        have n_HS0 := Aside0.mk (Nat.le_trans HS0.out (below_size hb_))
        clear HL HR HB HC HQ HS0
        have HL := n_HL
        have HR := n_HR
        have HB := n_HB
        have HC := n_HC
        have HQ := n_HQ
        have HS0 := n_HS0
        clear n_HL n_HR n_HB n_HC n_HQ n_HS0 hb_
        generalize w4.drew = w4 at HL HR HB HC HQ HS0 hHeld ⊢
        refine pure_ (i := 0) (N := some 102) (v := ?_) (a' := ?_) #[true, false, false, false, false, false, false, false, false, false, false, false, false, false, false, false, false] rfl rfl (any_of HT_.out (by kernel_rfl)) (fun _ _ _ h => h) (Or.inl ⟨by rfl, ?_⟩) ?_ ?_
        rotate_left
        · intro w'
          go_simp
          with_reducible rfl
        rotate_left
        · simp only [Act.put, List.setIfInBounds_toArray, List.set_cons_zero, List.set_cons_succ, i64_w, i32_w]
          rfl
        refine pure_ (i := 2) (N := some 104) (v := ?_) (a' := ?_) #[true, false, true, false, false, false, false, false, false, false, false, false, false, false, false, false, false] rfl rfl (any_of HT_.out (by kernel_rfl)) (fun _ _ _ h => h) (Or.inl ⟨by rfl, ?_⟩) ?_ ?_
        rotate_left
        · intro w'
          go_simp
          with_reducible rfl
        rotate_left
        · simp only [Act.put, List.setIfInBounds_toArray, List.set_cons_zero, List.set_cons_succ, i64_w, i32_w]
          rfl
        refine pure_ (i := 3) (N := some 105) (v := ?_) (a' := ?_) #[true, false, true, true, false, false, false, false, false, false, false, false, false, false, false, false, false] rfl rfl (any_of HT_.out (by kernel_rfl)) (fun _ _ _ h => h) (Or.inl ⟨by rfl, ?_⟩) ?_ ?_
        rotate_left
        · intro w'
          go_simp
          with_reducible rfl
        rotate_left
        · simp only [Act.put, List.setIfInBounds_toArray, List.set_cons_zero, List.set_cons_succ, i64_w, i32_w]
          rfl
        refine one_ (i := 1) (N := some 103) #[true, true, true, true, false, false, false, false, false, false, false, false, false, false, false, false, false] rfl rfl (one_of HT_.out (by kernel_rfl)) (by decide) (fun K hK => ?_)
        refine goes_ Tryd.func21 (by kernel_rfl) rfl #[.pointer (some ⟨lb, 0, none⟩)] (by rfl) rfl rfl (by first | rfl | (go_simp; done)) ?_
        refine (LO.records HL.out (by have := HNP.out; omega)).mono ?_
        rintro e w5 ⟨rfl, hb⟩
        refine ⟨_, rfl, ?_⟩
        have hb_ := hb
        have n_HL := Aside0.mk (HL.out.under hb_)
        have n_HR := Aside0.mk (HR.out.under hb_)
        have n_HB := Aside0.mk (below_step HB.out hb_)
        have n_HC := Aside0.mk (cell_below HC.out hb_)
        have n_HQ := Aside0.mk (Kd.C_below HQ.out hb_)
        have n_HS0 := Aside0.mk (Nat.le_trans HS0.out (below_size hb_))
        clear HL HR HB HC HQ HS0
        have HL := n_HL
        have HR := n_HR
        have HB := n_HB
        have HC := n_HC
        have HQ := n_HQ
        have HS0 := n_HS0
        clear n_HL n_HR n_HB n_HC n_HQ n_HS0 hb_
        clear hb
        refine hK.out _ _ HC.out (fun hHeld => ?_)
        clear hK K
        refine norm_ (a' := ?_) ?_ ?_
        rotate_left
        · show Act.put _ (some 103) _ = _
          simp only [Act.put, List.setIfInBounds_toArray, List.set_cons_zero, List.set_cons_succ, i64_w, i32_w]
          rfl
        refine pure_ (i := 4) (N := some 106) (v := ?_) (a' := ?_) #[true, true, true, true, true, false, false, false, false, false, false, false, false, false, false, false, false] rfl rfl (any_of HT_.out (by kernel_rfl)) (fun _ _ _ h => h) (Or.inl ⟨by rfl, ?_⟩) ?_ ?_
        rotate_left
        · intro w'
          go_simp
          with_reducible rfl
        rotate_left
        · simp only [Act.put, List.setIfInBounds_toArray, List.set_cons_zero, List.set_cons_succ, i64_w, i32_w]
          rfl
        refine pure_ (i := 5) (N := some 107) (v := ?_) (a' := ?_) #[true, true, true, true, true, true, false, false, false, false, false, false, false, false, false, false, false] rfl rfl (any_of HT_.out (by kernel_rfl)) (fun _ _ _ h => h) (Or.inl ⟨by rfl, ?_⟩) ?_ ?_
        rotate_left
        · intro w'
          go_simp
          with_reducible rfl
        rotate_left
        · simp only [Act.put, List.setIfInBounds_toArray, List.set_cons_zero, List.set_cons_succ, i64_w, i32_w]
          rfl
        refine pure_ (i := 6) (N := some 108) (v := ?_) (a' := ?_) #[true, true, true, true, true, true, true, false, false, false, false, false, false, false, false, false, false] rfl rfl (any_of HT_.out (by kernel_rfl)) (fun _ _ _ h => h) (Or.inl ⟨by rfl, ?_⟩) ?_ ?_
        rotate_left
        · intro w'
          go_simp
          with_reducible rfl
        rotate_left
        · simp only [Act.put, List.setIfInBounds_toArray, List.set_cons_zero, List.set_cons_succ, i64_w, i32_w]
          rfl
        refine pure_ (i := 8) (N := some 110) (v := ?_) (a' := ?_) #[true, true, true, true, true, true, true, false, true, false, false, false, false, false, false, false, false] rfl rfl (any_of HT_.out (by kernel_rfl)) (fun _ _ _ h => h) (Or.inl ⟨by rfl, ?_⟩) ?_ ?_
        rotate_left
        · intro w'
          go_simp
          with_reducible rfl
        rotate_left
        · simp only [Act.put, List.setIfInBounds_toArray, List.set_cons_zero, List.set_cons_succ, i64_w, i32_w]
          rfl
        refine pure_ (i := 9) (N := some 111) (v := ?_) (a' := ?_) #[true, true, true, true, true, true, true, false, true, true, false, false, false, false, false, false, false] rfl rfl (any_of HT_.out (by kernel_rfl)) (fun _ _ _ h => h) (Or.inl ⟨by rfl, ?_⟩) ?_ ?_
        rotate_left
        · intro w'
          go_simp
          with_reducible rfl
        rotate_left
        · simp only [Act.put, List.setIfInBounds_toArray, List.set_cons_zero, List.set_cons_succ, i64_w, i32_w]
          rfl
        refine pure_ (i := 10) (N := some 112) (v := ?_) (a' := ?_) #[true, true, true, true, true, true, true, false, true, true, true, false, false, false, false, false, false] rfl rfl (any_of HT_.out (by kernel_rfl)) (fun _ _ _ h => h) (Or.inl ⟨by rfl, ?_⟩) ?_ ?_
        rotate_left
        · intro w'
          go_simp
          with_reducible rfl
        rotate_left
        · simp only [Act.put, List.setIfInBounds_toArray, List.set_cons_zero, List.set_cons_succ, i64_w, i32_w]
          rfl
        refine pure_ (i := 11) (N := some 113) (v := ?_) (a' := ?_) #[true, true, true, true, true, true, true, false, true, true, true, true, false, false, false, false, false] rfl rfl (any_of HT_.out (by kernel_rfl)) (fun _ _ _ h => h) (Or.inl ⟨by rfl, ?_⟩) ?_ ?_
        rotate_left
        · intro w'
          have x_ := P1.out
          go_simp
          with_reducible rfl
        rotate_left
        · simp only [Act.put, List.setIfInBounds_toArray, List.set_cons_zero, List.set_cons_succ, i64_w, i32_w]
          rfl
        refine pure_ (i := 12) (N := some 114) (v := ?_) (a' := ?_) #[true, true, true, true, true, true, true, false, true, true, true, true, true, false, false, false, false] rfl rfl (any_of HT_.out (by kernel_rfl)) (fun _ _ _ h => h) (Or.inl ⟨by rfl, ?_⟩) ?_ ?_
        rotate_left
        · intro w'
          have x_ := P1.out
          go_simp
          with_reducible rfl
        rotate_left
        · simp only [Act.put, List.setIfInBounds_toArray, List.set_cons_zero, List.set_cons_succ, i64_w, i32_w]
          rfl
        refine take_ (i := 13) (N := some 115) (v := ?_) (a' := ?_) #[true, true, true, true, true, true, true, false, true, true, true, true, true, true, false, false, false] rfl rfl (take_ofW HT_.out HW_.out (by kernel_rfl)) (fun _ _ _ h => h) (Or.inl ⟨by rfl, ?_⟩) hHeld ?_ ?_
        rotate_left
        · intro w' s0
          go_simp
          with_reducible rfl
        rotate_left
        · simp only [Act.put, List.setIfInBounds_toArray, List.set_cons_zero, List.set_cons_succ, i64_w, i32_w]
          rfl
        refine one_ (i := 7) (N := some 109) #[true, true, true, true, true, true, true, true, true, true, true, true, true, true, false, false, false] rfl rfl (one_of HT_.out (by kernel_rfl)) (by decide) (fun K hK => ?_)
        refine goes_ Tryd.func23 (by kernel_rfl) rfl #[.pointer (some ⟨lb, 0, none⟩)] (by rfl) rfl rfl (by first | rfl | (go_simp; done)) ?_
        refine (LO.last HL.out).mono ?_
        rintro e w5 ⟨v_, rfl, ho, hb⟩
        refine ⟨_, rfl, ?_⟩
        obtain ⟨lA, lc, rfl, hlc, hlk⟩ := kdInt ho
        rw [← HDE.out] at hlc hlk ⊢
        have HLK := Aside0.mk hlk
        have HLC := Aside0.mk hlc
        clear hlk hlc ho
        have hb_ := hb
        have n_HL := Aside0.mk (HL.out.under hb_)
        have n_HR := Aside0.mk (HR.out.under hb_)
        have n_HB := Aside0.mk (below_step HB.out hb_)
        have n_HC := Aside0.mk (cell_below HC.out hb_)
        have n_HQ := Aside0.mk (Kd.C_below HQ.out hb_)
        have n_HS0 := Aside0.mk (Nat.le_trans HS0.out (below_size hb_))
        clear HL HR HB HC HQ HS0
        have HL := n_HL
        have HR := n_HR
        have HB := n_HB
        have HC := n_HC
        have HQ := n_HQ
        have HS0 := n_HS0
        clear n_HL n_HR n_HB n_HC n_HQ n_HS0 hb_
        clear hb
        refine hK.out _ _ HC.out (fun hHeld => ?_)
        clear hK K
        refine norm_ (a' := ?_) ?_ ?_
        rotate_left
        · show Act.put _ (some 109) _ = _
          simp only [Act.put, List.setIfInBounds_toArray, List.set_cons_zero, List.set_cons_succ, i64_w, i32_w]
          rfl
        refine one_ (i := 14) (N := some 116) #[true, true, true, true, true, true, true, true, true, true, true, true, true, true, true, false, false] rfl rfl (one_of HT_.out (by kernel_rfl)) (by decide) (fun K hK => ?_)
        refine goes_ Tryd.func22 (by kernel_rfl) rfl #[.slice lA d.length lc, .slice uA d.length uc] (by rfl) rfl rfl (by first | rfl | (go_simp; done)) ?_
        refine (bytes_calls HLK.out HLC.out HQ.out HQC.out HDB.out HDB.out).mono ?_
        rintro e w_ ⟨rfl, ⟨nd6, rfl⟩⟩
        rw [decide_eq_true (rfl : d = d)]
        refine ⟨_, rfl, ?_⟩
        have hb := pw_below_drewN (Below.refl w5.heap.size w5) nd6
        clear HLK
        have hb_ := hb
        have n_HL := Aside0.mk (HL.out.under hb_)
        have n_HR := Aside0.mk (HR.out.under hb_)
        have n_HB := Aside0.mk (below_step HB.out hb_)
        have n_HC := Aside0.mk (cell_below HC.out hb_)
        have n_HQ := Aside0.mk (Kd.C_below HQ.out hb_)
        have n_HS0 := Aside0.mk (Nat.le_trans HS0.out (below_size hb_))
        clear HL HR HB HC HQ HS0
        have HL := n_HL
        have HR := n_HR
        have HB := n_HB
        have HC := n_HC
        have HQ := n_HQ
        have HS0 := n_HS0
        clear n_HL n_HR n_HB n_HC n_HQ n_HS0 hb_
        clear hb
        refine hK.out _ _ HC.out (fun hHeld => ?_)
        clear hK K
        refine norm_ (a' := ?_) ?_ ?_
        rotate_left
        · show Act.put _ (some 116) _ = _
          simp only [Act.put, List.setIfInBounds_toArray, List.set_cons_zero, List.set_cons_succ, i64_w, i32_w]
          rfl
        refine pure_ (i := 15) (N := some 117) (v := ?_) (a' := ?_) #[true, true, true, true, true, true, true, true, true, true, true, true, true, true, true, true, false] rfl rfl (any_of HT_.out (by kernel_rfl)) (fun _ _ _ h => h) (Or.inl ⟨by rfl, ?_⟩) ?_ ?_
        rotate_left
        · intro w'
          go_simp
          with_reducible rfl
        rotate_left
        · simp only [Act.put, List.setIfInBounds_toArray, List.set_cons_zero, List.set_cons_succ, i64_w, i32_w]
          rfl
        refine pure_ (i := 16) (N := some 118) (v := ?_) (a' := ?_) #[true, true, true, true, true, true, true, true, true, true, true, true, true, true, true, true, true] rfl rfl (any_of HT_.out (by kernel_rfl)) (fun _ _ _ h => h) (Or.inl ⟨by rfl, ?_⟩) ?_ ?_
        rotate_left
        · intro w'
          go_simp
          with_reducible rfl
        rotate_left
        · simp only [Act.put, List.setIfInBounds_toArray, List.set_cons_zero, List.set_cons_succ, i64_w, i32_w]
          rfl
        refine done_ (done_of HT_.out (by kernel_rfl)) ?_
        clear HT_ HW_ hHeld
        clear HLC
        generalize w5.drewN nd6 = w10 at HL HR HB HS0 HC HQ ⊢
        rcases Nat.lt_or_ge i n3 with k3 | k3
        · have k3a : decide ((i : Int) < (n3 : Int)) = true := decide_eq_true (by omega)
          have k3b : decide (i < n3) = true := decide_eq_true (by omega)
          have k3c : (i < n3) = True := eq_true (by omega)
          have k3d : ((i : Int) < (n3 : Int)) = True := eq_true (by omega)
          obtain ⟨ad3, e3, hx3⟩ := at_bo (Kd.C_below HR3.out HB.out) (i : Int) (by omega) (by have := HN3.out; omega)
          subst e3
          rw [Int.toNat_natCast] at hx3
          obtain ⟨b, hb⟩ : ∃ b, b = rdOf false l3 (i : Int) := ⟨_, rfl⟩
          rw [← hb] at hx3
          clear hb
          cases b with
          | false =>
            clear HC HQ HQC P1
            (try dsimp only)
            go_wp2
            have w7_ : wrap64 ((i : Int) + 1) = ((i + 1 : Nat) : Int) := by unfold wrap64; have := H6.out; omega
            go_roundg (gk - 1)
            case measure => have := HK.out; have := H6.out; omega
            case rel => exact ⟨i + 1, lb, n', c1, some ad, all', l', rfl, rfl, by first | rfl | (simp [w7_]; done) | (simp only [w7_]; rfl), ⟨by have := HK.out; have := H6.out; omega⟩, ⟨HN1.out, HI.out⟩, ⟨HL.out⟩, ⟨HR.out⟩, ⟨HE.out⟩, ⟨HB.out⟩, ⟨HS0.out⟩⟩
          | true =>
            (try dsimp only)
            go_wp2_with fail
            refine (LD.open_ HL.out.ld ge (gcell HG.out HB.out)).mono ?_
            rintro e w4 ⟨lb2, A6, oc6, rfl, hlb, hoc, hk, hl, hb⟩
            obtain ⟨r6, hr6⟩ : ∃ r6, r6 = l'.reverse.length := ⟨_, rfl⟩
            rw [← hr6] at hk hoc ⊢
            have HK6 := Aside0.mk hk
            have HKC := Aside0.mk hoc
            clear hr6 hoc hk hlb
            have hb_ := hb
            have n_HR := Aside0.mk (HR.out.under hb_)
            have n_HB := Aside0.mk (below_step HB.out hb_)
            have n_HS0 := Aside0.mk (Nat.le_trans HS0.out (below_size hb_))
            have n_HC := Aside0.mk (cell_below HC.out hb_)
            have n_HQ := Aside0.mk (Kd.C_below HQ.out hb_)
            clear HR HB HS0 HC HQ
            have HR := n_HR
            have HB := n_HB
            have HS0 := n_HS0
            have HC := n_HC
            have HQ := n_HQ
            clear n_HR n_HB n_HS0 n_HC n_HQ hb_
            clear HL hb
            have HL := Aside0.mk hl
            clear hl
            (try dsimp only)
            go_upto_region 28 with (fail)
            refine start_ (n := 31) (S := fun w' => w'.cell? (ad.add p) = some (.slice uA d.length uc)) (ds := []) #[false, false, false, false, false, false, false, false, false, false, false, false, false, false, false, false, false, false, false, false, false, false, false, false, false, false, false, false, false, false, false] (by kernel_rfl) rfl rfl HC.out (fun hHeld => ?_)
            refine with_tabW LogKeeps.R28.tab LogKeeps.R28.bits (fun HT_ HW_ => ?_)
            have hb_ := below_drew1 (Below.refl w4.heap.size w4)
            have n_HL := Aside0.mk (HL.out.under hb_)
            have n_HR := Aside0.mk (HR.out.under hb_)
            have n_HB := Aside0.mk (below_step HB.out hb_)
            have n_HC := Aside0.mk (cell_below HC.out hb_)
            have n_HQ := Aside0.mk (Kd.C_below HQ.out hb_)
            have n_HS0 := Aside0.mk (Nat.le_trans HS0.out (below_size hb_))
            have n_HK6 := Aside0.mk (Kd.C_below HK6.out hb_)
            clear HL HR HB HC HQ HS0 HK6
            have HL := n_HL
            have HR := n_HR
            have HB := n_HB
            have HC := n_HC
            have HQ := n_HQ
            have HS0 := n_HS0
            have HK6 := n_HK6
            clear n_HL n_HR n_HB n_HC n_HQ n_HS0 n_HK6 hb_
            generalize w4.drew = w4 at HL HR HB HC HQ HS0 HK6 hHeld ⊢
            refine pure_ (i := 0) (N := some 135) (v := ?_) (a' := ?_) #[true, false, false, false, false, false, false, false, false, false, false, false, false, false, false, false, false, false, false, false, false, false, false, false, false, false, false, false, false, false, false] rfl rfl (any_of HT_.out (by kernel_rfl)) (fun _ _ _ h => h) (Or.inl ⟨by rfl, ?_⟩) ?_ ?_
            rotate_left
            · intro w'
              go_simp
              with_reducible rfl
            rotate_left
            · simp only [Act.put, List.setIfInBounds_toArray, List.set_cons_zero, List.set_cons_succ, i64_w, i32_w]
              rfl
            refine pure_ (i := 1) (N := some 136) (v := ?_) (a' := ?_) #[true, true, false, false, false, false, false, false, false, false, false, false, false, false, false, false, false, false, false, false, false, false, false, false, false, false, false, false, false, false, false] rfl rfl (any_of HT_.out (by kernel_rfl)) (fun _ _ _ h => h) (Or.inl ⟨by rfl, ?_⟩) ?_ ?_
            rotate_left
            · intro w'
              go_simp
              with_reducible rfl
            rotate_left
            · simp only [Act.put, List.setIfInBounds_toArray, List.set_cons_zero, List.set_cons_succ, i64_w, i32_w]
              rfl
            refine pure_ (i := 2) (N := some 137) (v := ?_) (a' := ?_) #[true, true, true, false, false, false, false, false, false, false, false, false, false, false, false, false, false, false, false, false, false, false, false, false, false, false, false, false, false, false, false] rfl rfl (any_of HT_.out (by kernel_rfl)) (fun _ _ _ h => h) (Or.inl ⟨by rfl, ?_⟩) ?_ ?_
            rotate_left
            · intro w'
              go_simp
              with_reducible rfl
            rotate_left
            · simp only [Act.put, List.setIfInBounds_toArray, List.set_cons_zero, List.set_cons_succ, i64_w, i32_w]
              rfl
            refine pure_ (i := 3) (N := some 138) (v := ?_) (a' := ?_) #[true, true, true, true, false, false, false, false, false, false, false, false, false, false, false, false, false, false, false, false, false, false, false, false, false, false, false, false, false, false, false] rfl rfl (any_of HT_.out (by kernel_rfl)) (fun _ _ _ h => h) (Or.inl ⟨by rfl, ?_⟩) ?_ ?_
            rotate_left
            · intro w'
              go_simp
              with_reducible rfl
            rotate_left
            · simp only [Act.put, List.setIfInBounds_toArray, List.set_cons_zero, List.set_cons_succ, i64_w, i32_w]
              rfl
            refine pure_ (i := 4) (N := some 139) (v := ?_) (a' := ?_) #[true, true, true, true, true, false, false, false, false, false, false, false, false, false, false, false, false, false, false, false, false, false, false, false, false, false, false, false, false, false, false] rfl rfl (any_of HT_.out (by kernel_rfl)) (fun _ _ _ h => h) (Or.inl ⟨by rfl, ?_⟩) ?_ ?_
            rotate_left
            · intro w'
              go_simp
              with_reducible rfl
            rotate_left
            · simp only [Act.put, List.setIfInBounds_toArray, List.set_cons_zero, List.set_cons_succ, i64_w, i32_w]
              rfl
            refine pure_ (i := 5) (N := some 140) (v := ?_) (a' := ?_) #[true, true, true, true, true, true, false, false, false, false, false, false, false, false, false, false, false, false, false, false, false, false, false, false, false, false, false, false, false, false, false] rfl rfl (any_of HT_.out (by kernel_rfl)) (fun _ _ _ h => h) (Or.inl ⟨by rfl, ?_⟩) ?_ ?_
            rotate_left
            · intro w'
              go_simp
              with_reducible rfl
            rotate_left
            · simp only [Act.put, List.setIfInBounds_toArray, List.set_cons_zero, List.set_cons_succ, i64_w, i32_w]
              rfl
            refine pure_ (i := 6) (N := some 141) (v := ?_) (a' := ?_) #[true, true, true, true, true, true, true, false, false, false, false, false, false, false, false, false, false, false, false, false, false, false, false, false, false, false, false, false, false, false, false] rfl rfl (any_of HT_.out (by kernel_rfl)) (fun _ _ _ h => h) (Or.inl ⟨by rfl, ?_⟩) ?_ ?_
            rotate_left
            · intro w'
              go_simp
              with_reducible rfl
            rotate_left
            · simp only [Act.put, List.setIfInBounds_toArray, List.set_cons_zero, List.set_cons_succ, i64_w, i32_w]
              rfl
            refine pure_ (i := 7) (N := some 142) (v := ?_) (a' := ?_) #[true, true, true, true, true, true, true, true, false, false, false, false, false, false, false, false, false, false, false, false, false, false, false, false, false, false, false, false, false, false, false] rfl rfl (any_of HT_.out (by kernel_rfl)) (fun _ _ _ h => h) (Or.inl ⟨by rfl, ?_⟩) ?_ ?_
            rotate_left
            · intro w'
              go_simp
              with_reducible rfl
            rotate_left
            · simp only [Act.put, List.setIfInBounds_toArray, List.set_cons_zero, List.set_cons_succ, i64_w, i32_w]
              rfl
            refine pure_ (i := 8) (N := some 143) (v := ?_) (a' := ?_) #[true, true, true, true, true, true, true, true, true, false, false, false, false, false, false, false, false, false, false, false, false, false, false, false, false, false, false, false, false, false, false] rfl rfl (any_of HT_.out (by kernel_rfl)) (fun _ _ _ h => h) (Or.inl ⟨by rfl, ?_⟩) ?_ ?_
            rotate_left
            · intro w'
              go_simp
              with_reducible rfl
            rotate_left
            · simp only [Act.put, List.setIfInBounds_toArray, List.set_cons_zero, List.set_cons_succ, i64_w, i32_w]
              rfl
            refine one_ (i := 9) (N := some 144) #[true, true, true, true, true, true, true, true, true, true, false, false, false, false, false, false, false, false, false, false, false, false, false, false, false, false, false, false, false, false, false] rfl rfl (one_of HT_.out (by kernel_rfl)) (by decide) (fun K hK => ?_)
            refine goes_ Tryd.func24 (by kernel_rfl) rfl #[.slice A6 r6 oc6, .slice (some ad) n' c1] (by rfl) rfl rfl (by first | rfl | (go_simp; done)) ?_
            refine (ends_calls HK6.out HKC.out (HR.out.kd HN1.out (by have := HNP.out; omega)).1 (HR.out.kd HN1.out (by have := HNP.out; omega)).2 HE.out.bytl HE.out.byt (by have := HNP.out; have := HE.out.len; have := HN1.out; have := HK6.out.1; rw [List.length_reverse] at this; omega)).mono ?_
            rintro e w_ ⟨rfl, ⟨nd7, rfl⟩⟩
            rw [HE.out.ends]
            refine ⟨_, rfl, ?_⟩
            have hb := pw_below_drewN (Below.refl w4.heap.size w4) nd7
            have hb_ := hb
            have n_HL := Aside0.mk (HL.out.under hb_)
            have n_HR := Aside0.mk (HR.out.under hb_)
            have n_HB := Aside0.mk (below_step HB.out hb_)
            have n_HC := Aside0.mk (cell_below HC.out hb_)
            have n_HQ := Aside0.mk (Kd.C_below HQ.out hb_)
            have n_HS0 := Aside0.mk (Nat.le_trans HS0.out (below_size hb_))
            have n_HK6 := Aside0.mk (Kd.C_below HK6.out hb_)
            clear HL HR HB HC HQ HS0 HK6
            have HL := n_HL
            have HR := n_HR
            have HB := n_HB
            have HC := n_HC
            have HQ := n_HQ
            have HS0 := n_HS0
            have HK6 := n_HK6
            clear n_HL n_HR n_HB n_HC n_HQ n_HS0 n_HK6 hb_
            clear hb
            refine hK.out _ _ HC.out (fun hHeld => ?_)
            clear hK K
            refine norm_ (a' := ?_) ?_ ?_
            rotate_left
            · show Act.put _ (some 144) _ = _
              simp only [Act.put, List.setIfInBounds_toArray, List.set_cons_zero, List.set_cons_succ, i64_w, i32_w]
              rfl
            refine pure_ (i := 10) (N := some 145) (v := ?_) (a' := ?_) #[true, true, true, true, true, true, true, true, true, true, true, false, false, false, false, false, false, false, false, false, false, false, false, false, false, false, false, false, false, false, false] rfl rfl (any_of HT_.out (by kernel_rfl)) (fun _ _ _ h => h) (Or.inl ⟨by rfl, ?_⟩) ?_ ?_
            rotate_left
            · intro w'
              go_simp
              with_reducible rfl
            rotate_left
            · simp only [Act.put, List.setIfInBounds_toArray, List.set_cons_zero, List.set_cons_succ, i64_w, i32_w]
              rfl
            refine pure_ (i := 11) (N := some 146) (v := ?_) (a' := ?_) #[true, true, true, true, true, true, true, true, true, true, true, true, false, false, false, false, false, false, false, false, false, false, false, false, false, false, false, false, false, false, false] rfl rfl (any_of HT_.out (by kernel_rfl)) (fun _ _ _ h => h) (Or.inl ⟨by rfl, ?_⟩) ?_ ?_
            rotate_left
            · intro w'
              go_simp
              with_reducible rfl
            rotate_left
            · simp only [Act.put, List.setIfInBounds_toArray, List.set_cons_zero, List.set_cons_succ, i64_w, i32_w]
              rfl
            refine pure_ (i := 12) (N := some 147) (v := ?_) (a' := ?_) #[true, true, true, true, true, true, true, true, true, true, true, true, true, false, false, false, false, false, false, false, false, false, false, false, false, false, false, false, false, false, false] rfl rfl (any_of HT_.out (by kernel_rfl)) (fun _ _ _ h => h) (Or.inl ⟨by rfl, ?_⟩) ?_ ?_
            rotate_left
            · intro w'
              go_simp
              with_reducible rfl
            rotate_left
            · simp only [Act.put, List.setIfInBounds_toArray, List.set_cons_zero, List.set_cons_succ, i64_w, i32_w]
              rfl
            refine pure_ (i := 13) (N := some 148) (v := ?_) (a' := ?_) #[true, true, true, true, true, true, true, true, true, true, true, true, true, true, false, false, false, false, false, false, false, false, false, false, false, false, false, false, false, false, false] rfl rfl (any_of HT_.out (by kernel_rfl)) (fun _ _ _ h => h) (Or.inl ⟨by rfl, ?_⟩) ?_ ?_
            rotate_left
            · intro w'
              go_simp
              with_reducible rfl
            rotate_left
            · simp only [Act.put, List.setIfInBounds_toArray, List.set_cons_zero, List.set_cons_succ, i64_w, i32_w]
              rfl
            refine pure_ (i := 15) (N := some 150) (v := ?_) (a' := ?_) #[true, true, true, true, true, true, true, true, true, true, true, true, true, true, false, true, false, false, false, false, false, false, false, false, false, false, false, false, false, false, false] rfl rfl (any_of HT_.out (by kernel_rfl)) (fun _ _ _ h => h) (Or.inl ⟨by rfl, ?_⟩) ?_ ?_
            rotate_left
            · intro w'
              go_simp
              with_reducible rfl
            rotate_left
            · simp only [Act.put, List.setIfInBounds_toArray, List.set_cons_zero, List.set_cons_succ, i64_w, i32_w]
              rfl
            refine pure_ (i := 16) (N := some 151) (v := ?_) (a' := ?_) #[true, true, true, true, true, true, true, true, true, true, true, true, true, true, false, true, true, false, false, false, false, false, false, false, false, false, false, false, false, false, false] rfl rfl (any_of HT_.out (by kernel_rfl)) (fun _ _ _ h => h) (Or.inl ⟨by rfl, ?_⟩) ?_ ?_
            rotate_left
            · intro w'
              go_simp
              with_reducible rfl
            rotate_left
            · simp only [Act.put, List.setIfInBounds_toArray, List.set_cons_zero, List.set_cons_succ, i64_w, i32_w]
              rfl
            refine one_ (i := 14) (N := some 149) #[true, true, true, true, true, true, true, true, true, true, true, true, true, true, true, true, true, false, false, false, false, false, false, false, false, false, false, false, false, false, false] rfl rfl (one_of HT_.out (by kernel_rfl)) (by decide) (fun K hK => ?_)
            refine goes_ Tryd.func21 (by kernel_rfl) rfl #[.pointer (some ⟨lb2, 0, none⟩)] (by rfl) rfl rfl (by first | rfl | (go_simp; done)) ?_
            refine (LO.records HL.out (by have := HNP.out; omega)).mono ?_
            rintro e w5 ⟨rfl, hb⟩
            refine ⟨_, rfl, ?_⟩
            have hb_ := hb
            have n_HL := Aside0.mk (HL.out.under hb_)
            have n_HR := Aside0.mk (HR.out.under hb_)
            have n_HB := Aside0.mk (below_step HB.out hb_)
            have n_HC := Aside0.mk (cell_below HC.out hb_)
            have n_HQ := Aside0.mk (Kd.C_below HQ.out hb_)
            have n_HS0 := Aside0.mk (Nat.le_trans HS0.out (below_size hb_))
            have n_HK6 := Aside0.mk (Kd.C_below HK6.out hb_)
            clear HL HR HB HC HQ HS0 HK6
            have HL := n_HL
            have HR := n_HR
            have HB := n_HB
            have HC := n_HC
            have HQ := n_HQ
            have HS0 := n_HS0
            have HK6 := n_HK6
            clear n_HL n_HR n_HB n_HC n_HQ n_HS0 n_HK6 hb_
            clear hb
            refine hK.out _ _ HC.out (fun hHeld => ?_)
            clear hK K
            refine norm_ (a' := ?_) ?_ ?_
            rotate_left
            · show Act.put _ (some 149) _ = _
              simp only [Act.put, List.setIfInBounds_toArray, List.set_cons_zero, List.set_cons_succ, i64_w, i32_w]
              rfl
            refine pure_ (i := 17) (N := some 152) (v := ?_) (a' := ?_) #[true, true, true, true, true, true, true, true, true, true, true, true, true, true, true, true, true, true, false, false, false, false, false, false, false, false, false, false, false, false, false] rfl rfl (any_of HT_.out (by kernel_rfl)) (fun _ _ _ h => h) (Or.inl ⟨by rfl, ?_⟩) ?_ ?_
            rotate_left
            · intro w'
              go_simp
              with_reducible rfl
            rotate_left
            · simp only [Act.put, List.setIfInBounds_toArray, List.set_cons_zero, List.set_cons_succ, i64_w, i32_w]
              rfl
            refine pure_ (i := 18) (N := some 153) (v := ?_) (a' := ?_) #[true, true, true, true, true, true, true, true, true, true, true, true, true, true, true, true, true, true, true, false, false, false, false, false, false, false, false, false, false, false, false] rfl rfl (any_of HT_.out (by kernel_rfl)) (fun _ _ _ h => h) (Or.inl ⟨by rfl, ?_⟩) ?_ ?_
            rotate_left
            · intro w'
              go_simp
              with_reducible rfl
            rotate_left
            · simp only [Act.put, List.setIfInBounds_toArray, List.set_cons_zero, List.set_cons_succ, i64_w, i32_w]
              rfl
            refine pure_ (i := 19) (N := some 154) (v := ?_) (a' := ?_) #[true, true, true, true, true, true, true, true, true, true, true, true, true, true, true, true, true, true, true, true, false, false, false, false, false, false, false, false, false, false, false] rfl rfl (any_of HT_.out (by kernel_rfl)) (fun _ _ _ h => h) (Or.inl ⟨by rfl, ?_⟩) ?_ ?_
            rotate_left
            · intro w'
              go_simp
              with_reducible rfl
            rotate_left
            · simp only [Act.put, List.setIfInBounds_toArray, List.set_cons_zero, List.set_cons_succ, i64_w, i32_w]
              rfl
            refine pure_ (i := 20) (N := some 155) (v := ?_) (a' := ?_) #[true, true, true, true, true, true, true, true, true, true, true, true, true, true, true, true, true, true, true, true, true, false, false, false, false, false, false, false, false, false, false] rfl rfl (any_of HT_.out (by kernel_rfl)) (fun _ _ _ h => h) (Or.inl ⟨by rfl, ?_⟩) ?_ ?_
            rotate_left
            · intro w'
              go_simp
              with_reducible rfl
            rotate_left
            · simp only [Act.put, List.setIfInBounds_toArray, List.set_cons_zero, List.set_cons_succ, i64_w, i32_w]
              rfl
            refine pure_ (i := 22) (N := some 157) (v := ?_) (a' := ?_) #[true, true, true, true, true, true, true, true, true, true, true, true, true, true, true, true, true, true, true, true, true, false, true, false, false, false, false, false, false, false, false] rfl rfl (any_of HT_.out (by kernel_rfl)) (fun _ _ _ h => h) (Or.inl ⟨by rfl, ?_⟩) ?_ ?_
            rotate_left
            · intro w'
              go_simp
              with_reducible rfl
            rotate_left
            · simp only [Act.put, List.setIfInBounds_toArray, List.set_cons_zero, List.set_cons_succ, i64_w, i32_w]
              rfl
            refine pure_ (i := 23) (N := some 158) (v := ?_) (a' := ?_) #[true, true, true, true, true, true, true, true, true, true, true, true, true, true, true, true, true, true, true, true, true, false, true, true, false, false, false, false, false, false, false] rfl rfl (any_of HT_.out (by kernel_rfl)) (fun _ _ _ h => h) (Or.inl ⟨by rfl, ?_⟩) ?_ ?_
            rotate_left
            · intro w'
              go_simp
              with_reducible rfl
            rotate_left
            · simp only [Act.put, List.setIfInBounds_toArray, List.set_cons_zero, List.set_cons_succ, i64_w, i32_w]
              rfl
            refine pure_ (i := 24) (N := some 159) (v := ?_) (a' := ?_) #[true, true, true, true, true, true, true, true, true, true, true, true, true, true, true, true, true, true, true, true, true, false, true, true, true, false, false, false, false, false, false] rfl rfl (any_of HT_.out (by kernel_rfl)) (fun _ _ _ h => h) (Or.inl ⟨by rfl, ?_⟩) ?_ ?_
            rotate_left
            · intro w'
              go_simp
              with_reducible rfl
            rotate_left
            · simp only [Act.put, List.setIfInBounds_toArray, List.set_cons_zero, List.set_cons_succ, i64_w, i32_w]
              rfl
            refine pure_ (i := 25) (N := some 160) (v := ?_) (a' := ?_) #[true, true, true, true, true, true, true, true, true, true, true, true, true, true, true, true, true, true, true, true, true, false, true, true, true, true, false, false, false, false, false] rfl rfl (any_of HT_.out (by kernel_rfl)) (fun _ _ _ h => h) (Or.inl ⟨by rfl, ?_⟩) ?_ ?_
            rotate_left
            · intro w'
              have x_ := P1.out
              go_simp
              with_reducible rfl
            rotate_left
            · simp only [Act.put, List.setIfInBounds_toArray, List.set_cons_zero, List.set_cons_succ, i64_w, i32_w]
              rfl
            refine pure_ (i := 26) (N := some 161) (v := ?_) (a' := ?_) #[true, true, true, true, true, true, true, true, true, true, true, true, true, true, true, true, true, true, true, true, true, false, true, true, true, true, true, false, false, false, false] rfl rfl (any_of HT_.out (by kernel_rfl)) (fun _ _ _ h => h) (Or.inl ⟨by rfl, ?_⟩) ?_ ?_
            rotate_left
            · intro w'
              have x_ := P1.out
              go_simp
              with_reducible rfl
            rotate_left
            · simp only [Act.put, List.setIfInBounds_toArray, List.set_cons_zero, List.set_cons_succ, i64_w, i32_w]
              rfl
            refine take_ (i := 27) (N := some 162) (v := ?_) (a' := ?_) #[true, true, true, true, true, true, true, true, true, true, true, true, true, true, true, true, true, true, true, true, true, false, true, true, true, true, true, true, false, false, false] rfl rfl (take_ofW HT_.out HW_.out (by kernel_rfl)) (fun _ _ _ h => h) (Or.inl ⟨by rfl, ?_⟩) hHeld ?_ ?_
            rotate_left
            · intro w' s0
              go_simp
              with_reducible rfl
            rotate_left
            · simp only [Act.put, List.setIfInBounds_toArray, List.set_cons_zero, List.set_cons_succ, i64_w, i32_w]
              rfl
            refine one_ (i := 21) (N := some 156) #[true, true, true, true, true, true, true, true, true, true, true, true, true, true, true, true, true, true, true, true, true, true, true, true, true, true, true, true, false, false, false] rfl rfl (one_of HT_.out (by kernel_rfl)) (by decide) (fun K hK => ?_)
            refine goes_ Tryd.func23 (by kernel_rfl) rfl #[.pointer (some ⟨lb2, 0, none⟩)] (by rfl) rfl rfl (by first | rfl | (go_simp; done)) ?_
            refine (LO.last HL.out).mono ?_
            rintro e w5 ⟨v_, rfl, ho, hb⟩
            refine ⟨_, rfl, ?_⟩
            obtain ⟨lA, lc, rfl, hlc, hlk⟩ := kdInt ho
            rw [← HDE.out] at hlc hlk ⊢
            have HLK := Aside0.mk hlk
            have HLC := Aside0.mk hlc
            clear hlk hlc ho
            have hb_ := hb
            have n_HL := Aside0.mk (HL.out.under hb_)
            have n_HR := Aside0.mk (HR.out.under hb_)
            have n_HB := Aside0.mk (below_step HB.out hb_)
            have n_HC := Aside0.mk (cell_below HC.out hb_)
            have n_HQ := Aside0.mk (Kd.C_below HQ.out hb_)
            have n_HS0 := Aside0.mk (Nat.le_trans HS0.out (below_size hb_))
            have n_HK6 := Aside0.mk (Kd.C_below HK6.out hb_)
            clear HL HR HB HC HQ HS0 HK6
            have HL := n_HL
            have HR := n_HR
            have HB := n_HB
            have HC := n_HC
            have HQ := n_HQ
            have HS0 := n_HS0
            have HK6 := n_HK6
            clear n_HL n_HR n_HB n_HC n_HQ n_HS0 n_HK6 hb_
            clear hb
            refine hK.out _ _ HC.out (fun hHeld => ?_)
            clear hK K
            refine norm_ (a' := ?_) ?_ ?_
            rotate_left
            · show Act.put _ (some 156) _ = _
              simp only [Act.put, List.setIfInBounds_toArray, List.set_cons_zero, List.set_cons_succ, i64_w, i32_w]
              rfl
            refine one_ (i := 28) (N := some 163) #[true, true, true, true, true, true, true, true, true, true, true, true, true, true, true, true, true, true, true, true, true, true, true, true, true, true, true, true, true, false, false] rfl rfl (one_of HT_.out (by kernel_rfl)) (by decide) (fun K hK => ?_)
            refine goes_ Tryd.func22 (by kernel_rfl) rfl #[.slice lA d.length lc, .slice uA d.length uc] (by rfl) rfl rfl (by first | rfl | (go_simp; done)) ?_
            refine (bytes_calls HLK.out HLC.out HQ.out HQC.out HDB.out HDB.out).mono ?_
            rintro e w_ ⟨rfl, ⟨nd6, rfl⟩⟩
            rw [decide_eq_true (rfl : d = d)]
            refine ⟨_, rfl, ?_⟩
            have hb := pw_below_drewN (Below.refl w5.heap.size w5) nd6
            clear HLK
            have hb_ := hb
            have n_HL := Aside0.mk (HL.out.under hb_)
            have n_HR := Aside0.mk (HR.out.under hb_)
            have n_HB := Aside0.mk (below_step HB.out hb_)
            have n_HC := Aside0.mk (cell_below HC.out hb_)
            have n_HQ := Aside0.mk (Kd.C_below HQ.out hb_)
            have n_HS0 := Aside0.mk (Nat.le_trans HS0.out (below_size hb_))
            have n_HK6 := Aside0.mk (Kd.C_below HK6.out hb_)
            clear HL HR HB HC HQ HS0 HK6
            have HL := n_HL
            have HR := n_HR
            have HB := n_HB
            have HC := n_HC
            have HQ := n_HQ
            have HS0 := n_HS0
            have HK6 := n_HK6
            clear n_HL n_HR n_HB n_HC n_HQ n_HS0 n_HK6 hb_
            clear hb
            refine hK.out _ _ HC.out (fun hHeld => ?_)
            clear hK K
            refine norm_ (a' := ?_) ?_ ?_
            rotate_left
            · show Act.put _ (some 163) _ = _
              simp only [Act.put, List.setIfInBounds_toArray, List.set_cons_zero, List.set_cons_succ, i64_w, i32_w]
              rfl
            refine pure_ (i := 29) (N := some 164) (v := ?_) (a' := ?_) #[true, true, true, true, true, true, true, true, true, true, true, true, true, true, true, true, true, true, true, true, true, true, true, true, true, true, true, true, true, true, false] rfl rfl (any_of HT_.out (by kernel_rfl)) (fun _ _ _ h => h) (Or.inl ⟨by rfl, ?_⟩) ?_ ?_
            rotate_left
            · intro w'
              go_simp
              with_reducible rfl
            rotate_left
            · simp only [Act.put, List.setIfInBounds_toArray, List.set_cons_zero, List.set_cons_succ, i64_w, i32_w]
              rfl
            refine pure_ (i := 30) (N := some 165) (v := ?_) (a' := ?_) #[true, true, true, true, true, true, true, true, true, true, true, true, true, true, true, true, true, true, true, true, true, true, true, true, true, true, true, true, true, true, true] rfl rfl (any_of HT_.out (by kernel_rfl)) (fun _ _ _ h => h) (Or.inl ⟨by rfl, ?_⟩) ?_ ?_
            rotate_left
            · intro w'
              go_simp
              with_reducible rfl
            rotate_left
            · simp only [Act.put, List.setIfInBounds_toArray, List.set_cons_zero, List.set_cons_succ, i64_w, i32_w]
              rfl
            refine done_ (done_of HT_.out (by kernel_rfl)) ?_
            clear HT_ HW_ hHeld
            clear HK6 HKC HC HQ HQC HLC P1
            generalize w5.drewN nd6 = w11 at HL HR HB HS0 ⊢
            (try dsimp only)
            go_wp2
            have w7_ : wrap64 ((i : Int) + 1) = ((i + 1 : Nat) : Int) := by unfold wrap64; have := H6.out; omega
            go_roundg (gk - 1)
            case measure => have := HK.out; have := H6.out; omega
            case rel => exact ⟨i + 1, lb2, n', c1, some ad, all', l', rfl, rfl, by first | rfl | (simp [w7_]; done) | (simp only [w7_]; rfl), ⟨by have := HK.out; have := H6.out; omega⟩, ⟨HN1.out, HI.out⟩, ⟨HL.out⟩, ⟨HR.out⟩, ⟨HE.out⟩, ⟨HB.out⟩, ⟨HS0.out⟩⟩
        · have k3a : decide ((i : Int) < (n3 : Int)) = false := decide_eq_false (by omega)
          have k3b : decide (i < n3) = false := decide_eq_false (by omega)
          have k3c : (i < n3) = False := eq_false (by omega)
          have k3d : ((i : Int) < (n3 : Int)) = False := eq_false (by omega)
          clear HC HQ HQC P1
          (try dsimp only)
          go_wp2
          have w7_ : wrap64 ((i : Int) + 1) = ((i + 1 : Nat) : Int) := by unfold wrap64; have := H6.out; omega
          go_roundg (gk - 1)
          case measure => have := HK.out; have := H6.out; omega
          case rel => exact ⟨i + 1, lb, n', c1, some ad, all', l', rfl, rfl, by first | rfl | (simp [w7_]; done) | (simp only [w7_]; rfl), ⟨by have := HK.out; have := H6.out; omega⟩, ⟨HN1.out, HI.out⟩, ⟨HL.out⟩, ⟨HR.out⟩, ⟨HE.out⟩, ⟨HB.out⟩, ⟨HS0.out⟩⟩
    · have c6b : decide ((i : Int) < (n2 : Int)) = false := decide_eq_false (by omega)
      have c6c : decide (i < n2) = false := decide_eq_false c6
      have q1 : (i < n2) = False := eq_false c6
      have q2 : ((i : Int) < (n2 : Int)) = False := eq_false (by omega)
      have HI := Aside0.mk (show n ≤ 40 by have := HAL.out; have := HK.out; have := NL.out; omega)
      clear c6
      (try dsimp only)
      go_wp2_with fail
      refine (LD.open_ HL.out.ld ge (gcell HG.out HB.out)).mono ?_
      rintro e w4 ⟨lb2, A6, oc6, rfl, hlb, hoc, hk, hl, hb⟩
      obtain ⟨r6, hr6⟩ : ∃ r6, r6 = l.reverse.length := ⟨_, rfl⟩
      rw [← hr6] at hk hoc ⊢
      have HK6 := Aside0.mk hk
      have HKC := Aside0.mk hoc
      clear hr6 hoc hk hlb
      have hb_ := hb
      have n_HR := Aside0.mk (HR.out.under hb_)
      have n_HB := Aside0.mk (below_step HB.out hb_)
      clear HR HB
      have HR := n_HR
      have HB := n_HB
      clear n_HR n_HB hb_
      clear HL hb hl
      (try dsimp only)
      go_wp2_with fail
      refine (ends_calls HK6.out HKC.out (HR.out.kd HAL.out.1 (by have := HI.out; omega)).1 (HR.out.kd HAL.out.1 (by have := HI.out; omega)).2 HE.out.bytl HE.out.byt (by have := HI.out; have := HE.out.len; have := HAL.out.1; have := HK6.out.1; rw [List.length_reverse] at this; omega)).mono ?_
      rintro e w_ ⟨rfl, ⟨nd7, rfl⟩⟩
      rw [HE.out.ends]
      (try dsimp only)
      go_wp2
      (try simp only [Exit.inBlock, Exit.then])
      go_ret
      exact ⟨rfl, pw_below_drewN HB.out nd7⟩
end Go.Proofs.YtgeggcifhojpmaaDoor.PB
namespace Go.Proofs.YtgeggcifhojpmaaDoor.logKeeps
open Go.ChangeShapes Go.WideShapes Go.ChangeAt Go.RowKit Go.Joins Go.Proofs.YtgeggcifhojpmaaDoorW.PrintWords Go.Proofs.YtgeggcifhojpmaaDoorW.AggWords
open Go.ChangeMaps (open_string shut_string)
set_option linter.unusedVariables false
theorem own : ownKnob Tryd.prog.godebug = none := by kernel_rfl
theorem laidOut : laidOutB Tryd.prog = true := by kernel_rfl
theorem gN : Tryd.prog.globalNamed "lych/log.errBlock" = some 0 := by kernel_rfl
theorem gType : (Tryd.prog.globals[0]?).map (·.type) = some 67 := by kernel_rfl
theorem cells115 : Tryd.prog.cellsOf 115 = 1 := by kernel_rfl
theorem cells9 : Tryd.prog.cellsOf 9 = 1 := by kernel_rfl
theorem star : "*" ++ "errors.errorString" = "*errors.errorString" := by decide
theorem row91 (u : TypeId) (h : Tryd.prog.typeName? 3 u = some "*errors.errorString") : u = 91 :=
  typeName_ptr_named (nm := "errors.errorString") (by rw [star]; kernel_rfl) (by kernel_rfl) (by decide) u (by rw [star]; exact h)
/-- What the listed variable holds. -/
theorem laid_ge {W : World} (h : laidMetH Tryd.prog Rows.logKeepsRow.laid W) : ∃ ge : Addr, W.cell? ⟨0, 0, none⟩ = some (.iface 91 (.pointer (some ge))) := by
  have h' : laidMet Tryd.prog [("lych/log.errBlock", Rows.laid_lych_log_errBlock)] W := h
  obtain ⟨a, s, hv, _⟩ := laid_sentinel h' gN gType Tryd.underlying67 row91 Tryd.underlying91 Tryd.underlying115 rfl rfl Tryd.underlying9 cells115 cells9
  exact ⟨a, by simpa using World.var?_cell gN hv 0⟩
noncomputable def low : Nat := (World.holding Tryd.prog default ⟨#[], #[], []⟩).heap.size
noncomputable def laidWorld (os : Os) : World :=
  let w0 := World.holding Tryd.prog os ⟨#[.cells #[.string { data := #[110, 111, 32, 115, 117, 99, 104, 32, 98, 108, 111, 99, 107] }] 115], #[], []⟩
  { w0 with heap := w0.heap.modify 0 fun
      | .cells _ t frozen => .cells #[.iface 91 (.pointer (some ⟨low, 0, none⟩))] t frozen
      | o => o }
theorem laidWorld_met (os : Os) (args : Array Value) : laidMetH Tryd.prog Rows.logKeepsRow.laid ((laidWorld os).forCall (fun _ _ => 0) ⟨#[], args, []⟩).memory :=
  laidMetH_of_parts (laidMet_of_run (ps := [.cell 0 0, .cell low 0]) 8 (by kernel_rfl) (by kernel_rfl) (by kernel_rfl)) (by kernel_rfl)
set_option maxRecDepth 100000 in
theorem lifted (os : Os) (started : os.Started) (H : Type) (enc : TypeId × Value → H) :
    ReturnsInHanded {} Tryd.checked os 4 .any (fun w args => (Rows.logKeepsSpec.pre enc Tryd.prog Tryd.f4 [] false w args ∧ laidMetH Tryd.prog Rows.logKeepsRow.laid w) ∧ sizedMet enc Tryd.prog Tryd.f4 (OpenSpec.ofChange Rows.logKeepsSpec) false w args)
      (Rows.logKeepsSpec.post enc Tryd.prog Tryd.f4 false true false false) := by
  refine returnsInHanded_of_change_and (C := Tryd.checked) (X := fun w _ => laidMetH Tryd.prog Rows.logKeepsRow.laid w) (fun _ _ _ hh h => h.of_heap hh) own started (by kernel_rfl) Tryd.func4
    (ChangeSpec.witness_at (enc := enc) (C := Tryd.checked) (os := os) (X := fun w _ => laidMetH Tryd.prog Rows.logKeepsRow.laid w) false (laidWorld os) #[.int .i64 0, .int .i64 0, .slice none 0 0, .slice none 0 0] 8 rfl (by kernel_rfl) (by kernel_rfl) (by kernel_rfl) (by kernel_rfl) (by kernel_rfl) (laidWorld_met os _)) ?_
  intro W base args ds gs before hval0 hW _ _ hL _
  have hval : ∀ (j : Nat) t v, Tryd.f4.params[j]? = some t → args[j]? = some v → Value.okWide Tryd.prog W .any base t v := hval0
  have hW' := hW
  obtain ⟨p, q, hA0, hV, rfl, hfz, hnd⟩ := hW
  have hA : DataW.TrodAll enc Tryd.prog W 0 (fun _ => true) true Tryd.f4.params.toList args.toList ds p := hA0
  rw [Tryd.params4] at hA hval
  obtain ⟨v0, vs0, d0, ds0, p0, q0, hargs, rfl, rfl, h0, r0⟩ := trodAll_cons hA
  obtain ⟨v1, vs1, d1, ds1, p1, q1, rfl, rfl, rfl, h1, r1⟩ := trodAll_cons r0
  obtain ⟨v2, vs2, d2, ds2, p2, q2, rfl, rfl, rfl, h2, r2⟩ := trodAll_cons r1
  obtain ⟨v3, vs3, d3, ds3, p3, q3, rfl, rfl, rfl, h3, r3⟩ := trodAll_cons r2
  obtain ⟨rfl, rfl, rfl⟩ := trodAll_nil r3
  obtain rfl : args = #[v0, v1, v2, v3] := by cases args; simp_all
  obtain ⟨rfl, rfl⟩ := trodVars_none hV
  obtain ⟨ge, hge⟩ := laid_ge hL
  obtain ⟨a0, rfl, rfl, rfl, w0⟩ := open_int Tryd.underlying3 (hval 0 3 v0 rfl rfl) h0
  obtain ⟨a1, rfl, rfl, rfl, w1⟩ := open_int Tryd.underlying3 (hval 1 3 v1 rfl rfl) h1
  obtain ⟨A2, n2, c2, rfl⟩ := okWide_slice Tryd.underlying27 (hval 2 27 v2 rfl rfl)
  have k2 := h2
  have lt2 : ∀ x ∈ p2, x.block < W.heap.size := by obtain ⟨m, hm⟩ := k2; exact DataW.trod_lt m _ _ _ hm
  obtain ⟨fuel2, hf2⟩ := h2
  obtain ⟨z2, w2⟩ := row_of Tryd.underlying27 Tryd.underlying39 (by kernel_rfl) hf2
  obtain ⟨l2, rfl, hr2, hm2, hw2, hc2⟩ := ReadsInt.ofRowC w2
  obtain ⟨A3, n3, c3, rfl⟩ := okWide_slice Tryd.underlying28 (hval 3 28 v3 rfl rfl)
  have k3 := h3
  have lt3 : ∀ x ∈ p3, x.block < W.heap.size := by obtain ⟨m, hm⟩ := k3; exact DataW.trod_lt m _ _ _ hm
  obtain ⟨fuel3, hf3⟩ := h3
  obtain ⟨l3, rfl, hr3, hc3⟩ := PB.bools_of Tryd.underlying28 Tryd.underlying4 (by kernel_rfl) hf3
  clear hA0 hval0
  refine (PB.LogKeeps.calls a0 a1 _ _ _ _ _ _ W ge hge (Kd.C_of_reads (d := (0 : Int)) (h1 := fun _ => rfl) hr2) hc2 (PB.wf16 hw2) hr3 hc3).mono fun e W' ⟨he, bel⟩ => ?_
  subst he
  exact ⟨_, rfl, _, _, _, [], _, [], hW', trodAll_mk1 (shut_bool Tryd.underlying4 _), (trodAll_cons_mk (shut_int Tryd.underlying3 w0) (trodAll_cons_mk (shut_int Tryd.underlying3 w1) (trodAll_cons_mk (Below.trod laidOut (by kernel_rfl) (of_decide_eq_true (by kernel_rfl)) k2 bel lt2) (trodAll_cons_mk (Below.trod laidOut (by kernel_rfl) (of_decide_eq_true (by kernel_rfl)) k3 bel lt3) trodAll_mk0)))), rfl, bel.frame _, fun h => by cases h⟩
theorem over : Rows.logKeepsRow.holds Tryd.pinned (OpenSpec.ofChange Rows.logKeepsSpec) :=
  OpenClaim.holds_of_wide 4 Tryd.f4 rfl rfl rfl rfl rfl rfl rfl ⟨rfl, rfl, rfl, rfl, rfl⟩ rfl rfl rfl rfl rfl (by kernel_rfl) Tryd.func4 (by kernel_rfl)
    (of_decide_eq_true (by kernel_rfl)) (by unfold Func.isWrapper; first | (rw [if_pos (by decide +kernel)]; kernel_rfl) | (rw [if_neg (by decide +kernel)]; exact ⟨rfl, rfl⟩))
    (fun os started H enc _ => lifted os started H enc)
theorem proved : Rows.LogKeepsSaid := over
theorem card : Rows.LogKeepsCardSaid :=
  Claim7.holds_tied_plain_at .later [] [.sentinel] true (true, "d6af000c36f002e728fe3a0d9820601450968c7f60402185504d7936053a82d1") true
    proved (fun _ h => by cases h) (by kernel_rfl) (fun _ h => by cases h) logKeeps_row_tie rfl ⟨rfl, rfl⟩ (by kernel_rfl) rfl
    (fun f fn hf hfn => by
      obtain rfl : f = 4 := Option.some.inj ((show Tryd.prog.funcNamed "lych/lychlaw10.LogKeeps" = some 4 by kernel_rfl).symm.trans hf) |>.symm
      obtain rfl : fn = Tryd.f4 := (Option.some.inj (Tryd.func4.symm.trans hfn)).symm
      exact ⟨by kernel_rfl, fun j t ht => by
        rw [Tryd.params4] at ht
        have h3 : t = 3 ∨ t = 27 ∨ t = 28 := by
          rcases j with _ | j
          · simp at ht; subst ht; simp
          rcases j with _ | j
          · simp at ht; subst ht; simp
          rcases j with _ | j
          · simp at ht; subst ht; simp
          rcases j with _ | j
          · simp at ht; subst ht; simp
          simp at ht
        rcases h3 with rfl | rfl | rfl
        · exact (show Tryd.prog.wantsStandIn 3 = false by kernel_rfl)
        · exact (show Tryd.prog.wantsStandIn 27 = false by kernel_rfl)
        · exact (show Tryd.prog.wantsStandIn 28 = false by kernel_rfl)⟩)
    (by kernel_rfl)
#print axioms card
end Go.Proofs.YtgeggcifhojpmaaDoor.logKeeps
namespace Go.Proofs.YtgeggcifhojpmaaDoor
/-- The tied card, under a short name, for the claim. -/
theorem logKeepsCard_holds : Rows.LogKeepsCardSaid := logKeeps.card
end Go.Proofs.YtgeggcifhojpmaaDoor
