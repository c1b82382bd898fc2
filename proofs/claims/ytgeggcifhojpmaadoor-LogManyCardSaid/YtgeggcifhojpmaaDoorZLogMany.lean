/- LogMany: for every input the Go function returns true, and each argument reads as before; the listed variable tied to the program's text. -/
import Derived.Test.YtgeggcifhojpmaaDoorZLf
import Derived.Test.YtgeggcifhojpmaaDoorRows
import Derived.Test.YtgeggcifhojpmaaDoorTie
import Derived.Test.YtgeggcifhojpmaaDoorCards
import Derived.Test.YtgeggcifhojpmaaDoorZW
import Derived.WalkKit
import Derived.ProofKit
import Derived.OpenShut
import Derived.ShutString
import Derived.ChangeOld
import Derived.Below
import Derived.SizedLaws
import Derived.Lib.SmallJoins
import Derived.RowKitTokens
import Derived.LaidLaws
import Derived.LaidHandle
import Derived.Stop.LaidErr
import Derived.Stop.LaidTwo
import Derived.SevenTiedAt
/- LogMany: hundreds of records go on, the last one always there. -/
namespace Go.Proofs.YtgeggcifhojpmaaDoor.PB
open Go.RowKit Go.Proofs.YtgeggcifhojpmaaDoorW.PrintWords Go.Proofs.YtgeggcifhojpmaaDoorW.PrintLast Go.Proofs.YtgeggcifhojpmaaDoorW.PrintMore
attribute [local go_sem] max2_mx min2_mn max_two min_two max_three min_three max_four min_four   -- for this text's walks alone
set_option linter.unusedVariables false
set_option linter.unusedSimpArgs false

def LogMany.Z17.T : Bool × List (List Nat × List Nat) := (true, [([], []), ([0], [0]), ([1], [1]), ([2], [2]), ([3, 2], [2, 3]), ([4, 2], [2, 4]), ([2, 5], [2, 5]), ([6, 2], [6]), ([7], [7]), ([8, 7], [7, 8]), ([9, 7, 7], [7, 9]), ([10], [10]), ([11, 10], [10, 11]), ([12, 10], [10, 12]), ([10, 13, 7], [7, 10, 13]), ([14, 10, 7], [7, 14]), ([15], [15]), ([15], [15]), ([17, 15], [15, 17]), ([18, 15], [15, 18]), ([16, 19, 15], [15, 16, 19]), ([20, 15], [15, 20]), ([15], [15]), ([22, 15], [15, 22]), ([15], [15]), ([23, 24, 15, 15], [15, 23, 24]), ([21, 25, 25, 15], [15, 21, 25]), ([15, 26, 7], [7, 15, 26]), ([27, 26, 7], [7, 27]), ([28], [28]), ([29, 28, 28], [28, 29]), ([28], [28]), ([31, 28], [28, 31]), ([28], [28]), ([32, 33, 30, 28], [28, 32, 33]), ([30, 34, 34, 28], [28, 30, 34]), ([28, 35, 7], [7, 28, 35]), ([7, 36], [7, 36]), ([37, 35, 0, 1, 2, 3, 4, 5, 6, 7, 8, 9, 10, 11, 12, 13, 14, 15, 16, 17, 18, 19, 20, 21, 22, 23, 24, 25, 26, 27, 28, 29, 30, 31, 32, 33, 34, 35, 36, 37], [37])])
theorem LogMany.Z17.tab : rtab .any (opsOf Tryd.f5 17) = LogMany.Z17.T := by kernel_rfl
theorem LogMany.Z17.bits : waitsOk LogMany.Z17.T.2 [0, 1, 3, 7, 15, 31, 63, 127, 255, 511, 1023, 2047, 4095, 8191, 16383, 32767, 65535, 65535, 196607, 458751, 1048575, 2097151, 65535, 4259839, 65535, 29425663, 67108863, 134217727, 268435455, 536870911, 1073741823, 536870911, 2684354559, 536870911, 17179869183, 34359738367, 68719476735, 137438953471, 274877906943] = true := by kernel_rfl
def LogMany.R17.T : Bool × List (List Nat × List Nat) := (true, [([], []), ([0], [0]), ([1], [1]), ([2], [2]), ([3, 2], [2, 3]), ([4, 2], [2, 4]), ([2, 5], [2, 5]), ([6, 2], [6]), ([7], [7]), ([8, 7], [7, 8]), ([9, 7, 7], [7, 9]), ([10], [10]), ([11, 10], [10, 11]), ([12, 10], [10, 12]), ([10, 13, 7], [7, 10, 13]), ([14, 10, 7], [7, 14]), ([15], [15]), ([15], [15]), ([17, 15], [15, 17]), ([18, 15], [15, 18]), ([16, 19, 15], [15, 16, 19]), ([20, 15], [15, 20]), ([15], [15]), ([22, 15], [15, 22]), ([15], [15]), ([23, 24, 15, 15], [15, 23, 24]), ([21, 25, 25, 15], [15, 21, 25]), ([15, 26, 7], [7, 15, 26]), ([27, 26, 7], [7, 27]), ([28], [28]), ([29, 28, 28], [28, 29]), ([28], [28]), ([31, 28], [28, 31]), ([28], [28]), ([32, 33, 30, 28], [28, 32, 33]), ([30, 34, 34, 28], [28, 30, 34]), ([28, 35, 7], [7, 28, 35]), ([7, 36], [7, 36]), ([37, 35, 0, 1, 2, 3, 4, 5, 6, 7, 8, 9, 10, 11, 12, 13, 14, 15, 16, 17, 18, 19, 20, 21, 22, 23, 24, 25, 26, 27, 28, 29, 30, 31, 32, 33, 34, 35, 36, 37], [37])])
theorem LogMany.R17.tab : rtab .any (opsOf Tryd.f5 17) = LogMany.R17.T := by kernel_rfl
theorem LogMany.R17.bits : waitsOk LogMany.R17.T.2 [0, 1, 3, 7, 15, 31, 63, 127, 255, 511, 1023, 2047, 4095, 8191, 16383, 32767, 65535, 65535, 196607, 458751, 1048575, 2097151, 65535, 4259839, 65535, 29425663, 67108863, 134217727, 268435455, 536870911, 1073741823, 536870911, 2684354559, 536870911, 17179869183, 34359738367, 68719476735, 137438953471, 274877906943] = true := by kernel_rfl
set_option maxHeartbeats 40000000 in
set_option maxRecDepth 100000 in
theorem LogMany.calls (a0 a1 a2 a3 : Int) (w : World) (ge : Addr) (hge : w.cell? ⟨0, 0, none⟩ = some (.iface 91 (.pointer (some ge)))) (hw0 : 0 ≤ a0 ∧ a0 ≤ 65535) (hw1 : 0 ≤ a1 ∧ a1 ≤ 65535) (hw2 : 0 ≤ a2 ∧ a2 ≤ 255) (hw3 : 0 ≤ a3 ∧ a3 ≤ 255) :
    Calls Tryd.prog 5 #[.int .u16 a0, .int .u16 a1, .int .u8 a2, .int .u8 a3] w fun e w' => e = .returned (.bool true) ∧ Below w.heap.size w w' := by
  have HG := Aside0.mk hge
  obtain ⟨nn, hn, hnn⟩ : ∃ y : Nat, a0 = (y : Int) ∧ y ≤ 65535 := ⟨a0.toNat, by omega, by omega⟩
  obtain ⟨y, hy, hyy⟩ : ∃ y : Nat, a1 = (y : Int) ∧ y ≤ 65535 := ⟨a1.toNat, by omega, by omega⟩
  obtain ⟨bb, hb, hbb⟩ : ∃ y : Nat, a2 = (y : Int) ∧ y ≤ 255 := ⟨a2.toNat, by omega, by omega⟩
  obtain ⟨ss, hs, hss⟩ : ∃ y : Nat, a3 = (y : Int) ∧ y ≤ 255 := ⟨a3.toNat, by omega, by omega⟩
  subst hn hy hb hs
  clear hge hw0 hw1 hw2 hw3
  go_enter Tryd.func5, Tryd.ntmps5
  go_wp2_with fail
  refine (known.calls w ge HG.out).mono ?_
  rintro e w1 ⟨rfl, hb⟩
  have HB := Aside0.mk hb
  clear hb
  (try dsimp only)
  go_wp2_with fail
  have em : (bb : Int) % 6 = ((bb % 6 : Nat) : Int) := by push_cast; rfl
  rw [em]
  clear em
  obtain ⟨r1, hv⟩ : ∃ r1, r1 = bb % 6 := ⟨_, rfl⟩
  have hr1 : r1 < 6 := by rw [hv]; exact Nat.mod_lt _ (by omega)
  rw [← hv]
  clear hv
  refine (LD.new (4 + (r1 : Int)) (256 + (ss : Int)) w1 (by rw [dkN_id (4 + r1) (by omega), dkS_id (256 + ss) (by omega)]; omega)).mono ?_
  rintro e w2 ⟨g, q, hs, rfl, hd, hn, hb⟩
  rw [dkS_id (256 + ss) (by omega)] at hd
  rw [dkN_id (4 + r1) (by omega)] at hn
  have HN := Aside0.mk hn
  clear hn
  obtain ⟨base, hbase⟩ : ∃ base, base = w1.heap.size := ⟨_, rfl⟩
  rw [← hbase] at hd
  have HD := Aside0.mk hd
  have HBS := Aside0.mk (show w.heap.size ≤ base by rw [hbase]; exact below_size HB.out)
  obtain ⟨b0, hb0⟩ : ∃ b0, b0 = w2.heap.size := ⟨_, rfl⟩
  have n_HB := Aside0.mk (below_step HB.out hb)
  have HB0 := Aside0.mk (show q < b0 ∧ (∀ b ∈ hs, b < b0) ∧ w.heap.size ≤ b0 by rw [hb0]; exact ⟨hd.lt.2.1, hd.lt.2.2, below_size n_HB.out⟩)
  have HS0 := Aside0.mk (show b0 ≤ w2.heap.size by rw [hb0]; exact Nat.le_refl _)
  clear HB hd hb hbase hb0
  have HB := n_HB
  clear n_HB
  obtain ⟨sz, hsz⟩ : ∃ sz, sz = 256 + ss := ⟨_, rfl⟩
  rw [← hsz] at HD
  clear hsz
  (try dsimp only)
  go_wp2_with fail
  refine (LD.open_ HD.out ge (gcell HG.out HB.out)).mono ?_
  rintro e w3 ⟨lb, A, oc, rfl, hlb, hoc, hk, hl, hb⟩
  have HL := Aside0.mk hl
  clear HD hlb hk hl hoc
  have hb_ := hb
  have n_HB := Aside0.mk (below_step HB.out hb_)
  have n_HS0 := Aside0.mk (Nat.le_trans HS0.out (below_size hb_))
  clear HB HS0
  have HB := n_HB
  have HS0 := n_HS0
  clear n_HB n_HS0 hb_
  clear hb
  (try dsimp only)
  go_wp2_with fail
  refine (LD.room HL.out.ld).mono ?_
  rintro e w_ ⟨rfl, ⟨nd3, rfl⟩⟩
  have hRM := room_le HL.out.ld.big
  obtain ⟨rm, hrm⟩ : ∃ rm, rm = lgRoom hs.length (sz) := ⟨_, rfl⟩
  rw [← hrm] at hRM ⊢
  have HRM := Aside0.mk hrm
  have hrmle : rm ≤ 16384 := hRM.2.2
  clear hrm hRM
  have hb := pw_below_drewN (Below.refl w3.heap.size w3) nd3
  have hb_ := hb
  have n_HL := Aside0.mk (HL.out.under hb_)
  have n_HB := Aside0.mk (below_step HB.out hb_)
  have n_HS0 := Aside0.mk (Nat.le_trans HS0.out (below_size hb_))
  clear HL HB HS0
  have HL := n_HL
  have HB := n_HB
  have HS0 := n_HS0
  clear n_HL n_HB n_HS0 hb_
  clear hb
  generalize w3.drewN nd3 = w4 at HL HB HS0 ⊢
  (try dsimp only)
  go_wp2_with fail
  have em : (y : Int) % ((rm : Int) + 1) = ((y % (rm + 1) : Nat) : Int) := by push_cast; rfl
  have em2 : (nn : Int) % 400 = ((nn % 400 : Nat) : Int) := by push_cast; rfl
  rw [em, em2]
  clear em em2
  obtain ⟨m, hm⟩ : ∃ m, m = y % (rm + 1) := ⟨_, rfl⟩
  have HMM := Aside0.mk (show m < rm + 1 by rw [hm]; exact Nat.mod_lt _ (by omega))
  obtain ⟨k, hk⟩ : ∃ k, k = nn % 400 := ⟨_, rfl⟩
  have HKK := Aside0.mk (show k < 400 by rw [hk]; exact Nat.mod_lt _ (by omega))
  rw [← hm, ← hk]
  clear hm hk
  go_loopg [15] k (fun kq v15 w' => ∃ (i : Nat) (l : List (List Int)), v15 = .int .i64 (i : Int) ∧ Aside0 (kq + i = k) ∧ Aside0 (LO w' base g q sz hs (-1) 0 false lb l (i : Int) (i : Int)) ∧ Aside0 ((i = 0 ∧ l = []) ∨ (0 < i ∧ ∃ t, l = rcd ((i - 1 : Nat) : Int) m :: t)) ∧ Aside0 (Below w.heap.size w w') ∧ Aside0 (b0 ≤ w'.heap.size))
  case atStart => exact ⟨0, [], rfl, ⟨rfl⟩, ⟨HL.out⟩, ⟨Or.inl ⟨rfl, rfl⟩⟩, ⟨HB.out⟩, ⟨HS0.out⟩⟩
  case round =>
    clear HL HB HS0
    obtain ⟨i, l, rfl, HK, HL, HT, HB, HS0⟩ := hrel
    by_cases c6 : i < k
    · have c6a : decide (((i : Nat) : Int) < ((k : Nat) : Int)) = true := decide_eq_true (by omega)
      have c6b : decide (i < k) = true := decide_eq_true (by omega)
      have c6c : (i < k) = True := eq_true (by omega)
      have c6d : (((i : Nat) : Int) < ((k : Nat) : Int)) = True := eq_true (by omega)
      have H6 := Aside0.mk (show i < k ∧ i ≤ 400 by have := HKK.out; omega)
      clear c6
      (try dsimp only)
      go_wp2_with fail
      refine (record.some_ (i : Int) m (by have := HMM.out; omega) wr).mono ?_
      rintro e w7 ⟨c7, rfl, hc7, hge7, hb⟩
      have HC7 := Aside0.mk hc7
      have HNE := Aside0.mk (HL.out.above hge7)
      have HG7 := Aside0.mk (Nat.le_trans HS0.out hge7)
      clear hc7 hge7
      have hb_ := hb
      have n_HL := Aside0.mk (HL.out.under hb_)
      have n_HB := Aside0.mk (below_step HB.out hb_)
      have n_HS0 := Aside0.mk (Nat.le_trans HS0.out (below_size hb_))
      clear HL HB HS0
      have HL := n_HL
      have HB := n_HB
      have HS0 := n_HS0
      clear n_HL n_HB n_HS0 hb_
      clear hb
      (try dsimp only)
      go_wp2_with fail
      refine (LO.append_ HL.out c7 (rcd (i : Int) m) (rcd_length _ _) HC7.out HNE.out (rcd_isB _ _) (by rw [← HRM.out]; have := HMM.out; omega) (Or.inr ⟨by decide, by have := H6.out; omega⟩) (by have := H6.out; omega) 0 ⟨rfl, by omega⟩ (by decide)).mono ?_
      rintro e w8 ⟨hf, cut', hc1, hc2, hcase⟩
      obtain rfl := hc1 (by decide)
      rcases hcase with ⟨rfl, hl⟩ | ⟨hc, _⟩
      rotate_left
      · exact absurd hc (by decide)
      have n_HS0 := Aside0.mk (Nat.le_trans HS0.out hf.size)
      have n_HB : Aside0 (Below w.heap.size w w8) := ⟨hf.below HB.out (below_size HB.out) (fun k hk => Nat.le_trans HBS.out (HL.out.own hk))⟩
      clear HL HB HS0 HC7 HNE HG7 hc1 hc2 hf
      have HL := Aside0.mk hl
      have HS0 := n_HS0
      have HB := n_HB
      clear n_HS0 n_HB hl
      (try dsimp only)
      go_wp2
      have w7_ : wrap64 ((i : Int) + 1) = ((i + 1 : Nat) : Int) := by unfold wrap64; have := H6.out; omega
      go_roundg (gk - 1)
      case measure => have := HK.out; have := H6.out; omega
      case rel => exact ⟨i + 1, rcd (i : Int) m :: l.take 1, by first | rfl | (simp [w7_]; done) | (simp only [w7_]; rfl), ⟨by have := HK.out; have := H6.out; omega⟩, ⟨HL.out⟩, ⟨Or.inr ⟨by omega, l.take 1, rfl⟩⟩, ⟨HB.out⟩, ⟨HS0.out⟩⟩
    · have c6a : decide (((i : Nat) : Int) < ((k : Nat) : Int)) = false := decide_eq_false (by omega)
      have c6b : decide (i < k) = false := decide_eq_false (by omega)
      have c6c : (i < k) = False := eq_false (by omega)
      have c6d : (((i : Nat) : Int) < ((k : Nat) : Int)) = False := eq_false (by omega)
      obtain rfl : i = k := by have := HK.out; omega
      clear c6
      (try dsimp only)
      go_wp2_with fail
      refine (LD.open_ HL.out.ld ge (gcell HG.out HB.out)).mono ?_
      rintro e w11 ⟨lb2, A6, oc6, rfl, hlb, hoc, hk, hl, hb⟩
      obtain ⟨r6, hr6⟩ : ∃ r6, r6 = l.reverse.length := ⟨_, rfl⟩
      rw [← hr6] at hk hoc ⊢
      have HK6 := Aside0.mk hk
      have hr62 : r6 = l.length := by rw [hr6, List.length_reverse]
      have HRL := Aside0.mk (show r6 = l.length ∧ r6 ≤ 2 by have := hl.ld.rc0.2.2; omega)
      have HLo := Aside0.mk (HL.out.under hb)
      clear hr6 hr62 hoc hk hlb HL
      have hb_ := hb
      have n_HB := Aside0.mk (below_step HB.out hb_)
      clear HB
      have HB := n_HB
      clear n_HB hb_
      clear hb
      have HL := Aside0.mk hl
      clear hl
      have iih : ((i : Int) = (i : Int)) := by rfl
      have iia : decide ((i : Int) = (i : Int)) = true := decide_eq_true iih
      have iib : ((i : Int) = (i : Int)) = True := eq_true iih
      have iic : ((i : Int) == (i : Int)) = true := beq_iff_eq.2 iih
      have iid : ((i : Int) != (i : Int)) = false := by rw [bne, beq_iff_eq.2 iih]; rfl
      (try dsimp only)
      go_wp2_with fail
      refine (LO.records HL.out (by have := HKK.out; omega)).mono ?_
      rintro e w12 ⟨rfl, hb⟩
      have hb_ := hb
      have n_HL := Aside0.mk (HL.out.under hb_)
      have n_HLo := Aside0.mk (HLo.out.under hb_)
      have n_HB := Aside0.mk (below_step HB.out hb_)
      have n_HK6 := Aside0.mk (Kd.C_below HK6.out hb_)
      clear HL HLo HB HK6
      have HL := n_HL
      have HLo := n_HLo
      have HB := n_HB
      have HK6 := n_HK6
      clear n_HL n_HLo n_HB n_HK6 hb_
      clear hb
      (try dsimp only)
      go_wp2_with fail
      refine (LO.records HLo.out (by have := HKK.out; omega)).mono ?_
      rintro e w4 ⟨rfl, hb⟩
      have hb_ := hb
      have n_HL := Aside0.mk (HL.out.under hb_)
      have n_HLo := Aside0.mk (HLo.out.under hb_)
      have n_HB := Aside0.mk (below_step HB.out hb_)
      have n_HK6 := Aside0.mk (Kd.C_below HK6.out hb_)
      clear HL HLo HB HK6
      have HL := n_HL
      have HLo := n_HLo
      have HB := n_HB
      have HK6 := n_HK6
      clear n_HL n_HLo n_HB n_HK6 hb_
      clear hb HLo
      rcases HT.out with ⟨rfl, rfl⟩ | ⟨h0, t, rfl⟩
      · obtain rfl : r6 = 0 := by have := HRL.out.1; simpa using this
        clear HK6
        (try dsimp only)
        go_upto_region 17 with (fail)
        refine start_ (n := 39) (S := fun _ => True) (ds := []) #[false, false, false, false, false, false, false, false, false, false, false, false, false, false, false, false, false, false, false, false, false, false, false, false, false, false, false, false, false, false, false, false, false, false, false, false, false, false, false] (by kernel_rfl) rfl rfl trivial (fun hHeld => ?_)
        refine with_tabW LogMany.Z17.tab LogMany.Z17.bits (fun HT_ HW_ => ?_)
        have hb_ := below_drew1 (Below.refl w4.heap.size w4)
        have n_HL := Aside0.mk (HL.out.under hb_)
        have n_HB := Aside0.mk (below_step HB.out hb_)
        clear HL HB
        have HL := n_HL
        have HB := n_HB
        clear n_HL n_HB hb_
        generalize w4.drew = w4 at HL HB hHeld ⊢
        refine pure_ (i := 0) (N := some 81) (v := ?_) (a' := ?_) #[true, false, false, false, false, false, false, false, false, false, false, false, false, false, false, false, false, false, false, false, false, false, false, false, false, false, false, false, false, false, false, false, false, false, false, false, false, false, false] rfl rfl (any_of HT_.out (by kernel_rfl)) (fun _ _ _ h => h) (Or.inl ⟨by rfl, ?_⟩) ?_ ?_
        rotate_left
        · intro w'
          go_simp
          with_reducible rfl
        rotate_left
        · simp only [Act.put, List.setIfInBounds_toArray, List.set_cons_zero, List.set_cons_succ, i64_w, i32_w]
          rfl
        refine pure_ (i := 1) (N := some 82) (v := ?_) (a' := ?_) #[true, true, false, false, false, false, false, false, false, false, false, false, false, false, false, false, false, false, false, false, false, false, false, false, false, false, false, false, false, false, false, false, false, false, false, false, false, false, false] rfl rfl (any_of HT_.out (by kernel_rfl)) (fun _ _ _ h => h) (Or.inl ⟨by rfl, ?_⟩) ?_ ?_
        rotate_left
        · intro w'
          go_simp
          with_reducible rfl
        rotate_left
        · simp only [Act.put, List.setIfInBounds_toArray, List.set_cons_zero, List.set_cons_succ, i64_w, i32_w]
          rfl
        refine pure_ (i := 2) (N := some 83) (v := ?_) (a' := ?_) #[true, true, true, false, false, false, false, false, false, false, false, false, false, false, false, false, false, false, false, false, false, false, false, false, false, false, false, false, false, false, false, false, false, false, false, false, false, false, false] rfl rfl (any_of HT_.out (by kernel_rfl)) (fun _ _ _ h => h) (Or.inl ⟨by rfl, ?_⟩) ?_ ?_
        rotate_left
        · intro w'
          go_simp
          with_reducible rfl
        rotate_left
        · simp only [Act.put, List.setIfInBounds_toArray, List.set_cons_zero, List.set_cons_succ, i64_w, i32_w]
          rfl
        refine pure_ (i := 3) (N := some 84) (v := ?_) (a' := ?_) #[true, true, true, true, false, false, false, false, false, false, false, false, false, false, false, false, false, false, false, false, false, false, false, false, false, false, false, false, false, false, false, false, false, false, false, false, false, false, false] rfl rfl (any_of HT_.out (by kernel_rfl)) (fun _ _ _ h => h) (Or.inl ⟨by rfl, ?_⟩) ?_ ?_
        rotate_left
        · intro w'
          go_simp
          with_reducible rfl
        rotate_left
        · simp only [Act.put, List.setIfInBounds_toArray, List.set_cons_zero, List.set_cons_succ, i64_w, i32_w]
          rfl
        refine pure_ (i := 4) (N := some 85) (v := ?_) (a' := ?_) #[true, true, true, true, true, false, false, false, false, false, false, false, false, false, false, false, false, false, false, false, false, false, false, false, false, false, false, false, false, false, false, false, false, false, false, false, false, false, false] rfl rfl (any_of HT_.out (by kernel_rfl)) (fun _ _ _ h => h) (Or.inl ⟨by rfl, ?_⟩) ?_ ?_
        rotate_left
        · intro w'
          go_simp
          with_reducible rfl
        rotate_left
        · simp only [Act.put, List.setIfInBounds_toArray, List.set_cons_zero, List.set_cons_succ, i64_w, i32_w]
          rfl
        refine pure_ (i := 5) (N := some 86) (v := ?_) (a' := ?_) #[true, true, true, true, true, true, false, false, false, false, false, false, false, false, false, false, false, false, false, false, false, false, false, false, false, false, false, false, false, false, false, false, false, false, false, false, false, false, false] rfl rfl (any_of HT_.out (by kernel_rfl)) (fun _ _ _ h => h) (Or.inl ⟨by rfl, ?_⟩) ?_ ?_
        rotate_left
        · intro w'
          go_simp
          with_reducible rfl
        rotate_left
        · simp only [Act.put, List.setIfInBounds_toArray, List.set_cons_zero, List.set_cons_succ, i64_w, i32_w]
          rfl
        refine pure_ (i := 6) (N := some 87) (v := ?_) (a' := ?_) #[true, true, true, true, true, true, true, false, false, false, false, false, false, false, false, false, false, false, false, false, false, false, false, false, false, false, false, false, false, false, false, false, false, false, false, false, false, false, false] rfl rfl (any_of HT_.out (by kernel_rfl)) (fun _ _ _ h => h) (Or.inl ⟨by rfl, ?_⟩) ?_ ?_
        rotate_left
        · intro w'
          go_simp
          with_reducible rfl
        rotate_left
        · simp only [Act.put, List.setIfInBounds_toArray, List.set_cons_zero, List.set_cons_succ, i64_w, i32_w]
          rfl
        refine pure_ (i := 7) (N := some 88) (v := ?_) (a' := ?_) #[true, true, true, true, true, true, true, true, false, false, false, false, false, false, false, false, false, false, false, false, false, false, false, false, false, false, false, false, false, false, false, false, false, false, false, false, false, false, false] rfl rfl (any_of HT_.out (by kernel_rfl)) (fun _ _ _ h => h) (Or.inl ⟨by rfl, ?_⟩) ?_ ?_
        rotate_left
        · intro w'
          go_simp
          with_reducible rfl
        rotate_left
        · simp only [Act.put, List.setIfInBounds_toArray, List.set_cons_zero, List.set_cons_succ, i64_w, i32_w]
          rfl
        refine pure_ (i := 8) (N := some 89) (v := undef) (a' := ?_) #[true, true, true, true, true, true, true, true, true, false, false, false, false, false, false, false, false, false, false, false, false, false, false, false, false, false, false, false, false, false, false, false, false, false, false, false, false, false, false] rfl rfl (any_of HT_.out (by kernel_rfl)) (fun _ _ _ h => h) (Or.inr ⟨by rfl, rfl⟩) ?_ ?_
        rotate_left
        · simp only [Act.put, List.setIfInBounds_toArray, List.set_cons_zero, List.set_cons_succ, i64_w, i32_w]
          rfl
        refine pure_ (i := 9) (N := some 90) (v := undef) (a' := ?_) #[true, true, true, true, true, true, true, true, true, true, false, false, false, false, false, false, false, false, false, false, false, false, false, false, false, false, false, false, false, false, false, false, false, false, false, false, false, false, false] rfl rfl (any_of HT_.out (by kernel_rfl)) (fun _ _ _ h => h) (Or.inr ⟨by rfl, rfl⟩) ?_ ?_
        rotate_left
        · simp only [Act.put, List.setIfInBounds_toArray, List.set_cons_zero, List.set_cons_succ, i64_w, i32_w]
          rfl
        refine pure_ (i := 10) (N := some 91) (v := undef) (a' := ?_) #[true, true, true, true, true, true, true, true, true, true, true, false, false, false, false, false, false, false, false, false, false, false, false, false, false, false, false, false, false, false, false, false, false, false, false, false, false, false, false] rfl rfl (any_of HT_.out (by kernel_rfl)) (fun _ _ _ h => h) (Or.inr ⟨by rfl, rfl⟩) ?_ ?_
        rotate_left
        · simp only [Act.put, List.setIfInBounds_toArray, List.set_cons_zero, List.set_cons_succ, i64_w, i32_w]
          rfl
        refine pure_ (i := 11) (N := some 92) (v := undef) (a' := ?_) #[true, true, true, true, true, true, true, true, true, true, true, true, false, false, false, false, false, false, false, false, false, false, false, false, false, false, false, false, false, false, false, false, false, false, false, false, false, false, false] rfl rfl (any_of HT_.out (by kernel_rfl)) (fun _ _ _ h => h) (Or.inr ⟨by rfl, rfl⟩) ?_ ?_
        rotate_left
        · simp only [Act.put, List.setIfInBounds_toArray, List.set_cons_zero, List.set_cons_succ, i64_w, i32_w]
          rfl
        refine pure_ (i := 12) (N := some 93) (v := undef) (a' := ?_) #[true, true, true, true, true, true, true, true, true, true, true, true, true, false, false, false, false, false, false, false, false, false, false, false, false, false, false, false, false, false, false, false, false, false, false, false, false, false, false] rfl rfl (any_of HT_.out (by kernel_rfl)) (fun _ _ _ h => h) (Or.inr ⟨by rfl, rfl⟩) ?_ ?_
        rotate_left
        · simp only [Act.put, List.setIfInBounds_toArray, List.set_cons_zero, List.set_cons_succ, i64_w, i32_w]
          rfl
        refine pure_ (i := 13) (N := some 94) (v := undef) (a' := ?_) #[true, true, true, true, true, true, true, true, true, true, true, true, true, true, false, false, false, false, false, false, false, false, false, false, false, false, false, false, false, false, false, false, false, false, false, false, false, false, false] rfl rfl (any_of HT_.out (by kernel_rfl)) (fun _ _ _ h => h) (Or.inr ⟨by rfl, rfl⟩) ?_ ?_
        rotate_left
        · simp only [Act.put, List.setIfInBounds_toArray, List.set_cons_zero, List.set_cons_succ, i64_w, i32_w]
          rfl
        refine pure_ (i := 14) (N := some 95) (v := undef) (a' := ?_) #[true, true, true, true, true, true, true, true, true, true, true, true, true, true, true, false, false, false, false, false, false, false, false, false, false, false, false, false, false, false, false, false, false, false, false, false, false, false, false] rfl rfl (any_of HT_.out (by kernel_rfl)) (fun _ _ _ h => h) (Or.inr ⟨by rfl, rfl⟩) ?_ ?_
        rotate_left
        · simp only [Act.put, List.setIfInBounds_toArray, List.set_cons_zero, List.set_cons_succ, i64_w, i32_w]
          rfl
        refine pure_ (i := 15) (N := some 96) (v := undef) (a' := ?_) #[true, true, true, true, true, true, true, true, true, true, true, true, true, true, true, true, false, false, false, false, false, false, false, false, false, false, false, false, false, false, false, false, false, false, false, false, false, false, false] rfl rfl (any_of HT_.out (by kernel_rfl)) (fun _ _ _ h => h) (Or.inr ⟨by rfl, rfl⟩) ?_ ?_
        rotate_left
        · simp only [Act.put, List.setIfInBounds_toArray, List.set_cons_zero, List.set_cons_succ, i64_w, i32_w]
          rfl
        refine pure_ (i := 16) (N := some 97) (v := undef) (a' := ?_) #[true, true, true, true, true, true, true, true, true, true, true, true, true, true, true, true, true, false, false, false, false, false, false, false, false, false, false, false, false, false, false, false, false, false, false, false, false, false, false] rfl rfl (any_of HT_.out (by kernel_rfl)) (fun _ _ _ h => h) (Or.inr ⟨by rfl, rfl⟩) ?_ ?_
        rotate_left
        · simp only [Act.put, List.setIfInBounds_toArray, List.set_cons_zero, List.set_cons_succ, i64_w, i32_w]
          rfl
        refine pure_ (i := 17) (N := some 98) (v := undef) (a' := ?_) #[true, true, true, true, true, true, true, true, true, true, true, true, true, true, true, true, true, true, false, false, false, false, false, false, false, false, false, false, false, false, false, false, false, false, false, false, false, false, false] rfl rfl (any_of HT_.out (by kernel_rfl)) (fun _ _ _ h => h) (Or.inr ⟨by rfl, rfl⟩) ?_ ?_
        rotate_left
        · simp only [Act.put, List.setIfInBounds_toArray, List.set_cons_zero, List.set_cons_succ, i64_w, i32_w]
          rfl
        refine pure_ (i := 18) (N := some 99) (v := undef) (a' := ?_) #[true, true, true, true, true, true, true, true, true, true, true, true, true, true, true, true, true, true, true, false, false, false, false, false, false, false, false, false, false, false, false, false, false, false, false, false, false, false, false] rfl rfl (any_of HT_.out (by kernel_rfl)) (fun _ _ _ h => h) (Or.inr ⟨by rfl, rfl⟩) ?_ ?_
        rotate_left
        · simp only [Act.put, List.setIfInBounds_toArray, List.set_cons_zero, List.set_cons_succ, i64_w, i32_w]
          rfl
        refine pure_ (i := 19) (N := some 100) (v := undef) (a' := ?_) #[true, true, true, true, true, true, true, true, true, true, true, true, true, true, true, true, true, true, true, true, false, false, false, false, false, false, false, false, false, false, false, false, false, false, false, false, false, false, false] rfl rfl (any_of HT_.out (by kernel_rfl)) (fun _ _ _ h => h) (Or.inr ⟨by rfl, rfl⟩) ?_ ?_
        rotate_left
        · simp only [Act.put, List.setIfInBounds_toArray, List.set_cons_zero, List.set_cons_succ, i64_w, i32_w]
          rfl
        refine pure_ (i := 20) (N := some 101) (v := undef) (a' := ?_) #[true, true, true, true, true, true, true, true, true, true, true, true, true, true, true, true, true, true, true, true, true, false, false, false, false, false, false, false, false, false, false, false, false, false, false, false, false, false, false] rfl rfl (any_of HT_.out (by kernel_rfl)) (fun _ _ _ h => h) (Or.inr ⟨by rfl, rfl⟩) ?_ ?_
        rotate_left
        · simp only [Act.put, List.setIfInBounds_toArray, List.set_cons_zero, List.set_cons_succ, i64_w, i32_w]
          rfl
        refine pure_ (i := 21) (N := some 102) (v := undef) (a' := ?_) #[true, true, true, true, true, true, true, true, true, true, true, true, true, true, true, true, true, true, true, true, true, true, false, false, false, false, false, false, false, false, false, false, false, false, false, false, false, false, false] rfl rfl (any_of HT_.out (by kernel_rfl)) (fun _ _ _ h => h) (Or.inr ⟨by rfl, rfl⟩) ?_ ?_
        rotate_left
        · simp only [Act.put, List.setIfInBounds_toArray, List.set_cons_zero, List.set_cons_succ, i64_w, i32_w]
          rfl
        refine pure_ (i := 22) (N := some 103) (v := undef) (a' := ?_) #[true, true, true, true, true, true, true, true, true, true, true, true, true, true, true, true, true, true, true, true, true, true, true, false, false, false, false, false, false, false, false, false, false, false, false, false, false, false, false] rfl rfl (any_of HT_.out (by kernel_rfl)) (fun _ _ _ h => h) (Or.inr ⟨by rfl, rfl⟩) ?_ ?_
        rotate_left
        · simp only [Act.put, List.setIfInBounds_toArray, List.set_cons_zero, List.set_cons_succ, i64_w, i32_w]
          rfl
        refine pure_ (i := 23) (N := some 104) (v := undef) (a' := ?_) #[true, true, true, true, true, true, true, true, true, true, true, true, true, true, true, true, true, true, true, true, true, true, true, true, false, false, false, false, false, false, false, false, false, false, false, false, false, false, false] rfl rfl (any_of HT_.out (by kernel_rfl)) (fun _ _ _ h => h) (Or.inr ⟨by rfl, rfl⟩) ?_ ?_
        rotate_left
        · simp only [Act.put, List.setIfInBounds_toArray, List.set_cons_zero, List.set_cons_succ, i64_w, i32_w]
          rfl
        refine pure_ (i := 24) (N := some 105) (v := undef) (a' := ?_) #[true, true, true, true, true, true, true, true, true, true, true, true, true, true, true, true, true, true, true, true, true, true, true, true, true, false, false, false, false, false, false, false, false, false, false, false, false, false, false] rfl rfl (any_of HT_.out (by kernel_rfl)) (fun _ _ _ h => h) (Or.inr ⟨by rfl, rfl⟩) ?_ ?_
        rotate_left
        · simp only [Act.put, List.setIfInBounds_toArray, List.set_cons_zero, List.set_cons_succ, i64_w, i32_w]
          rfl
        refine pure_ (i := 25) (N := some 106) (v := undef) (a' := ?_) #[true, true, true, true, true, true, true, true, true, true, true, true, true, true, true, true, true, true, true, true, true, true, true, true, true, true, false, false, false, false, false, false, false, false, false, false, false, false, false] rfl rfl (any_of HT_.out (by kernel_rfl)) (fun _ _ _ h => h) (Or.inr ⟨by rfl, rfl⟩) ?_ ?_
        rotate_left
        · simp only [Act.put, List.setIfInBounds_toArray, List.set_cons_zero, List.set_cons_succ, i64_w, i32_w]
          rfl
        refine pure_ (i := 26) (N := some 107) (v := undef) (a' := ?_) #[true, true, true, true, true, true, true, true, true, true, true, true, true, true, true, true, true, true, true, true, true, true, true, true, true, true, true, false, false, false, false, false, false, false, false, false, false, false, false] rfl rfl (any_of HT_.out (by kernel_rfl)) (fun _ _ _ h => h) (Or.inr ⟨by rfl, rfl⟩) ?_ ?_
        rotate_left
        · simp only [Act.put, List.setIfInBounds_toArray, List.set_cons_zero, List.set_cons_succ, i64_w, i32_w]
          rfl
        refine pure_ (i := 27) (N := some 108) (v := undef) (a' := ?_) #[true, true, true, true, true, true, true, true, true, true, true, true, true, true, true, true, true, true, true, true, true, true, true, true, true, true, true, true, false, false, false, false, false, false, false, false, false, false, false] rfl rfl (any_of HT_.out (by kernel_rfl)) (fun _ _ _ h => h) (Or.inr ⟨by rfl, rfl⟩) ?_ ?_
        rotate_left
        · simp only [Act.put, List.setIfInBounds_toArray, List.set_cons_zero, List.set_cons_succ, i64_w, i32_w]
          rfl
        refine pure_ (i := 28) (N := some 109) (v := undef) (a' := ?_) #[true, true, true, true, true, true, true, true, true, true, true, true, true, true, true, true, true, true, true, true, true, true, true, true, true, true, true, true, true, false, false, false, false, false, false, false, false, false, false] rfl rfl (any_of HT_.out (by kernel_rfl)) (fun _ _ _ h => h) (Or.inr ⟨by rfl, rfl⟩) ?_ ?_
        rotate_left
        · simp only [Act.put, List.setIfInBounds_toArray, List.set_cons_zero, List.set_cons_succ, i64_w, i32_w]
          rfl
        refine pure_ (i := 29) (N := some 110) (v := undef) (a' := ?_) #[true, true, true, true, true, true, true, true, true, true, true, true, true, true, true, true, true, true, true, true, true, true, true, true, true, true, true, true, true, true, false, false, false, false, false, false, false, false, false] rfl rfl (any_of HT_.out (by kernel_rfl)) (fun _ _ _ h => h) (Or.inr ⟨by rfl, rfl⟩) ?_ ?_
        rotate_left
        · simp only [Act.put, List.setIfInBounds_toArray, List.set_cons_zero, List.set_cons_succ, i64_w, i32_w]
          rfl
        refine pure_ (i := 30) (N := some 111) (v := undef) (a' := ?_) #[true, true, true, true, true, true, true, true, true, true, true, true, true, true, true, true, true, true, true, true, true, true, true, true, true, true, true, true, true, true, true, false, false, false, false, false, false, false, false] rfl rfl (any_of HT_.out (by kernel_rfl)) (fun _ _ _ h => h) (Or.inr ⟨by rfl, rfl⟩) ?_ ?_
        rotate_left
        · simp only [Act.put, List.setIfInBounds_toArray, List.set_cons_zero, List.set_cons_succ, i64_w, i32_w]
          rfl
        refine pure_ (i := 31) (N := some 112) (v := undef) (a' := ?_) #[true, true, true, true, true, true, true, true, true, true, true, true, true, true, true, true, true, true, true, true, true, true, true, true, true, true, true, true, true, true, true, true, false, false, false, false, false, false, false] rfl rfl (any_of HT_.out (by kernel_rfl)) (fun _ _ _ h => h) (Or.inr ⟨by rfl, rfl⟩) ?_ ?_
        rotate_left
        · simp only [Act.put, List.setIfInBounds_toArray, List.set_cons_zero, List.set_cons_succ, i64_w, i32_w]
          rfl
        refine pure_ (i := 32) (N := some 113) (v := undef) (a' := ?_) #[true, true, true, true, true, true, true, true, true, true, true, true, true, true, true, true, true, true, true, true, true, true, true, true, true, true, true, true, true, true, true, true, true, false, false, false, false, false, false] rfl rfl (any_of HT_.out (by kernel_rfl)) (fun _ _ _ h => h) (Or.inr ⟨by rfl, rfl⟩) ?_ ?_
        rotate_left
        · simp only [Act.put, List.setIfInBounds_toArray, List.set_cons_zero, List.set_cons_succ, i64_w, i32_w]
          rfl
        refine pure_ (i := 33) (N := some 114) (v := undef) (a' := ?_) #[true, true, true, true, true, true, true, true, true, true, true, true, true, true, true, true, true, true, true, true, true, true, true, true, true, true, true, true, true, true, true, true, true, true, false, false, false, false, false] rfl rfl (any_of HT_.out (by kernel_rfl)) (fun _ _ _ h => h) (Or.inr ⟨by rfl, rfl⟩) ?_ ?_
        rotate_left
        · simp only [Act.put, List.setIfInBounds_toArray, List.set_cons_zero, List.set_cons_succ, i64_w, i32_w]
          rfl
        refine pure_ (i := 34) (N := some 115) (v := undef) (a' := ?_) #[true, true, true, true, true, true, true, true, true, true, true, true, true, true, true, true, true, true, true, true, true, true, true, true, true, true, true, true, true, true, true, true, true, true, true, false, false, false, false] rfl rfl (any_of HT_.out (by kernel_rfl)) (fun _ _ _ h => h) (Or.inr ⟨by rfl, rfl⟩) ?_ ?_
        rotate_left
        · simp only [Act.put, List.setIfInBounds_toArray, List.set_cons_zero, List.set_cons_succ, i64_w, i32_w]
          rfl
        refine pure_ (i := 35) (N := some 116) (v := undef) (a' := ?_) #[true, true, true, true, true, true, true, true, true, true, true, true, true, true, true, true, true, true, true, true, true, true, true, true, true, true, true, true, true, true, true, true, true, true, true, true, false, false, false] rfl rfl (any_of HT_.out (by kernel_rfl)) (fun _ _ _ h => h) (Or.inr ⟨by rfl, rfl⟩) ?_ ?_
        rotate_left
        · simp only [Act.put, List.setIfInBounds_toArray, List.set_cons_zero, List.set_cons_succ, i64_w, i32_w]
          rfl
        refine pure_ (i := 36) (N := some 117) (v := undef) (a' := ?_) #[true, true, true, true, true, true, true, true, true, true, true, true, true, true, true, true, true, true, true, true, true, true, true, true, true, true, true, true, true, true, true, true, true, true, true, true, true, false, false] rfl rfl (any_of HT_.out (by kernel_rfl)) (fun _ _ _ h => h) (Or.inr ⟨by rfl, rfl⟩) ?_ ?_
        rotate_left
        · simp only [Act.put, List.setIfInBounds_toArray, List.set_cons_zero, List.set_cons_succ, i64_w, i32_w]
          rfl
        refine pure_ (i := 37) (N := some 118) (v := ?_) (a' := ?_) #[true, true, true, true, true, true, true, true, true, true, true, true, true, true, true, true, true, true, true, true, true, true, true, true, true, true, true, true, true, true, true, true, true, true, true, true, true, true, false] rfl rfl (any_of HT_.out (by kernel_rfl)) (fun _ _ _ h => h) (Or.inl ⟨by rfl, ?_⟩) ?_ ?_
        rotate_left
        · intro w'
          go_simp
          with_reducible rfl
        rotate_left
        · simp only [Act.put, List.setIfInBounds_toArray, List.set_cons_zero, List.set_cons_succ, i64_w, i32_w]
          rfl
        refine pure_ (i := 38) (N := some 8) (v := ?_) (a' := ?_) #[true, true, true, true, true, true, true, true, true, true, true, true, true, true, true, true, true, true, true, true, true, true, true, true, true, true, true, true, true, true, true, true, true, true, true, true, true, true, true] rfl rfl (any_of HT_.out (by kernel_rfl)) (fun _ _ _ h => h) (Or.inl ⟨by rfl, ?_⟩) ?_ ?_
        rotate_left
        · intro w'
          go_simp
          with_reducible rfl
        rotate_left
        · simp only [Act.put, List.setIfInBounds_toArray, List.set_cons_zero, List.set_cons_succ, i64_w, i32_w]
          rfl
        refine done_ (done_of HT_.out (by kernel_rfl)) ?_
        clear HT_ HW_ hHeld
        go_wp2
        (try simp only [Exit.inBlock, Exit.then])
        go_ret
        exact ⟨rfl, HB.out⟩
      · obtain ⟨k1, hk1⟩ : ∃ k1, k1 = i - 1 := ⟨_, rfl⟩
        rw [← hk1] at HL HRL HK6
        have W3 := Aside0.mk (show wrap64 ((i : Int) - 1) = (k1 : Int) by unfold wrap64; have := HKK.out; omega)
        clear hk1
        obtain ⟨d, hd⟩ : ∃ d, d = rcd (k1 : Int) m := ⟨_, rfl⟩
        have HDD := Aside0.mk hd
        have HDB : Aside0 (IsB d) := ⟨by rw [hd]; exact rcd_isB _ _⟩
        have H60 := Aside0.mk (show 0 < r6 by rw [HRL.out.1]; simp)
        obtain ⟨ad6, uA, uc, e6, hx6, hxc, hxk⟩ := kd_last HK6.out H60.out
        subst e6
        rw [show (rcd (k1 : Int) m :: t).headD [] = d from hd.symm] at hx6 hxc hxk
        obtain ⟨p6, hp6⟩ : ∃ p6, p6 = r6 - 1 := ⟨_, rfl⟩
        rw [← hp6] at hx6
        have W2 := Aside0.mk (show wrap64 ((r6 : Int) - 1) = (p6 : Int) by unfold wrap64; have := HRL.out; have := H60.out; omega)
        have rpa : decide (((p6 : Nat) : Int) < ((r6 : Nat) : Int)) = true := decide_eq_true (by have := H60.out; omega)
        have rpb : decide (p6 < r6) = true := decide_eq_true (by have := H60.out; omega)
        have rpc : (p6 < r6) = True := eq_true (by have := H60.out; omega)
        have rpd : (((p6 : Nat) : Int) < ((r6 : Nat) : Int)) = True := eq_true (by have := H60.out; omega)
        have rra : decide ((0 : Int) < ((r6 : Nat) : Int)) = true := decide_eq_true (by have := H60.out; omega)
        have rrb : decide (0 < r6) = true := decide_eq_true (by have := H60.out; omega)
        have rrc : (0 < r6) = True := eq_true (by have := H60.out; omega)
        have rrd : ((0 : Int) < ((r6 : Nat) : Int)) = True := eq_true (by have := H60.out; omega)
        have i0a : decide ((0 : Int) < ((i : Nat) : Int)) = true := decide_eq_true (by omega)
        have i0b : decide (0 < i) = true := decide_eq_true (by omega)
        have i0c : (0 < i) = True := eq_true (by omega)
        have i0d : ((0 : Int) < ((i : Nat) : Int)) = True := eq_true (by omega)
        have izh : ¬ ((i : Int) = 0) := by omega
        have iza : decide ((i : Int) = 0) = false := decide_eq_false izh
        have izb : ((i : Int) = 0) = False := eq_false izh
        have izc : ((i : Int) == 0) = false := beq_eq_false_iff_ne.2 izh
        have izd : ((i : Int) != 0) = true := bne_iff_ne.2 izh
        have HC := Aside0.mk hx6
        have HQ := Aside0.mk hxk
        have HQC := Aside0.mk hxc
        clear hx6 hxk hxc hp6 HK6 hd izh
        (try dsimp only)
        go_upto_region 17 with (fail)
        refine start_ (n := 39) (S := fun w' => w'.cell? (ad6.add p6) = some (.slice uA d.length uc)) (ds := []) #[false, false, false, false, false, false, false, false, false, false, false, false, false, false, false, false, false, false, false, false, false, false, false, false, false, false, false, false, false, false, false, false, false, false, false, false, false, false, false] (by kernel_rfl) rfl rfl HC.out (fun hHeld => ?_)
        refine with_tabW LogMany.R17.tab LogMany.R17.bits (fun HT_ HW_ => ?_)
        have hb_ := below_drew1 (Below.refl w4.heap.size w4)
        have n_HL := Aside0.mk (HL.out.under hb_)
        have n_HB := Aside0.mk (below_step HB.out hb_)
        have n_HC := Aside0.mk (cell_below HC.out hb_)
        have n_HQ := Aside0.mk (Kd.C_below HQ.out hb_)
        clear HL HB HC HQ
        have HL := n_HL
        have HB := n_HB
        have HC := n_HC
        have HQ := n_HQ
        clear n_HL n_HB n_HC n_HQ hb_
        generalize w4.drew = w4 at HL HB HC HQ hHeld ⊢
        refine pure_ (i := 0) (N := some 81) (v := ?_) (a' := ?_) #[true, false, false, false, false, false, false, false, false, false, false, false, false, false, false, false, false, false, false, false, false, false, false, false, false, false, false, false, false, false, false, false, false, false, false, false, false, false, false] rfl rfl (any_of HT_.out (by kernel_rfl)) (fun _ _ _ h => h) (Or.inl ⟨by rfl, ?_⟩) ?_ ?_
        rotate_left
        · intro w'
          go_simp
          with_reducible rfl
        rotate_left
        · simp only [Act.put, List.setIfInBounds_toArray, List.set_cons_zero, List.set_cons_succ, i64_w, i32_w]
          rfl
        refine pure_ (i := 1) (N := some 82) (v := ?_) (a' := ?_) #[true, true, false, false, false, false, false, false, false, false, false, false, false, false, false, false, false, false, false, false, false, false, false, false, false, false, false, false, false, false, false, false, false, false, false, false, false, false, false] rfl rfl (any_of HT_.out (by kernel_rfl)) (fun _ _ _ h => h) (Or.inl ⟨by rfl, ?_⟩) ?_ ?_
        rotate_left
        · intro w'
          go_simp
          with_reducible rfl
        rotate_left
        · simp only [Act.put, List.setIfInBounds_toArray, List.set_cons_zero, List.set_cons_succ, i64_w, i32_w]
          rfl
        refine pure_ (i := 2) (N := some 83) (v := ?_) (a' := ?_) #[true, true, true, false, false, false, false, false, false, false, false, false, false, false, false, false, false, false, false, false, false, false, false, false, false, false, false, false, false, false, false, false, false, false, false, false, false, false, false] rfl rfl (any_of HT_.out (by kernel_rfl)) (fun _ _ _ h => h) (Or.inl ⟨by rfl, ?_⟩) ?_ ?_
        rotate_left
        · intro w'
          go_simp
          with_reducible rfl
        rotate_left
        · simp only [Act.put, List.setIfInBounds_toArray, List.set_cons_zero, List.set_cons_succ, i64_w, i32_w]
          rfl
        refine pure_ (i := 3) (N := some 84) (v := undef) (a' := ?_) #[true, true, true, true, false, false, false, false, false, false, false, false, false, false, false, false, false, false, false, false, false, false, false, false, false, false, false, false, false, false, false, false, false, false, false, false, false, false, false] rfl rfl (any_of HT_.out (by kernel_rfl)) (fun _ _ _ h => h) (Or.inr ⟨by rfl, rfl⟩) ?_ ?_
        rotate_left
        · simp only [Act.put, List.setIfInBounds_toArray, List.set_cons_zero, List.set_cons_succ, i64_w, i32_w]
          rfl
        refine pure_ (i := 4) (N := some 85) (v := undef) (a' := ?_) #[true, true, true, true, true, false, false, false, false, false, false, false, false, false, false, false, false, false, false, false, false, false, false, false, false, false, false, false, false, false, false, false, false, false, false, false, false, false, false] rfl rfl (any_of HT_.out (by kernel_rfl)) (fun _ _ _ h => h) (Or.inr ⟨by rfl, rfl⟩) ?_ ?_
        rotate_left
        · simp only [Act.put, List.setIfInBounds_toArray, List.set_cons_zero, List.set_cons_succ, i64_w, i32_w]
          rfl
        refine pure_ (i := 5) (N := some 86) (v := undef) (a' := ?_) #[true, true, true, true, true, true, false, false, false, false, false, false, false, false, false, false, false, false, false, false, false, false, false, false, false, false, false, false, false, false, false, false, false, false, false, false, false, false, false] rfl rfl (any_of HT_.out (by kernel_rfl)) (fun _ _ _ h => h) (Or.inr ⟨by rfl, rfl⟩) ?_ ?_
        rotate_left
        · simp only [Act.put, List.setIfInBounds_toArray, List.set_cons_zero, List.set_cons_succ, i64_w, i32_w]
          rfl
        refine pure_ (i := 6) (N := some 87) (v := ?_) (a' := ?_) #[true, true, true, true, true, true, true, false, false, false, false, false, false, false, false, false, false, false, false, false, false, false, false, false, false, false, false, false, false, false, false, false, false, false, false, false, false, false, false] rfl rfl (any_of HT_.out (by kernel_rfl)) (fun _ _ _ h => h) (Or.inl ⟨by rfl, ?_⟩) ?_ ?_
        rotate_left
        · intro w'
          go_simp
          with_reducible rfl
        rotate_left
        · simp only [Act.put, List.setIfInBounds_toArray, List.set_cons_zero, List.set_cons_succ, i64_w, i32_w]
          rfl
        refine pure_ (i := 7) (N := some 88) (v := ?_) (a' := ?_) #[true, true, true, true, true, true, true, true, false, false, false, false, false, false, false, false, false, false, false, false, false, false, false, false, false, false, false, false, false, false, false, false, false, false, false, false, false, false, false] rfl rfl (any_of HT_.out (by kernel_rfl)) (fun _ _ _ h => h) (Or.inl ⟨by rfl, ?_⟩) ?_ ?_
        rotate_left
        · intro w'
          go_simp
          with_reducible rfl
        rotate_left
        · simp only [Act.put, List.setIfInBounds_toArray, List.set_cons_zero, List.set_cons_succ, i64_w, i32_w]
          rfl
        refine pure_ (i := 8) (N := some 89) (v := ?_) (a' := ?_) #[true, true, true, true, true, true, true, true, true, false, false, false, false, false, false, false, false, false, false, false, false, false, false, false, false, false, false, false, false, false, false, false, false, false, false, false, false, false, false] rfl rfl (any_of HT_.out (by kernel_rfl)) (fun _ _ _ h => h) (Or.inl ⟨by rfl, ?_⟩) ?_ ?_
        rotate_left
        · intro w'
          go_simp
          with_reducible rfl
        rotate_left
        · simp only [Act.put, List.setIfInBounds_toArray, List.set_cons_zero, List.set_cons_succ, i64_w, i32_w]
          rfl
        refine pure_ (i := 9) (N := some 90) (v := ?_) (a' := ?_) #[true, true, true, true, true, true, true, true, true, true, false, false, false, false, false, false, false, false, false, false, false, false, false, false, false, false, false, false, false, false, false, false, false, false, false, false, false, false, false] rfl rfl (any_of HT_.out (by kernel_rfl)) (fun _ _ _ h => h) (Or.inl ⟨by rfl, ?_⟩) ?_ ?_
        rotate_left
        · intro w'
          go_simp
          with_reducible rfl
        rotate_left
        · simp only [Act.put, List.setIfInBounds_toArray, List.set_cons_zero, List.set_cons_succ, i64_w, i32_w]
          rfl
        refine pure_ (i := 10) (N := some 91) (v := ?_) (a' := ?_) #[true, true, true, true, true, true, true, true, true, true, true, false, false, false, false, false, false, false, false, false, false, false, false, false, false, false, false, false, false, false, false, false, false, false, false, false, false, false, false] rfl rfl (any_of HT_.out (by kernel_rfl)) (fun _ _ _ h => h) (Or.inl ⟨by rfl, ?_⟩) ?_ ?_
        rotate_left
        · intro w'
          go_simp
          with_reducible rfl
        rotate_left
        · simp only [Act.put, List.setIfInBounds_toArray, List.set_cons_zero, List.set_cons_succ, i64_w, i32_w]
          rfl
        refine pure_ (i := 11) (N := some 92) (v := ?_) (a' := ?_) #[true, true, true, true, true, true, true, true, true, true, true, true, false, false, false, false, false, false, false, false, false, false, false, false, false, false, false, false, false, false, false, false, false, false, false, false, false, false, false] rfl rfl (any_of HT_.out (by kernel_rfl)) (fun _ _ _ h => h) (Or.inl ⟨by rfl, ?_⟩) ?_ ?_
        rotate_left
        · intro w'
          go_simp
          with_reducible rfl
        rotate_left
        · simp only [Act.put, List.setIfInBounds_toArray, List.set_cons_zero, List.set_cons_succ, i64_w, i32_w]
          rfl
        refine pure_ (i := 12) (N := some 93) (v := ?_) (a' := ?_) #[true, true, true, true, true, true, true, true, true, true, true, true, true, false, false, false, false, false, false, false, false, false, false, false, false, false, false, false, false, false, false, false, false, false, false, false, false, false, false] rfl rfl (any_of HT_.out (by kernel_rfl)) (fun _ _ _ h => h) (Or.inl ⟨by rfl, ?_⟩) ?_ ?_
        rotate_left
        · intro w'
          go_simp
          with_reducible rfl
        rotate_left
        · simp only [Act.put, List.setIfInBounds_toArray, List.set_cons_zero, List.set_cons_succ, i64_w, i32_w]
          rfl
        refine pure_ (i := 13) (N := some 94) (v := ?_) (a' := ?_) #[true, true, true, true, true, true, true, true, true, true, true, true, true, true, false, false, false, false, false, false, false, false, false, false, false, false, false, false, false, false, false, false, false, false, false, false, false, false, false] rfl rfl (any_of HT_.out (by kernel_rfl)) (fun _ _ _ h => h) (Or.inl ⟨by rfl, ?_⟩) ?_ ?_
        rotate_left
        · intro w'
          go_simp
          with_reducible rfl
        rotate_left
        · simp only [Act.put, List.setIfInBounds_toArray, List.set_cons_zero, List.set_cons_succ, i64_w, i32_w]
          rfl
        refine pure_ (i := 14) (N := some 95) (v := ?_) (a' := ?_) #[true, true, true, true, true, true, true, true, true, true, true, true, true, true, true, false, false, false, false, false, false, false, false, false, false, false, false, false, false, false, false, false, false, false, false, false, false, false, false] rfl rfl (any_of HT_.out (by kernel_rfl)) (fun _ _ _ h => h) (Or.inl ⟨by rfl, ?_⟩) ?_ ?_
        rotate_left
        · intro w'
          go_simp
          with_reducible rfl
        rotate_left
        · simp only [Act.put, List.setIfInBounds_toArray, List.set_cons_zero, List.set_cons_succ, i64_w, i32_w]
          rfl
        refine pure_ (i := 15) (N := some 96) (v := ?_) (a' := ?_) #[true, true, true, true, true, true, true, true, true, true, true, true, true, true, true, true, false, false, false, false, false, false, false, false, false, false, false, false, false, false, false, false, false, false, false, false, false, false, false] rfl rfl (any_of HT_.out (by kernel_rfl)) (fun _ _ _ h => h) (Or.inl ⟨by rfl, ?_⟩) ?_ ?_
        rotate_left
        · intro w'
          go_simp
          with_reducible rfl
        rotate_left
        · simp only [Act.put, List.setIfInBounds_toArray, List.set_cons_zero, List.set_cons_succ, i64_w, i32_w]
          rfl
        refine pure_ (i := 16) (N := some 97) (v := ?_) (a' := ?_) #[true, true, true, true, true, true, true, true, true, true, true, true, true, true, true, true, true, false, false, false, false, false, false, false, false, false, false, false, false, false, false, false, false, false, false, false, false, false, false] rfl rfl (any_of HT_.out (by kernel_rfl)) (fun _ _ _ h => h) (Or.inl ⟨by rfl, ?_⟩) ?_ ?_
        rotate_left
        · intro w'
          go_simp
          with_reducible rfl
        rotate_left
        · simp only [Act.put, List.setIfInBounds_toArray, List.set_cons_zero, List.set_cons_succ, i64_w, i32_w]
          rfl
        refine pure_ (i := 17) (N := some 98) (v := ?_) (a' := ?_) #[true, true, true, true, true, true, true, true, true, true, true, true, true, true, true, true, true, true, false, false, false, false, false, false, false, false, false, false, false, false, false, false, false, false, false, false, false, false, false] rfl rfl (any_of HT_.out (by kernel_rfl)) (fun _ _ _ h => h) (Or.inl ⟨by rfl, ?_⟩) ?_ ?_
        rotate_left
        · intro w'
          go_simp
          with_reducible rfl
        rotate_left
        · simp only [Act.put, List.setIfInBounds_toArray, List.set_cons_zero, List.set_cons_succ, i64_w, i32_w]
          rfl
        refine pure_ (i := 18) (N := some 99) (v := ?_) (a' := ?_) #[true, true, true, true, true, true, true, true, true, true, true, true, true, true, true, true, true, true, true, false, false, false, false, false, false, false, false, false, false, false, false, false, false, false, false, false, false, false, false] rfl rfl (any_of HT_.out (by kernel_rfl)) (fun _ _ _ h => h) (Or.inl ⟨by rfl, ?_⟩) ?_ ?_
        rotate_left
        · intro w'
          go_simp
          with_reducible rfl
        rotate_left
        · simp only [Act.put, List.setIfInBounds_toArray, List.set_cons_zero, List.set_cons_succ, i64_w, i32_w]
          rfl
        refine pure_ (i := 19) (N := some 100) (v := ?_) (a' := ?_) #[true, true, true, true, true, true, true, true, true, true, true, true, true, true, true, true, true, true, true, true, false, false, false, false, false, false, false, false, false, false, false, false, false, false, false, false, false, false, false] rfl rfl (any_of HT_.out (by kernel_rfl)) (fun _ _ _ h => h) (Or.inl ⟨by rfl, ?_⟩) ?_ ?_
        rotate_left
        · intro w'
          go_simp
          first | rw [i64_w, W2.out] | rw [W2.out]
          (try with_reducible rfl)
        rotate_left
        · simp only [Act.put, List.setIfInBounds_toArray, List.set_cons_zero, List.set_cons_succ, i64_w, i32_w]
          rfl
        refine pure_ (i := 20) (N := some 101) (v := ?_) (a' := ?_) #[true, true, true, true, true, true, true, true, true, true, true, true, true, true, true, true, true, true, true, true, true, false, false, false, false, false, false, false, false, false, false, false, false, false, false, false, false, false, false] rfl rfl (any_of HT_.out (by kernel_rfl)) (fun _ _ _ h => h) (Or.inl ⟨by rfl, ?_⟩) ?_ ?_
        rotate_left
        · intro w'
          go_simp
          with_reducible rfl
        rotate_left
        · simp only [Act.put, List.setIfInBounds_toArray, List.set_cons_zero, List.set_cons_succ, i64_w, i32_w]
          rfl
        refine pure_ (i := 22) (N := some 103) (v := ?_) (a' := ?_) #[true, true, true, true, true, true, true, true, true, true, true, true, true, true, true, true, true, true, true, true, true, false, true, false, false, false, false, false, false, false, false, false, false, false, false, false, false, false, false] rfl rfl (any_of HT_.out (by kernel_rfl)) (fun _ _ _ h => h) (Or.inl ⟨by rfl, ?_⟩) ?_ ?_
        rotate_left
        · intro w'
          go_simp
          with_reducible rfl
        rotate_left
        · simp only [Act.put, List.setIfInBounds_toArray, List.set_cons_zero, List.set_cons_succ, i64_w, i32_w]
          rfl
        refine pure_ (i := 23) (N := some 104) (v := ?_) (a' := ?_) #[true, true, true, true, true, true, true, true, true, true, true, true, true, true, true, true, true, true, true, true, true, false, true, true, false, false, false, false, false, false, false, false, false, false, false, false, false, false, false] rfl rfl (any_of HT_.out (by kernel_rfl)) (fun _ _ _ h => h) (Or.inl ⟨by rfl, ?_⟩) ?_ ?_
        rotate_left
        · intro w'
          go_simp
          first | rw [i64_w, W3.out] | rw [W3.out]
          (try with_reducible rfl)
        rotate_left
        · simp only [Act.put, List.setIfInBounds_toArray, List.set_cons_zero, List.set_cons_succ, i64_w, i32_w]
          rfl
        refine pure_ (i := 24) (N := some 105) (v := ?_) (a' := ?_) #[true, true, true, true, true, true, true, true, true, true, true, true, true, true, true, true, true, true, true, true, true, false, true, true, true, false, false, false, false, false, false, false, false, false, false, false, false, false, false] rfl rfl (any_of HT_.out (by kernel_rfl)) (fun _ _ _ h => h) (Or.inl ⟨by rfl, ?_⟩) ?_ ?_
        rotate_left
        · intro w'
          go_simp
          with_reducible rfl
        rotate_left
        · simp only [Act.put, List.setIfInBounds_toArray, List.set_cons_zero, List.set_cons_succ, i64_w, i32_w]
          rfl
        refine take_ (i := 21) (N := some 102) (v := ?_) (a' := ?_) #[true, true, true, true, true, true, true, true, true, true, true, true, true, true, true, true, true, true, true, true, true, true, true, true, true, false, false, false, false, false, false, false, false, false, false, false, false, false, false] rfl rfl (take_ofW HT_.out HW_.out (by kernel_rfl)) (fun _ _ _ h => h) (Or.inl ⟨by rfl, ?_⟩) hHeld ?_ ?_
        rotate_left
        · intro w' s0
          go_simp
          with_reducible rfl
        rotate_left
        · simp only [Act.put, List.setIfInBounds_toArray, List.set_cons_zero, List.set_cons_succ, i64_w, i32_w]
          rfl
        refine one_ (i := 25) (N := some 106) #[true, true, true, true, true, true, true, true, true, true, true, true, true, true, true, true, true, true, true, true, true, true, true, true, true, true, false, false, false, false, false, false, false, false, false, false, false, false, false] rfl rfl (one_of HT_.out (by kernel_rfl)) (by decide) (fun K hK => ?_)
        refine goes_ Tryd.func20 (by kernel_rfl) rfl #[.int .i64 (k1 : Int), .int .i64 (m : Int)] (by rfl) rfl rfl (by first | rfl | (go_simp; done)) ?_
        refine (record.some_ (k1 : Int) m (by have := HMM.out; omega) _).mono ?_
        rintro e w5 ⟨c9, rfl, hc9, hge9, hb⟩
        refine ⟨_, rfl, ?_⟩
        have HC9 := Aside0.mk hc9
        clear hc9 hge9
        have hb_ := hb
        have n_HL := Aside0.mk (HL.out.under hb_)
        have n_HB := Aside0.mk (below_step HB.out hb_)
        have n_HC := Aside0.mk (cell_below HC.out hb_)
        have n_HQ := Aside0.mk (Kd.C_below HQ.out hb_)
        clear HL HB HC HQ
        have HL := n_HL
        have HB := n_HB
        have HC := n_HC
        have HQ := n_HQ
        clear n_HL n_HB n_HC n_HQ hb_
        clear hb
        refine hK.out _ _ HC.out (fun hHeld => ?_)
        clear hK K
        refine norm_ (a' := ?_) ?_ ?_
        rotate_left
        · show Act.put _ (some 106) _ = _
          simp only [Act.put, List.setIfInBounds_toArray, List.set_cons_zero, List.set_cons_succ, i64_w, i32_w]
          rfl
        refine one_ (i := 26) (N := some 107) #[true, true, true, true, true, true, true, true, true, true, true, true, true, true, true, true, true, true, true, true, true, true, true, true, true, true, true, false, false, false, false, false, false, false, false, false, false, false, false] rfl rfl (one_of HT_.out (by kernel_rfl)) (by decide) (fun K hK => ?_)
        refine goes_ Tryd.func22 (by kernel_rfl) rfl #[.slice uA d.length uc, .slice (some ⟨c9, 0, none⟩) m m] (by rfl) rfl rfl (by first | rfl | (go_simp; done)) ?_
        refine (bytes_calls HQ.out HQC.out (blk_C HC9.out (rcd_length _ _) (by have := HMM.out; omega)) (Nat.le_refl _) HDB.out (rcd_isB _ _)).mono ?_
        rintro e w_ ⟨rfl, ⟨nd6, rfl⟩⟩
        rw [show decide (d = rcd (k1 : Int) m) = true from decide_eq_true HDD.out]
        refine ⟨_, rfl, ?_⟩
        have hb := pw_below_drewN (Below.refl w5.heap.size w5) nd6
        clear HC9
        have hb_ := hb
        have n_HL := Aside0.mk (HL.out.under hb_)
        have n_HB := Aside0.mk (below_step HB.out hb_)
        have n_HC := Aside0.mk (cell_below HC.out hb_)
        have n_HQ := Aside0.mk (Kd.C_below HQ.out hb_)
        clear HL HB HC HQ
        have HL := n_HL
        have HB := n_HB
        have HC := n_HC
        have HQ := n_HQ
        clear n_HL n_HB n_HC n_HQ hb_
        clear hb
        refine hK.out _ _ HC.out (fun hHeld => ?_)
        clear hK K
        refine norm_ (a' := ?_) ?_ ?_
        rotate_left
        · show Act.put _ (some 107) _ = _
          simp only [Act.put, List.setIfInBounds_toArray, List.set_cons_zero, List.set_cons_succ, i64_w, i32_w]
          rfl
        refine pure_ (i := 27) (N := some 108) (v := ?_) (a' := ?_) #[true, true, true, true, true, true, true, true, true, true, true, true, true, true, true, true, true, true, true, true, true, true, true, true, true, true, true, true, false, false, false, false, false, false, false, false, false, false, false] rfl rfl (any_of HT_.out (by kernel_rfl)) (fun _ _ _ h => h) (Or.inl ⟨by rfl, ?_⟩) ?_ ?_
        rotate_left
        · intro w'
          go_simp
          with_reducible rfl
        rotate_left
        · simp only [Act.put, List.setIfInBounds_toArray, List.set_cons_zero, List.set_cons_succ, i64_w, i32_w]
          rfl
        refine pure_ (i := 28) (N := some 109) (v := ?_) (a' := ?_) #[true, true, true, true, true, true, true, true, true, true, true, true, true, true, true, true, true, true, true, true, true, true, true, true, true, true, true, true, true, false, false, false, false, false, false, false, false, false, false] rfl rfl (any_of HT_.out (by kernel_rfl)) (fun _ _ _ h => h) (Or.inl ⟨by rfl, ?_⟩) ?_ ?_
        rotate_left
        · intro w'
          go_simp
          with_reducible rfl
        rotate_left
        · simp only [Act.put, List.setIfInBounds_toArray, List.set_cons_zero, List.set_cons_succ, i64_w, i32_w]
          rfl
        refine pure_ (i := 29) (N := some 110) (v := ?_) (a' := ?_) #[true, true, true, true, true, true, true, true, true, true, true, true, true, true, true, true, true, true, true, true, true, true, true, true, true, true, true, true, true, true, false, false, false, false, false, false, false, false, false] rfl rfl (any_of HT_.out (by kernel_rfl)) (fun _ _ _ h => h) (Or.inl ⟨by rfl, ?_⟩) ?_ ?_
        rotate_left
        · intro w'
          go_simp
          with_reducible rfl
        rotate_left
        · simp only [Act.put, List.setIfInBounds_toArray, List.set_cons_zero, List.set_cons_succ, i64_w, i32_w]
          rfl
        refine pure_ (i := 31) (N := some 112) (v := ?_) (a' := ?_) #[true, true, true, true, true, true, true, true, true, true, true, true, true, true, true, true, true, true, true, true, true, true, true, true, true, true, true, true, true, true, false, true, false, false, false, false, false, false, false] rfl rfl (any_of HT_.out (by kernel_rfl)) (fun _ _ _ h => h) (Or.inl ⟨by rfl, ?_⟩) ?_ ?_
        rotate_left
        · intro w'
          go_simp
          with_reducible rfl
        rotate_left
        · simp only [Act.put, List.setIfInBounds_toArray, List.set_cons_zero, List.set_cons_succ, i64_w, i32_w]
          rfl
        refine pure_ (i := 32) (N := some 113) (v := ?_) (a' := ?_) #[true, true, true, true, true, true, true, true, true, true, true, true, true, true, true, true, true, true, true, true, true, true, true, true, true, true, true, true, true, true, false, true, true, false, false, false, false, false, false] rfl rfl (any_of HT_.out (by kernel_rfl)) (fun _ _ _ h => h) (Or.inl ⟨by rfl, ?_⟩) ?_ ?_
        rotate_left
        · intro w'
          go_simp
          first | rw [i64_w, W3.out] | rw [W3.out]
          (try with_reducible rfl)
        rotate_left
        · simp only [Act.put, List.setIfInBounds_toArray, List.set_cons_zero, List.set_cons_succ, i64_w, i32_w]
          rfl
        refine pure_ (i := 33) (N := some 114) (v := ?_) (a' := ?_) #[true, true, true, true, true, true, true, true, true, true, true, true, true, true, true, true, true, true, true, true, true, true, true, true, true, true, true, true, true, true, false, true, true, true, false, false, false, false, false] rfl rfl (any_of HT_.out (by kernel_rfl)) (fun _ _ _ h => h) (Or.inl ⟨by rfl, ?_⟩) ?_ ?_
        rotate_left
        · intro w'
          go_simp
          with_reducible rfl
        rotate_left
        · simp only [Act.put, List.setIfInBounds_toArray, List.set_cons_zero, List.set_cons_succ, i64_w, i32_w]
          rfl
        refine one_ (i := 30) (N := some 111) #[true, true, true, true, true, true, true, true, true, true, true, true, true, true, true, true, true, true, true, true, true, true, true, true, true, true, true, true, true, true, true, true, true, true, false, false, false, false, false] rfl rfl (one_of HT_.out (by kernel_rfl)) (by decide) (fun K hK => ?_)
        refine goes_ Tryd.func23 (by kernel_rfl) rfl #[.pointer (some ⟨lb2, 0, none⟩)] (by rfl) rfl rfl (by first | rfl | (go_simp; done)) ?_
        refine (LO.last HL.out).mono ?_
        rintro e w6 ⟨v_, rfl, ho, hb⟩
        refine ⟨_, rfl, ?_⟩
        obtain ⟨lA, lc, rfl, hlc, hlk⟩ := kdInt ho
        rw [show (rcd (k1 : Int) m :: t).headD [] = d from HDD.out.symm] at hlc hlk ⊢
        have HLK := Aside0.mk hlk
        have HLC := Aside0.mk hlc
        clear hlk hlc ho
        have hb_ := hb
        have n_HL := Aside0.mk (HL.out.under hb_)
        have n_HB := Aside0.mk (below_step HB.out hb_)
        have n_HC := Aside0.mk (cell_below HC.out hb_)
        have n_HQ := Aside0.mk (Kd.C_below HQ.out hb_)
        clear HL HB HC HQ
        have HL := n_HL
        have HB := n_HB
        have HC := n_HC
        have HQ := n_HQ
        clear n_HL n_HB n_HC n_HQ hb_
        clear hb
        refine hK.out _ _ HC.out (fun hHeld => ?_)
        clear hK K
        refine norm_ (a' := ?_) ?_ ?_
        rotate_left
        · show Act.put _ (some 111) _ = _
          simp only [Act.put, List.setIfInBounds_toArray, List.set_cons_zero, List.set_cons_succ, i64_w, i32_w]
          rfl
        refine one_ (i := 34) (N := some 115) #[true, true, true, true, true, true, true, true, true, true, true, true, true, true, true, true, true, true, true, true, true, true, true, true, true, true, true, true, true, true, true, true, true, true, true, false, false, false, false] rfl rfl (one_of HT_.out (by kernel_rfl)) (by decide) (fun K hK => ?_)
        refine goes_ Tryd.func20 (by kernel_rfl) rfl #[.int .i64 (k1 : Int), .int .i64 (m : Int)] (by rfl) rfl rfl (by first | rfl | (go_simp; done)) ?_
        refine (record.some_ (k1 : Int) m (by have := HMM.out; omega) _).mono ?_
        rintro e w5 ⟨c9, rfl, hc9, hge9, hb⟩
        refine ⟨_, rfl, ?_⟩
        have HC9 := Aside0.mk hc9
        clear hc9 hge9
        have hb_ := hb
        have n_HL := Aside0.mk (HL.out.under hb_)
        have n_HB := Aside0.mk (below_step HB.out hb_)
        have n_HC := Aside0.mk (cell_below HC.out hb_)
        have n_HQ := Aside0.mk (Kd.C_below HQ.out hb_)
        have n_HLK := Aside0.mk (Kd.C_below HLK.out hb_)
        clear HL HB HC HQ HLK
        have HL := n_HL
        have HB := n_HB
        have HC := n_HC
        have HQ := n_HQ
        have HLK := n_HLK
        clear n_HL n_HB n_HC n_HQ n_HLK hb_
        clear hb
        refine hK.out _ _ HC.out (fun hHeld => ?_)
        clear hK K
        refine norm_ (a' := ?_) ?_ ?_
        rotate_left
        · show Act.put _ (some 115) _ = _
          simp only [Act.put, List.setIfInBounds_toArray, List.set_cons_zero, List.set_cons_succ, i64_w, i32_w]
          rfl
        refine one_ (i := 35) (N := some 116) #[true, true, true, true, true, true, true, true, true, true, true, true, true, true, true, true, true, true, true, true, true, true, true, true, true, true, true, true, true, true, true, true, true, true, true, true, false, false, false] rfl rfl (one_of HT_.out (by kernel_rfl)) (by decide) (fun K hK => ?_)
        refine goes_ Tryd.func22 (by kernel_rfl) rfl #[.slice lA d.length lc, .slice (some ⟨c9, 0, none⟩) m m] (by rfl) rfl rfl (by first | rfl | (go_simp; done)) ?_
        refine (bytes_calls HLK.out HLC.out (blk_C HC9.out (rcd_length _ _) (by have := HMM.out; omega)) (Nat.le_refl _) HDB.out (rcd_isB _ _)).mono ?_
        rintro e w_ ⟨rfl, ⟨nd6, rfl⟩⟩
        rw [show decide (d = rcd (k1 : Int) m) = true from decide_eq_true HDD.out]
        refine ⟨_, rfl, ?_⟩
        have hb := pw_below_drewN (Below.refl w5.heap.size w5) nd6
        clear HC9
        have hb_ := hb
        have n_HL := Aside0.mk (HL.out.under hb_)
        have n_HB := Aside0.mk (below_step HB.out hb_)
        have n_HC := Aside0.mk (cell_below HC.out hb_)
        have n_HQ := Aside0.mk (Kd.C_below HQ.out hb_)
        clear HL HB HC HQ
        have HL := n_HL
        have HB := n_HB
        have HC := n_HC
        have HQ := n_HQ
        clear n_HL n_HB n_HC n_HQ hb_
        clear hb
        refine hK.out _ _ HC.out (fun hHeld => ?_)
        clear hK K
        refine norm_ (a' := ?_) ?_ ?_
        rotate_left
        · show Act.put _ (some 116) _ = _
          simp only [Act.put, List.setIfInBounds_toArray, List.set_cons_zero, List.set_cons_succ, i64_w, i32_w]
          rfl
        refine pure_ (i := 36) (N := some 117) (v := ?_) (a' := ?_) #[true, true, true, true, true, true, true, true, true, true, true, true, true, true, true, true, true, true, true, true, true, true, true, true, true, true, true, true, true, true, true, true, true, true, true, true, true, false, false] rfl rfl (any_of HT_.out (by kernel_rfl)) (fun _ _ _ h => h) (Or.inl ⟨by rfl, ?_⟩) ?_ ?_
        rotate_left
        · intro w'
          go_simp
          with_reducible rfl
        rotate_left
        · simp only [Act.put, List.setIfInBounds_toArray, List.set_cons_zero, List.set_cons_succ, i64_w, i32_w]
          rfl
        refine pure_ (i := 37) (N := some 118) (v := ?_) (a' := ?_) #[true, true, true, true, true, true, true, true, true, true, true, true, true, true, true, true, true, true, true, true, true, true, true, true, true, true, true, true, true, true, true, true, true, true, true, true, true, true, false] rfl rfl (any_of HT_.out (by kernel_rfl)) (fun _ _ _ h => h) (Or.inl ⟨by rfl, ?_⟩) ?_ ?_
        rotate_left
        · intro w'
          go_simp
          with_reducible rfl
        rotate_left
        · simp only [Act.put, List.setIfInBounds_toArray, List.set_cons_zero, List.set_cons_succ, i64_w, i32_w]
          rfl
        refine pure_ (i := 38) (N := some 8) (v := ?_) (a' := ?_) #[true, true, true, true, true, true, true, true, true, true, true, true, true, true, true, true, true, true, true, true, true, true, true, true, true, true, true, true, true, true, true, true, true, true, true, true, true, true, true] rfl rfl (any_of HT_.out (by kernel_rfl)) (fun _ _ _ h => h) (Or.inl ⟨by rfl, ?_⟩) ?_ ?_
        rotate_left
        · intro w'
          go_simp
          with_reducible rfl
        rotate_left
        · simp only [Act.put, List.setIfInBounds_toArray, List.set_cons_zero, List.set_cons_succ, i64_w, i32_w]
          rfl
        refine done_ (done_of HT_.out (by kernel_rfl)) ?_
        clear HT_ HW_ hHeld
        go_wp2
        (try simp only [Exit.inBlock, Exit.then])
        go_ret
        exact ⟨rfl, HB.out⟩
end Go.Proofs.YtgeggcifhojpmaaDoor.PB
namespace Go.Proofs.YtgeggcifhojpmaaDoor.logMany
open Go.ChangeShapes Go.WideShapes Go.ChangeAt Go.RowKit Go.Joins Go.Proofs.YtgeggcifhojpmaaDoorW.PrintWords Go.Proofs.YtgeggcifhojpmaaDoorW.AggWords
open Go.ChangeMaps (open_string shut_string)
set_option linter.unusedVariables false
theorem own : ownKnob Tryd.prog.godebug = none := by kernel_rfl
theorem laidOut : laidOutB Tryd.prog = true := by kernel_rfl
theorem gN : Tryd.prog.globalNamed "lych/log.errBlock" = some 0 := by kernel_rfl
theorem gType : (Tryd.prog.globals[0]?).map (·.type) = some 67 := by kernel_rfl
theorem cells115 : Tryd.prog.cellsOf 115 = 1 := by kernel_rfl
theorem cells9 : Tryd.prog.cellsOf 9 = 1 := by kernel_rfl
theorem star : "*" ++ "errors.errorString" = "*errors.errorString" := by decide
theorem row91 (u : TypeId) (h : Tryd.prog.typeName? 3 u = some "*errors.errorString") : u = 91 :=
  typeName_ptr_named (nm := "errors.errorString") (by rw [star]; kernel_rfl) (by kernel_rfl) (by decide) u (by rw [star]; exact h)
/-- What the listed variable holds. -/
theorem laid_ge {W : World} (h : laidMetH Tryd.prog Rows.logManyRow.laid W) : ∃ ge : Addr, W.cell? ⟨0, 0, none⟩ = some (.iface 91 (.pointer (some ge))) := by
  have h' : laidMet Tryd.prog [("lych/log.errBlock", Rows.laid_lych_log_errBlock)] W := h
  obtain ⟨a, s, hv, _⟩ := laid_sentinel h' gN gType Tryd.underlying67 row91 Tryd.underlying91 Tryd.underlying115 rfl rfl Tryd.underlying9 cells115 cells9
  exact ⟨a, by simpa using World.var?_cell gN hv 0⟩
noncomputable def low : Nat := (World.holding Tryd.prog default ⟨#[], #[], []⟩).heap.size
noncomputable def laidWorld (os : Os) : World :=
  let w0 := World.holding Tryd.prog os ⟨#[.cells #[.string { data := #[110, 111, 32, 115, 117, 99, 104, 32, 98, 108, 111, 99, 107] }] 115], #[], []⟩
  { w0 with heap := w0.heap.modify 0 fun
      | .cells _ t frozen => .cells #[.iface 91 (.pointer (some ⟨low, 0, none⟩))] t frozen
      | o => o }
theorem laidWorld_met (os : Os) (args : Array Value) : laidMetH Tryd.prog Rows.logManyRow.laid ((laidWorld os).forCall (fun _ _ => 0) ⟨#[], args, []⟩).memory :=
  laidMetH_of_parts (laidMet_of_run (ps := [.cell 0 0, .cell low 0]) 8 (by kernel_rfl) (by kernel_rfl) (by kernel_rfl)) (by kernel_rfl)
set_option maxRecDepth 100000 in
theorem lifted (os : Os) (started : os.Started) (H : Type) (enc : TypeId × Value → H) :
    ReturnsInHanded {} Tryd.checked os 5 .any (fun w args => (Rows.logManySpec.pre enc Tryd.prog Tryd.f5 [] false w args ∧ laidMetH Tryd.prog Rows.logManyRow.laid w) ∧ sizedMet enc Tryd.prog Tryd.f5 (OpenSpec.ofChange Rows.logManySpec) false w args)
      (Rows.logManySpec.post enc Tryd.prog Tryd.f5 false true false false) := by
  refine returnsInHanded_of_change_and (C := Tryd.checked) (X := fun w _ => laidMetH Tryd.prog Rows.logManyRow.laid w) (fun _ _ _ hh h => h.of_heap hh) own started (by kernel_rfl) Tryd.func5
    (ChangeSpec.witness_at (enc := enc) (C := Tryd.checked) (os := os) (X := fun w _ => laidMetH Tryd.prog Rows.logManyRow.laid w) false (laidWorld os) #[.int .u16 0, .int .u16 0, .int .u8 0, .int .u8 0] 8 rfl (by kernel_rfl) (by kernel_rfl) (by kernel_rfl) (by kernel_rfl) (by kernel_rfl) (laidWorld_met os _)) ?_
  intro W base args ds gs before hval0 hW _ _ hL _
  have hval : ∀ (j : Nat) t v, Tryd.f5.params[j]? = some t → args[j]? = some v → Value.okWide Tryd.prog W .any base t v := hval0
  have hW' := hW
  obtain ⟨p, q, hA0, hV, rfl, hfz, hnd⟩ := hW
  have hA : DataW.TrodAll enc Tryd.prog W 0 (fun _ => true) true Tryd.f5.params.toList args.toList ds p := hA0
  rw [Tryd.params5] at hA hval
  obtain ⟨v0, vs0, d0, ds0, p0, q0, hargs, rfl, rfl, h0, r0⟩ := trodAll_cons hA
  obtain ⟨v1, vs1, d1, ds1, p1, q1, rfl, rfl, rfl, h1, r1⟩ := trodAll_cons r0
  obtain ⟨v2, vs2, d2, ds2, p2, q2, rfl, rfl, rfl, h2, r2⟩ := trodAll_cons r1
  obtain ⟨v3, vs3, d3, ds3, p3, q3, rfl, rfl, rfl, h3, r3⟩ := trodAll_cons r2
  obtain ⟨rfl, rfl, rfl⟩ := trodAll_nil r3
  obtain rfl : args = #[v0, v1, v2, v3] := by cases args; simp_all
  obtain ⟨rfl, rfl⟩ := trodVars_none hV
  obtain ⟨ge, hge⟩ := laid_ge hL
  obtain ⟨a0, rfl, rfl, rfl, w0⟩ := open_int Tryd.underlying39 (hval 0 39 v0 rfl rfl) h0
  obtain ⟨a1, rfl, rfl, rfl, w1⟩ := open_int Tryd.underlying39 (hval 1 39 v1 rfl rfl) h1
  obtain ⟨a2, rfl, rfl, rfl, w2⟩ := open_int Tryd.underlying5 (hval 2 5 v2 rfl rfl) h2
  obtain ⟨a3, rfl, rfl, rfl, w3⟩ := open_int Tryd.underlying5 (hval 3 5 v3 rfl rfl) h3
  clear hA0 hval0
  refine (PB.LogMany.calls a0 a1 a2 a3 W ge hge (PB.wfu16 w0) (PB.wfu16 w1) (PB.wfu8 w2) (PB.wfu8 w3)).mono fun e W' ⟨he, bel⟩ => ?_
  subst he
  exact ⟨_, rfl, _, _, _, [], _, [], hW', trodAll_mk1 (shut_bool Tryd.underlying4 _), (trodAll_cons_mk (shut_int Tryd.underlying39 w0) (trodAll_cons_mk (shut_int Tryd.underlying39 w1) (trodAll_cons_mk (shut_int Tryd.underlying5 w2) (trodAll_cons_mk (shut_int Tryd.underlying5 w3) trodAll_mk0)))), rfl, bel.frame _, fun h => by cases h⟩
theorem over : Rows.logManyRow.holds Tryd.pinned (OpenSpec.ofChange Rows.logManySpec) :=
  OpenClaim.holds_of_wide 5 Tryd.f5 rfl rfl rfl rfl rfl rfl rfl ⟨rfl, rfl, rfl, rfl, rfl⟩ rfl rfl rfl rfl rfl (by kernel_rfl) Tryd.func5 (by kernel_rfl)
    (of_decide_eq_true (by kernel_rfl)) (by unfold Func.isWrapper; first | (rw [if_pos (by decide +kernel)]; kernel_rfl) | (rw [if_neg (by decide +kernel)]; exact ⟨rfl, rfl⟩))
    (fun os started H enc _ => lifted os started H enc)
theorem proved : Rows.LogManySaid := over
theorem card : Rows.LogManyCardSaid :=
  Claim7.holds_tied_plain_at .later [] [.sentinel] true (true, "d6af000c36f002e728fe3a0d9820601450968c7f60402185504d7936053a82d1") true
    proved (fun _ h => by cases h) (by kernel_rfl) (fun _ h => by cases h) logMany_row_tie rfl ⟨rfl, rfl⟩ (by kernel_rfl) rfl
    (fun f fn hf hfn => by
      obtain rfl : f = 5 := Option.some.inj ((show Tryd.prog.funcNamed "lych/lychlaw10.LogMany" = some 5 by kernel_rfl).symm.trans hf) |>.symm
      obtain rfl : fn = Tryd.f5 := (Option.some.inj (Tryd.func5.symm.trans hfn)).symm
      exact ⟨by kernel_rfl, fun j t ht => by
        rw [Tryd.params5] at ht
        have h3 : t = 5 ∨ t = 39 := by
          rcases j with _ | j
          · simp at ht; subst ht; simp
          rcases j with _ | j
          · simp at ht; subst ht; simp
          rcases j with _ | j
          · simp at ht; subst ht; simp
          rcases j with _ | j
          · simp at ht; subst ht; simp
          simp at ht
        rcases h3 with rfl | rfl
        · exact (show Tryd.prog.wantsStandIn 5 = false by kernel_rfl)
        · exact (show Tryd.prog.wantsStandIn 39 = false by kernel_rfl)⟩)
    (by kernel_rfl)
#print axioms card
end Go.Proofs.YtgeggcifhojpmaaDoor.logMany
namespace Go.Proofs.YtgeggcifhojpmaaDoor
/-- The tied card, under a short name, for the claim. -/
theorem logManyCard_holds : Rows.LogManyCardSaid := logMany.card
end Go.Proofs.YtgeggcifhojpmaaDoor
