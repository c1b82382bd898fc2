/- LogTwice: for every input the Go function returns true, and each argument reads as before; the listed variable tied to the program's text. -/
import Derived.Test.YtgeggcifhojpmaaDoorZLf
import Derived.Test.YtgeggcifhojpmaaDoorRows
import Derived.Test.YtgeggcifhojpmaaDoorTie
import Derived.Test.YtgeggcifhojpmaaDoorCards
import Derived.Test.YtgeggcifhojpmaaDoorZW
import Derived.WalkKit
import Derived.ProofKit
import Derived.OpenShut
import Derived.ShutString
import Derived.ChangeOld
import Derived.Below
import Derived.SizedLaws
import Derived.Lib.SmallJoins
import Derived.RowKitTokens
import Derived.LaidLaws
import Derived.LaidHandle
import Derived.Stop.LaidErr
import Derived.Stop.LaidTwo
import Derived.SevenTiedAt
/- LogTwice: falls behind falls lose nothing that was acknowledged. -/
namespace Go.Proofs.YtgeggcifhojpmaaDoor.PB
open Go.RowKit Go.Proofs.YtgeggcifhojpmaaDoorW.PrintWords Go.Proofs.YtgeggcifhojpmaaDoorW.PrintLast Go.Proofs.YtgeggcifhojpmaaDoorW.PrintMore
attribute [local go_sem] max2_mx min2_mn max_two min_two max_three min_three max_four min_four   -- for this text's walks alone
set_option linter.unusedVariables false
set_option linter.unusedSimpArgs false

/-- The j-th record. -/
def recJ (y rm j : Nat) : List Int := rcd (j : Int) ((y + j) % (rm + 1))
def TW (y rm : Nat) (last : Int) (l : List (List Int)) (i : Nat) : Prop := (last = -1 ∧ l = []) ∨ ∃ j : Nat, last = (j : Int) ∧ j < i ∧ ∃ t, l = recJ y rm j :: t
set_option maxHeartbeats 40000000 in
set_option maxRecDepth 100000 in
theorem LogTwice.calls (A0 : Option Addr) (c0 : Nat) (l0 : List Int) (a1 a2 : Int) (w : World) (ge : Addr) (hge : w.cell? ⟨0, 0, none⟩ = some (.iface 91 (.pointer (some ge)))) (hr0 : Kd.C (Kd.int .u8) w A0 l0.length l0) (hc0 : l0.length ≤ c0) (hw0 : IsB l0) (hw1 : 0 ≤ a1 ∧ a1 ≤ 65535) :
    Calls Tryd.prog 9 #[.slice A0 l0.length c0, .int .u16 a1, .int .i64 a2] w fun e w' => e = .returned (.bool true) ∧ Below w.heap.size w w' := by
  have HG := Aside0.mk hge
  have HR2 := Aside0.mk hr0
  have HW2 := Aside0.mk hw0
  obtain ⟨y, hy, hy2⟩ : ∃ y : Nat, a1 = (y : Int) ∧ y ≤ 65535 := ⟨a1.toNat, by omega, by omega⟩
  subst hy
  clear hge hr0 hw0 hc0 hw1
  go_enter Tryd.func9, Tryd.ntmps9
  go_wp2_with fail
  refine (known.calls w ge HG.out).mono ?_
  rintro e w1 ⟨rfl, hb⟩
  have HB := Aside0.mk hb
  clear hb
  obtain ⟨n2, hn2⟩ : ∃ n2, n2 = l0.length := ⟨_, rfl⟩
  have HN2 := Aside0.mk hn2
  rw [← hn2]
  clear hn2
  by_cases h30 : 20 < n2
  · have hc1 : decide ((20 : Int) < (n2 : Int)) = true := decide_eq_true (by omega)
    have hc2 : decide (20 < n2) = true := decide_eq_true h30
    (try dsimp only)
    go_wp2
    (try simp only [Exit.inBlock, Exit.then])
    go_ret
    exact ⟨rfl, HB.out⟩
  have NL := Aside0.mk (show n2 ≤ 20 by omega)
  have hca : decide ((20 : Int) < ((n2 : Nat) : Int)) = false := decide_eq_false (by omega)
  have hcb : decide (20 < n2) = false := decide_eq_false (by omega)
  have hcc : (20 < n2) = False := eq_false (by omega)
  have hcd : ((20 : Int) < ((n2 : Nat) : Int)) = False := eq_false (by omega)
  clear h30
  (try dsimp only)
  go_wp2_with fail
  refine (LD.new (7) (400) w1 (by rw [dkN_id (7) (by omega), dkS_id (400) (by omega)]; omega)).mono ?_
  rintro e w2 ⟨g, q, hs, rfl, hd, hn, hb⟩
  rw [dkS_id (400) (by omega)] at hd
  rw [dkN_id (7) (by omega)] at hn
  have HN := Aside0.mk hn
  clear hn
  obtain ⟨base, hbase⟩ : ∃ base, base = w1.heap.size := ⟨_, rfl⟩
  rw [← hbase] at hd
  have HD := Aside0.mk hd
  have HBS := Aside0.mk (show w.heap.size ≤ base by rw [hbase]; exact below_size HB.out)
  obtain ⟨b0, hb0⟩ : ∃ b0, b0 = w2.heap.size := ⟨_, rfl⟩
  have n_HB := Aside0.mk (below_step HB.out hb)
  have HB0 := Aside0.mk (show q < b0 ∧ (∀ b ∈ hs, b < b0) ∧ w.heap.size ≤ b0 by rw [hb0]; exact ⟨hd.lt.2.1, hd.lt.2.2, below_size n_HB.out⟩)
  have HS0 := Aside0.mk (show b0 ≤ w2.heap.size by rw [hb0]; exact Nat.le_refl _)
  clear HB hd hb hbase hb0
  have HB := n_HB
  clear n_HB
  clear hca hcb hcc hcd
  obtain ⟨sz, hsz⟩ : ∃ sz, sz = 400 := ⟨_, rfl⟩
  rw [← hsz] at HD
  clear hsz
  (try dsimp only)
  go_wp2_with fail
  refine (LD.open_ HD.out ge (gcell HG.out HB.out)).mono ?_
  rintro e w3 ⟨lb, A, oc, rfl, hlb, hoc, hk, hl, hb⟩
  have HL := Aside0.mk hl
  clear HD hlb hk hl hoc
  have hb_ := hb
  have n_HB := Aside0.mk (below_step HB.out hb_)
  have n_HS0 := Aside0.mk (Nat.le_trans HS0.out (below_size hb_))
  clear HB HS0
  have HB := n_HB
  have HS0 := n_HS0
  clear n_HB n_HS0 hb_
  clear hb
  (try dsimp only)
  go_wp2_with fail
  refine (LD.room HL.out.ld).mono ?_
  rintro e w_ ⟨rfl, ⟨nd3, rfl⟩⟩
  have hRM := room_le HL.out.ld.big
  obtain ⟨rm, hrm⟩ : ∃ rm, rm = lgRoom hs.length (sz) := ⟨_, rfl⟩
  rw [← hrm] at hRM ⊢
  have HRM := Aside0.mk hrm
  have hrmle : rm ≤ 16384 := hRM.2.2
  clear hrm hRM
  have hb := pw_below_drewN (Below.refl w3.heap.size w3) nd3
  have hb_ := hb
  have n_HL := Aside0.mk (HL.out.under hb_)
  have n_HB := Aside0.mk (below_step HB.out hb_)
  have n_HS0 := Aside0.mk (Nat.le_trans HS0.out (below_size hb_))
  clear HL HB HS0
  have HL := n_HL
  have HB := n_HB
  have HS0 := n_HS0
  clear n_HL n_HB n_HS0 hb_
  clear hb
  generalize w3.drewN nd3 = w4 at HL HB HS0 ⊢
  (try dsimp only)
  go_wp2_with fail
  go_loopg [8, 11, 13] n2 (fun kq v8 v11 v13 w' => ∃ (i lb : Nat) (last : Int) (l : List (List Int)) (rc cut pre : Int), v8 = .pointer (some ⟨lb, 0, none⟩) ∧ v11 = .int .i64 last ∧ v13 = .int .i64 (i : Int) ∧ Aside0 (kq + i = n2) ∧ Aside0 (LO w' base g q sz hs cut pre false lb l rc (i : Int)) ∧ Aside0 (TW y rm last l i ∧ rc ≤ (i : Int)) ∧ Aside0 (Below w.heap.size w w') ∧ Aside0 (b0 ≤ w'.heap.size))
  case atStart => exact ⟨0, lb, -1, [], 0, _, _, rfl, rfl, rfl, ⟨rfl⟩, ⟨HL.out⟩, ⟨Or.inl ⟨rfl, rfl⟩, by omega⟩, ⟨HB.out⟩, ⟨HS0.out⟩⟩
  case round =>
    clear HL HB HS0
    obtain ⟨i, lb, last, l, rc, cut, pre, rfl, rfl, rfl, HK, HL, HT, HB, HS0⟩ := hrel
    by_cases c6 : i < n2
    · have c6a : decide (((i : Nat) : Int) < ((n2 : Nat) : Int)) = true := decide_eq_true (by omega)
      have c6b : decide (i < n2) = true := decide_eq_true (by omega)
      have c6c : (i < n2) = True := eq_true (by omega)
      have c6d : (((i : Nat) : Int) < ((n2 : Nat) : Int)) = True := eq_true (by omega)
      have H6 := Aside0.mk (show i < n2 ∧ i ≤ 20 by have := NL.out; omega)
      have hi20 : i ≤ 20 := H6.out.2
      clear c6
      obtain ⟨ad2, e2, hx2⟩ := Kd.at_int (Kd.C_below HR2.out HB.out) (i : Int) (by omega) (by have := H6.out; have := HN2.out; omega)
      subst e2
      obtain ⟨x, hx⟩ : ∃ x : Nat, rd l0 (i : Int) = (x : Int) ∧ x ≤ 255 := by
        have hlt : i < l0.length := by have := H6.out; have := HN2.out; omega
        have hm : rd l0 (i : Int) ∈ l0 := by
          unfold rd
          rw [Int.toNat_natCast, List.getD_eq_getElem?_getD, List.getElem?_eq_getElem hlt]
          exact List.getElem_mem _
        have := HW2.out _ hm
        exact ⟨(rd l0 (i : Int)).toNat, by omega, by omega⟩
      rw [hx.1, Int.toNat_natCast] at hx2
      have hx3 := hx.2
      clear hx
      (try dsimp only)
      go_wp2_with fail
      refine (HL.out.cut_ _ _).mono ?_
      rintro e w6 ⟨rfl, hl, hf⟩
      obtain ⟨p, hp, hps⟩ := mn_pre a2 sz
      rw [hp] at hl
      obtain ⟨ct, hct, hct2⟩ : ∃ ct : Int, ct = mx ((x : Int) % 5) 0 ∧ 0 ≤ ct ∧ ct ≤ 1000 := ⟨_, rfl, by unfold mx; split <;> omega, by unfold mx; split <;> omega⟩
      rw [← hct] at hl
      have HCT := Aside0.mk hct2
      have HP := Aside0.mk hps
      clear hp hps hct hct2 hx2 hx3
      have n_HB : Aside0 (Below w.heap.size w w6) := ⟨hf.below HB.out (below_size HB.out) (fun k hk => Nat.le_trans HBS.out (HL.out.own (Or.inl hk)))⟩
      have n_HS0 := Aside0.mk (Nat.le_trans HS0.out hf.size)
      clear HL HB HS0 hf
      have HL := Aside0.mk hl
      have HB := n_HB
      have HS0 := n_HS0
      clear hl n_HB n_HS0
      (try dsimp only)
      go_wp2_with fail
      have em : ((y : Int) + (i : Int)) % ((rm : Int) + 1) = (((y + i) % (rm + 1) : Nat) : Int) := by push_cast; rfl
      rw [em]
      clear em
      obtain ⟨m, hm⟩ : ∃ m, m = (y + i) % (rm + 1) := ⟨_, rfl⟩
      have HMM := Aside0.mk (show m < rm + 1 by rw [hm]; exact Nat.mod_lt _ (by omega))
      have HRJ := Aside0.mk (show rcd (i : Int) m = recJ y rm i by rw [hm]; rfl)
      rw [← hm]
      clear hm
      refine (record.some_ (i : Int) m (by have := HMM.out; omega) w6).mono ?_
      rintro e w7 ⟨c7, rfl, hc7, hge7, hb⟩
      have HC7 := Aside0.mk hc7
      have HNE := Aside0.mk (HL.out.above hge7)
      have HG7 := Aside0.mk (Nat.le_trans HS0.out hge7)
      clear hc7 hge7
      have hb_ := hb
      have n_HL := Aside0.mk (HL.out.under hb_)
      have n_HB := Aside0.mk (below_step HB.out hb_)
      have n_HS0 := Aside0.mk (Nat.le_trans HS0.out (below_size hb_))
      clear HL HB HS0
      have HL := n_HL
      have HB := n_HB
      have HS0 := n_HS0
      clear n_HL n_HB n_HS0 hb_
      clear hb
      (try dsimp only)
      go_wp2_with fail
      refine (LO.append_ HL.out c7 (rcd (i : Int) m) (rcd_length _ _) HC7.out HNE.out (rcd_isB _ _) (by rw [← HRM.out]; have := HMM.out; omega) (Or.inl (by have := H6.out; omega)) (by have := H6.out; have := HT.out.2; omega) p ⟨rfl, HP.out⟩ (by have := HCT.out; omega)).mono ?_
      rintro e w8 ⟨hf, cut', hc1, hc2, hcase⟩
      have n_HS0 := Aside0.mk (Nat.le_trans HS0.out hf.size)
      have n_HB : Aside0 (Below w.heap.size w w8) := ⟨hf.below HB.out (below_size HB.out) (fun k hk => Nat.le_trans HBS.out (HL.out.own hk))⟩
      clear HL HB HS0 HC7 HCT HNE HG7 hc1 hc2 hf
      have HS0 := n_HS0
      have HB := n_HB
      clear n_HS0 n_HB
      rcases hcase with ⟨rfl, hl⟩ | ⟨hc0, rfl, hlx, l', rc', hd, hcase⟩
      · have HL := Aside0.mk hl
        clear hl
        (try dsimp only)
        go_wp2
        have w7_ : wrap64 ((i : Int) + 1) = ((i + 1 : Nat) : Int) := by unfold wrap64; have := H6.out; omega
        go_roundg (gk - 1)
        case measure => have := HK.out; have := H6.out; omega
        case rel => exact ⟨i + 1, lb, (i : Int), (rcd (i : Int) m :: l.take 1), (rc + 1), cut', _, rfl, rfl, by first | rfl | (simp [w7_]; done) | (simp only [w7_]; rfl), ⟨by have := HK.out; have := H6.out; omega⟩, ⟨HL.out⟩, ⟨Or.inr ⟨i, rfl, by omega, _, by rw [HRJ.out]⟩, by have := HT.out.2; omega⟩, ⟨HB.out⟩, ⟨HS0.out⟩⟩
      · have HD := Aside0.mk hd
        clear hd hc0 hlx
        (try dsimp only)
        go_wp2_with fail
        refine (LD.power HD.out).mono ?_
        rintro e w10 ⟨rfl, hd, hf⟩
        have n_HB : Aside0 (Below w.heap.size w w10) := ⟨hf.below HB.out (below_size HB.out) (fun k hk => by rw [hk]; exact Nat.le_trans HBS.out HD.out.own.1)⟩
        have n_HS0 := Aside0.mk (Nat.le_trans HS0.out hf.size)
        clear HD HB HS0 hf
        have HD := Aside0.mk hd
        have HB := n_HB
        have HS0 := n_HS0
        clear hd n_HB n_HS0
        (try dsimp only)
        go_wp2_with fail
        refine (LD.open_ HD.out ge (gcell HG.out HB.out)).mono ?_
        rintro e w11 ⟨lb2, A6, oc6, rfl, hlb, hoc, hk, hl, hb⟩
        obtain ⟨r6, hr6⟩ : ∃ r6, r6 = l'.reverse.length := ⟨_, rfl⟩
        rw [← hr6] at hk hoc ⊢
        have HK6 := Aside0.mk hk
        have hr62 : r6 = l'.length := by rw [hr6, List.length_reverse]
        have HRL := Aside0.mk (show r6 = l'.length ∧ r6 ≤ 2 by have := hl.ld.rc0.2.2; omega)
        clear hr6 hr62 hoc hk hlb HD
        have hb_ := hb
        have n_HB := Aside0.mk (below_step HB.out hb_)
        have n_HS0 := Aside0.mk (Nat.le_trans HS0.out (below_size hb_))
        clear HB HS0
        have HB := n_HB
        have HS0 := n_HS0
        clear n_HB n_HS0 hb_
        clear hb
        have HL := Aside0.mk hl
        clear hl
        have HRC := Aside0.mk (show rc' ≤ rc + 1 by rcases hcase with ⟨h, _⟩ | ⟨h, _⟩ <;> omega)
        rcases HT.out.1 with ⟨rfl, rfl⟩ | ⟨j, rfl, hj, t, rfl⟩
        · rcases hcase with ⟨_, hl'⟩ | ⟨_, hl'⟩
          · obtain rfl : l' = [] := by rcases hl' with h | h <;> simpa using h
            obtain rfl : r6 = 0 := by have := HRL.out.1; simpa using this
            clear hl' HK6
            (try dsimp only)
            go_wp2
            have w7_ : wrap64 ((i : Int) + 1) = ((i + 1 : Nat) : Int) := by unfold wrap64; have := H6.out; omega
            go_roundg (gk - 1)
            case measure => have := HK.out; have := H6.out; omega
            case rel => exact ⟨i + 1, lb2, (-1), [], rc', _, _, rfl, rfl, by first | rfl | (simp [w7_]; done) | (simp only [w7_]; rfl), ⟨by have := HK.out; have := H6.out; omega⟩, ⟨HL.out⟩, ⟨Or.inl ⟨rfl, rfl⟩, by have := HT.out.2; have := HRC.out; omega⟩, ⟨HB.out⟩, ⟨HS0.out⟩⟩
          · obtain ⟨d, hd⟩ : ∃ d, d = rcd (i : Int) m := ⟨_, rfl⟩
            have HDD := Aside0.mk hd
            have hh : l'.headD [] = d := by rw [hl', hd]; rfl
            have HLL := Aside0.mk (show ∃ t, l' = recJ y rm i :: t from ⟨_, by rw [hl', HRJ.out]⟩)
            clear hl' hd
            have H60 := Aside0.mk (show 0 < r6 by obtain ⟨t_, ht_⟩ := HLL.out; rw [HRL.out.1, ht_]; simp)
            obtain ⟨ad6, uA, uc, e6, hx6, hxc, hxk⟩ := kd_last HK6.out H60.out
            subst e6
            rw [hh] at hx6 hxc hxk
            obtain ⟨p6, hp6⟩ : ∃ p6, p6 = r6 - 1 := ⟨_, rfl⟩
            rw [← hp6] at hx6
            have w2_ : wrap64 ((r6 : Int) - 1) = (p6 : Int) := by unfold wrap64; have := HRL.out; have := H60.out; omega
            have rpa : decide (((p6 : Nat) : Int) < ((r6 : Nat) : Int)) = true := decide_eq_true (by have := H60.out; omega)
            have rpb : decide (p6 < r6) = true := decide_eq_true (by have := H60.out; omega)
            have rpc : (p6 < r6) = True := eq_true (by have := H60.out; omega)
            have rpd : (((p6 : Nat) : Int) < ((r6 : Nat) : Int)) = True := eq_true (by have := H60.out; omega)
            have rzh : ¬ ((r6 : Int) = 0) := by have := H60.out; omega
            have rza : decide ((r6 : Int) = 0) = false := decide_eq_false rzh
            have rzb : ((r6 : Int) = 0) = False := eq_false rzh
            have rzc : ((r6 : Int) == 0) = false := beq_eq_false_iff_ne.2 rzh
            have rzd : ((r6 : Int) != 0) = true := bne_iff_ne.2 rzh
            have HQ := Aside0.mk hxk
            have HQC := Aside0.mk hxc
            clear hxk hxc hp6 hh HK6 rzh
            have HDB : Aside0 (IsB d) := ⟨by rw [HDD.out]; exact rcd_isB _ _⟩
            (try dsimp only)
            go_wp2_with fail
            clear w2_ hx6
            refine (record.some_ (i : Int) m (by have := HMM.out; omega) w11).mono ?_
            rintro e w12 ⟨c9, rfl, hc9, hge9, hb⟩
            have HC9 := Aside0.mk hc9
            clear hc9 hge9
            have hb_ := hb
            have n_HL := Aside0.mk (HL.out.under hb_)
            have n_HB := Aside0.mk (below_step HB.out hb_)
            have n_HS0 := Aside0.mk (Nat.le_trans HS0.out (below_size hb_))
            have n_HQ := Aside0.mk (Kd.C_below HQ.out hb_)
            clear HL HB HS0 HQ
            have HL := n_HL
            have HB := n_HB
            have HS0 := n_HS0
            have HQ := n_HQ
            clear n_HL n_HB n_HS0 n_HQ hb_
            clear hb
            (try dsimp only)
            go_wp2_with fail
            refine (bytes_calls HQ.out HQC.out (blk_C HC9.out (rcd_length _ _) (by have := HMM.out; omega)) (Nat.le_refl _) HDB.out (rcd_isB _ _)).mono ?_
            rintro e w_ ⟨rfl, ⟨nd7, rfl⟩⟩
            rw [show decide (d = rcd (i : Int) m) = true from decide_eq_true HDD.out]
            clear HC9
            have hb := pw_below_drewN (Below.refl w12.heap.size w12) nd7
            have hb_ := hb
            have n_HL := Aside0.mk (HL.out.under hb_)
            have n_HB := Aside0.mk (below_step HB.out hb_)
            have n_HS0 := Aside0.mk (Nat.le_trans HS0.out (below_size hb_))
            have n_HQ := Aside0.mk (Kd.C_below HQ.out hb_)
            clear HL HB HS0 HQ
            have HL := n_HL
            have HB := n_HB
            have HS0 := n_HS0
            have HQ := n_HQ
            clear n_HL n_HB n_HS0 n_HQ hb_
            clear hb
            generalize w12.drewN nd7 = w14 at HL HB HS0 HQ ⊢
            clear HQ
            (try dsimp only)
            go_wp2
            have w7_ : wrap64 ((i : Int) + 1) = ((i + 1 : Nat) : Int) := by unfold wrap64; have := H6.out; omega
            go_roundg (gk - 1)
            case measure => have := HK.out; have := H6.out; omega
            case rel => exact ⟨i + 1, lb2, (i : Int), l', rc', _, _, rfl, rfl, by first | rfl | (simp [w7_]; done) | (simp only [w7_]; rfl), ⟨by have := HK.out; have := H6.out; omega⟩, ⟨HL.out⟩, ⟨Or.inr ⟨i, rfl, by omega, HLL.out⟩, by have := HT.out.2; have := HRC.out; omega⟩, ⟨HB.out⟩, ⟨HS0.out⟩⟩
        · rcases hcase with ⟨_, hl'⟩ | ⟨_, hl'⟩
          · obtain ⟨d, hd⟩ : ∃ d, d = recJ y rm j := ⟨_, rfl⟩
            have HDD := Aside0.mk hd
            have hh : l'.headD [] = d := by rcases hl' with h | h <;> (rw [h, hd]; rfl)
            have HLL := Aside0.mk (show ∃ t, l' = recJ y rm j :: t by rcases hl' with h | h <;> exact ⟨_, h⟩)
            clear hl' hd
            have H60 := Aside0.mk (show 0 < r6 by obtain ⟨t_, ht_⟩ := HLL.out; rw [HRL.out.1, ht_]; simp)
            obtain ⟨ad6, uA, uc, e6, hx6, hxc, hxk⟩ := kd_last HK6.out H60.out
            subst e6
            rw [hh] at hx6 hxc hxk
            obtain ⟨p6, hp6⟩ : ∃ p6, p6 = r6 - 1 := ⟨_, rfl⟩
            rw [← hp6] at hx6
            have w2_ : wrap64 ((r6 : Int) - 1) = (p6 : Int) := by unfold wrap64; have := HRL.out; have := H60.out; omega
            have rpa : decide (((p6 : Nat) : Int) < ((r6 : Nat) : Int)) = true := decide_eq_true (by have := H60.out; omega)
            have rpb : decide (p6 < r6) = true := decide_eq_true (by have := H60.out; omega)
            have rpc : (p6 < r6) = True := eq_true (by have := H60.out; omega)
            have rpd : (((p6 : Nat) : Int) < ((r6 : Nat) : Int)) = True := eq_true (by have := H60.out; omega)
            have rzh : ¬ ((r6 : Int) = 0) := by have := H60.out; omega
            have rza : decide ((r6 : Int) = 0) = false := decide_eq_false rzh
            have rzb : ((r6 : Int) = 0) = False := eq_false rzh
            have rzc : ((r6 : Int) == 0) = false := beq_eq_false_iff_ne.2 rzh
            have rzd : ((r6 : Int) != 0) = true := bne_iff_ne.2 rzh
            have HQ := Aside0.mk hxk
            have HQC := Aside0.mk hxc
            clear hxk hxc hp6 hh HK6 rzh
            have jza : decide (((j : Nat) : Int) < (0 : Int)) = false := decide_eq_false (by omega)
            have jzb : decide (j < 0) = false := decide_eq_false (by omega)
            have jzc : (j < 0) = False := eq_false (by omega)
            have jzd : (((j : Nat) : Int) < (0 : Int)) = False := eq_false (by omega)
            have jle : (0 : Int) ≤ (j : Int) := Int.natCast_nonneg j
            have jgt : decide ((0 : Int) ≤ (j : Int)) = true := decide_eq_true jle
            have hj20 : j ≤ 20 := by have := H6.out; omega
            have HDB : Aside0 (IsB d) := ⟨by rw [HDD.out]; exact rcd_isB _ _⟩
            (try dsimp only)
            go_wp2_with fail
            clear w2_ hx6
            have em : ((y : Int) + (j : Int)) % ((rm : Int) + 1) = (((y + j) % (rm + 1) : Nat) : Int) := by push_cast; rfl
            rw [em]
            clear em
            obtain ⟨mj, hmj⟩ : ∃ mj, mj = (y + j) % (rm + 1) := ⟨_, rfl⟩
            have HMJ := Aside0.mk (show mj < rm + 1 by rw [hmj]; exact Nat.mod_lt _ (by omega))
            have HJJ := Aside0.mk (show rcd (j : Int) mj = recJ y rm j by rw [hmj]; rfl)
            rw [← hmj]
            clear hmj
            refine (record.some_ (j : Int) mj (by have := HMJ.out; omega) w11).mono ?_
            rintro e w12 ⟨c9, rfl, hc9, hge9, hb⟩
            have HC9 := Aside0.mk hc9
            clear hc9 hge9
            have hb_ := hb
            have n_HL := Aside0.mk (HL.out.under hb_)
            have n_HB := Aside0.mk (below_step HB.out hb_)
            have n_HS0 := Aside0.mk (Nat.le_trans HS0.out (below_size hb_))
            have n_HQ := Aside0.mk (Kd.C_below HQ.out hb_)
            clear HL HB HS0 HQ
            have HL := n_HL
            have HB := n_HB
            have HS0 := n_HS0
            have HQ := n_HQ
            clear n_HL n_HB n_HS0 n_HQ hb_
            clear hb
            (try dsimp only)
            go_wp2_with fail
            refine (bytes_calls HQ.out HQC.out (blk_C HC9.out (rcd_length _ _) (by have := HMJ.out; omega)) (Nat.le_refl _) HDB.out (rcd_isB _ _)).mono ?_
            rintro e w_ ⟨rfl, ⟨nd7, rfl⟩⟩
            rw [show decide (d = rcd (j : Int) mj) = true from decide_eq_true (by rw [HDD.out, HJJ.out])]
            clear HC9
            have hb := pw_below_drewN (Below.refl w12.heap.size w12) nd7
            have hb_ := hb
            have n_HL := Aside0.mk (HL.out.under hb_)
            have n_HB := Aside0.mk (below_step HB.out hb_)
            have n_HS0 := Aside0.mk (Nat.le_trans HS0.out (below_size hb_))
            have n_HQ := Aside0.mk (Kd.C_below HQ.out hb_)
            clear HL HB HS0 HQ
            have HL := n_HL
            have HB := n_HB
            have HS0 := n_HS0
            have HQ := n_HQ
            clear n_HL n_HB n_HS0 n_HQ hb_
            clear hb
            generalize w12.drewN nd7 = w14 at HL HB HS0 HQ ⊢
            clear HQ
            (try dsimp only)
            go_wp2
            have w7_ : wrap64 ((i : Int) + 1) = ((i + 1 : Nat) : Int) := by unfold wrap64; have := H6.out; omega
            go_roundg (gk - 1)
            case measure => have := HK.out; have := H6.out; omega
            case rel => exact ⟨i + 1, lb2, (j : Int), l', rc', _, _, rfl, rfl, by first | rfl | (simp [w7_]; done) | (simp only [w7_]; rfl), ⟨by have := HK.out; have := H6.out; omega⟩, ⟨HL.out⟩, ⟨Or.inr ⟨j, rfl, by omega, HLL.out⟩, by have := HT.out.2; have := HRC.out; omega⟩, ⟨HB.out⟩, ⟨HS0.out⟩⟩
          · obtain ⟨d, hd⟩ : ∃ d, d = rcd (i : Int) m := ⟨_, rfl⟩
            have HDD := Aside0.mk hd
            have hh : l'.headD [] = d := by rw [hl', hd]; rfl
            have HLL := Aside0.mk (show ∃ t, l' = recJ y rm i :: t from ⟨_, by rw [hl', HRJ.out]⟩)
            clear hl' hd
            have H60 := Aside0.mk (show 0 < r6 by obtain ⟨t_, ht_⟩ := HLL.out; rw [HRL.out.1, ht_]; simp)
            obtain ⟨ad6, uA, uc, e6, hx6, hxc, hxk⟩ := kd_last HK6.out H60.out
            subst e6
            rw [hh] at hx6 hxc hxk
            obtain ⟨p6, hp6⟩ : ∃ p6, p6 = r6 - 1 := ⟨_, rfl⟩
            rw [← hp6] at hx6
            have w2_ : wrap64 ((r6 : Int) - 1) = (p6 : Int) := by unfold wrap64; have := HRL.out; have := H60.out; omega
            have rpa : decide (((p6 : Nat) : Int) < ((r6 : Nat) : Int)) = true := decide_eq_true (by have := H60.out; omega)
            have rpb : decide (p6 < r6) = true := decide_eq_true (by have := H60.out; omega)
            have rpc : (p6 < r6) = True := eq_true (by have := H60.out; omega)
            have rpd : (((p6 : Nat) : Int) < ((r6 : Nat) : Int)) = True := eq_true (by have := H60.out; omega)
            have rzh : ¬ ((r6 : Int) = 0) := by have := H60.out; omega
            have rza : decide ((r6 : Int) = 0) = false := decide_eq_false rzh
            have rzb : ((r6 : Int) = 0) = False := eq_false rzh
            have rzc : ((r6 : Int) == 0) = false := beq_eq_false_iff_ne.2 rzh
            have rzd : ((r6 : Int) != 0) = true := bne_iff_ne.2 rzh
            have HQ := Aside0.mk hxk
            have HQC := Aside0.mk hxc
            clear hxk hxc hp6 hh HK6 rzh
            have jza : decide (((j : Nat) : Int) < (0 : Int)) = false := decide_eq_false (by omega)
            have jzb : decide (j < 0) = false := decide_eq_false (by omega)
            have jzc : (j < 0) = False := eq_false (by omega)
            have jzd : (((j : Nat) : Int) < (0 : Int)) = False := eq_false (by omega)
            have jle : (0 : Int) ≤ (j : Int) := Int.natCast_nonneg j
            have jgt : decide ((0 : Int) ≤ (j : Int)) = true := decide_eq_true jle
            have hj20 : j ≤ 20 := by have := H6.out; omega
            have HDB : Aside0 (IsB d) := ⟨by rw [HDD.out]; exact rcd_isB _ _⟩
            (try dsimp only)
            go_wp2_with fail
            clear w2_ hx6
            have em : ((y : Int) + (j : Int)) % ((rm : Int) + 1) = (((y + j) % (rm + 1) : Nat) : Int) := by push_cast; rfl
            rw [em]
            clear em
            obtain ⟨mj, hmj⟩ : ∃ mj, mj = (y + j) % (rm + 1) := ⟨_, rfl⟩
            have HMJ := Aside0.mk (show mj < rm + 1 by rw [hmj]; exact Nat.mod_lt _ (by omega))
            have HJJ := Aside0.mk (show rcd (j : Int) mj = recJ y rm j by rw [hmj]; rfl)
            rw [← hmj]
            clear hmj
            by_cases kq_ : rcd (i : Int) m = recJ y rm j
            · refine (record.some_ (j : Int) mj (by have := HMJ.out; omega) w11).mono ?_
              rintro e w12 ⟨c9, rfl, hc9, hge9, hb⟩
              have HC9 := Aside0.mk hc9
              clear hc9 hge9
              have hb_ := hb
              have n_HL := Aside0.mk (HL.out.under hb_)
              have n_HB := Aside0.mk (below_step HB.out hb_)
              have n_HS0 := Aside0.mk (Nat.le_trans HS0.out (below_size hb_))
              have n_HQ := Aside0.mk (Kd.C_below HQ.out hb_)
              clear HL HB HS0 HQ
              have HL := n_HL
              have HB := n_HB
              have HS0 := n_HS0
              have HQ := n_HQ
              clear n_HL n_HB n_HS0 n_HQ hb_
              clear hb
              (try dsimp only)
              go_wp2_with fail
              refine (bytes_calls HQ.out HQC.out (blk_C HC9.out (rcd_length _ _) (by have := HMJ.out; omega)) (Nat.le_refl _) HDB.out (rcd_isB _ _)).mono ?_
              rintro e w_ ⟨rfl, ⟨nd7, rfl⟩⟩
              rw [show decide (d = rcd (j : Int) mj) = true from decide_eq_true (by rw [HDD.out, HJJ.out, kq_])]
              clear HC9
              have hb := pw_below_drewN (Below.refl w12.heap.size w12) nd7
              have hb_ := hb
              have n_HL := Aside0.mk (HL.out.under hb_)
              have n_HB := Aside0.mk (below_step HB.out hb_)
              have n_HS0 := Aside0.mk (Nat.le_trans HS0.out (below_size hb_))
              have n_HQ := Aside0.mk (Kd.C_below HQ.out hb_)
              clear HL HB HS0 HQ
              have HL := n_HL
              have HB := n_HB
              have HS0 := n_HS0
              have HQ := n_HQ
              clear n_HL n_HB n_HS0 n_HQ hb_
              clear hb
              generalize w12.drewN nd7 = w14 at HL HB HS0 HQ ⊢
              clear HQ
              (try dsimp only)
              go_wp2
              have w7_ : wrap64 ((i : Int) + 1) = ((i + 1 : Nat) : Int) := by unfold wrap64; have := H6.out; omega
              go_roundg (gk - 1)
              case measure => have := HK.out; have := H6.out; omega
              case rel => exact ⟨i + 1, lb2, (j : Int), l', rc', _, _, rfl, rfl, by first | rfl | (simp [w7_]; done) | (simp only [w7_]; rfl), ⟨by have := HK.out; have := H6.out; omega⟩, ⟨HL.out⟩, ⟨Or.inr ⟨j, rfl, by omega, by obtain ⟨t_, ht_⟩ := HLL.out; exact ⟨t_, by rw [ht_, ← HRJ.out, kq_]⟩⟩, by have := HT.out.2; have := HRC.out; omega⟩, ⟨HB.out⟩, ⟨HS0.out⟩⟩
            · refine (record.some_ (j : Int) mj (by have := HMJ.out; omega) w11).mono ?_
              rintro e w12 ⟨c9, rfl, hc9, hge9, hb⟩
              have HC9 := Aside0.mk hc9
              clear hc9 hge9
              have hb_ := hb
              have n_HL := Aside0.mk (HL.out.under hb_)
              have n_HB := Aside0.mk (below_step HB.out hb_)
              have n_HS0 := Aside0.mk (Nat.le_trans HS0.out (below_size hb_))
              have n_HQ := Aside0.mk (Kd.C_below HQ.out hb_)
              clear HL HB HS0 HQ
              have HL := n_HL
              have HB := n_HB
              have HS0 := n_HS0
              have HQ := n_HQ
              clear n_HL n_HB n_HS0 n_HQ hb_
              clear hb
              (try dsimp only)
              go_wp2_with fail
              refine (bytes_calls HQ.out HQC.out (blk_C HC9.out (rcd_length _ _) (by have := HMJ.out; omega)) (Nat.le_refl _) HDB.out (rcd_isB _ _)).mono ?_
              rintro e w_ ⟨rfl, ⟨nd7, rfl⟩⟩
              rw [show decide (d = rcd (j : Int) mj) = false from decide_eq_false (by rw [HDD.out, HJJ.out]; exact kq_)]
              clear HC9
              have hb := pw_below_drewN (Below.refl w12.heap.size w12) nd7
              have hb_ := hb
              have n_HL := Aside0.mk (HL.out.under hb_)
              have n_HB := Aside0.mk (below_step HB.out hb_)
              have n_HS0 := Aside0.mk (Nat.le_trans HS0.out (below_size hb_))
              have n_HQ := Aside0.mk (Kd.C_below HQ.out hb_)
              clear HL HB HS0 HQ
              have HL := n_HL
              have HB := n_HB
              have HS0 := n_HS0
              have HQ := n_HQ
              clear n_HL n_HB n_HS0 n_HQ hb_
              clear hb
              generalize w12.drewN nd7 = w14 at HL HB HS0 HQ ⊢
              (try dsimp only)
              go_wp2_with fail
              refine (record.some_ (i : Int) m (by have := HMM.out; omega) w14).mono ?_
              rintro e w15 ⟨c9, rfl, hc9, hge9, hb⟩
              have HC9 := Aside0.mk hc9
              clear hc9 hge9
              have hb_ := hb
              have n_HL := Aside0.mk (HL.out.under hb_)
              have n_HB := Aside0.mk (below_step HB.out hb_)
              have n_HS0 := Aside0.mk (Nat.le_trans HS0.out (below_size hb_))
              have n_HQ := Aside0.mk (Kd.C_below HQ.out hb_)
              clear HL HB HS0 HQ
              have HL := n_HL
              have HB := n_HB
              have HS0 := n_HS0
              have HQ := n_HQ
              clear n_HL n_HB n_HS0 n_HQ hb_
              clear hb
              (try dsimp only)
              go_wp2_with fail
              refine (bytes_calls HQ.out HQC.out (blk_C HC9.out (rcd_length _ _) (by have := HMM.out; omega)) (Nat.le_refl _) HDB.out (rcd_isB _ _)).mono ?_
              rintro e w_ ⟨rfl, ⟨nd8, rfl⟩⟩
              rw [show decide (d = rcd (i : Int) m) = true from decide_eq_true HDD.out]
              clear HC9
              have hb := pw_below_drewN (Below.refl w15.heap.size w15) nd8
              have hb_ := hb
              have n_HL := Aside0.mk (HL.out.under hb_)
              have n_HB := Aside0.mk (below_step HB.out hb_)
              have n_HS0 := Aside0.mk (Nat.le_trans HS0.out (below_size hb_))
              have n_HQ := Aside0.mk (Kd.C_below HQ.out hb_)
              clear HL HB HS0 HQ
              have HL := n_HL
              have HB := n_HB
              have HS0 := n_HS0
              have HQ := n_HQ
              clear n_HL n_HB n_HS0 n_HQ hb_
              clear hb
              generalize w15.drewN nd8 = w16 at HL HB HS0 HQ ⊢
              clear HQ
              (try dsimp only)
              go_wp2
              have w7_ : wrap64 ((i : Int) + 1) = ((i + 1 : Nat) : Int) := by unfold wrap64; have := H6.out; omega
              go_roundg (gk - 1)
              case measure => have := HK.out; have := H6.out; omega
              case rel => exact ⟨i + 1, lb2, (i : Int), l', rc', _, _, rfl, rfl, by first | rfl | (simp [w7_]; done) | (simp only [w7_]; rfl), ⟨by have := HK.out; have := H6.out; omega⟩, ⟨HL.out⟩, ⟨Or.inr ⟨i, rfl, by omega, HLL.out⟩, by have := HT.out.2; have := HRC.out; omega⟩, ⟨HB.out⟩, ⟨HS0.out⟩⟩
    · have c6a : decide (((i : Nat) : Int) < ((n2 : Nat) : Int)) = false := decide_eq_false (by omega)
      have c6b : decide (i < n2) = false := decide_eq_false (by omega)
      have c6c : (i < n2) = False := eq_false (by omega)
      have c6d : (((i : Nat) : Int) < ((n2 : Nat) : Int)) = False := eq_false (by omega)
      clear c6
      (try dsimp only)
      go_wp2
      (try simp only [Exit.inBlock, Exit.then])
      go_ret
      exact ⟨rfl, HB.out⟩
end Go.Proofs.YtgeggcifhojpmaaDoor.PB
namespace Go.Proofs.YtgeggcifhojpmaaDoor.logTwice
open Go.ChangeShapes Go.WideShapes Go.ChangeAt Go.RowKit Go.Joins Go.Proofs.YtgeggcifhojpmaaDoorW.PrintWords Go.Proofs.YtgeggcifhojpmaaDoorW.AggWords
open Go.ChangeMaps (open_string shut_string)
set_option linter.unusedVariables false
theorem own : ownKnob Tryd.prog.godebug = none := by kernel_rfl
theorem laidOut : laidOutB Tryd.prog = true := by kernel_rfl
theorem gN : Tryd.prog.globalNamed "lych/log.errBlock" = some 0 := by kernel_rfl
theorem gType : (Tryd.prog.globals[0]?).map (·.type) = some 67 := by kernel_rfl
theorem cells115 : Tryd.prog.cellsOf 115 = 1 := by kernel_rfl
theorem cells9 : Tryd.prog.cellsOf 9 = 1 := by kernel_rfl
theorem star : "*" ++ "errors.errorString" = "*errors.errorString" := by decide
theorem row91 (u : TypeId) (h : Tryd.prog.typeName? 3 u = some "*errors.errorString") : u = 91 :=
  typeName_ptr_named (nm := "errors.errorString") (by rw [star]; kernel_rfl) (by kernel_rfl) (by decide) u (by rw [star]; exact h)
/-- What the listed variable holds. -/
theorem laid_ge {W : World} (h : laidMetH Tryd.prog Rows.logTwiceRow.laid W) : ∃ ge : Addr, W.cell? ⟨0, 0, none⟩ = some (.iface 91 (.pointer (some ge))) := by
  have h' : laidMet Tryd.prog [("lych/log.errBlock", Rows.laid_lych_log_errBlock)] W := h
  obtain ⟨a, s, hv, _⟩ := laid_sentinel h' gN gType Tryd.underlying67 row91 Tryd.underlying91 Tryd.underlying115 rfl rfl Tryd.underlying9 cells115 cells9
  exact ⟨a, by simpa using World.var?_cell gN hv 0⟩
noncomputable def low : Nat := (World.holding Tryd.prog default ⟨#[], #[], []⟩).heap.size
noncomputable def laidWorld (os : Os) : World :=
  let w0 := World.holding Tryd.prog os ⟨#[.cells #[.string { data := #[110, 111, 32, 115, 117, 99, 104, 32, 98, 108, 111, 99, 107] }] 115], #[], []⟩
  { w0 with heap := w0.heap.modify 0 fun
      | .cells _ t frozen => .cells #[.iface 91 (.pointer (some ⟨low, 0, none⟩))] t frozen
      | o => o }
theorem laidWorld_met (os : Os) (args : Array Value) : laidMetH Tryd.prog Rows.logTwiceRow.laid ((laidWorld os).forCall (fun _ _ => 0) ⟨#[], args, []⟩).memory :=
  laidMetH_of_parts (laidMet_of_run (ps := [.cell 0 0, .cell low 0]) 8 (by kernel_rfl) (by kernel_rfl) (by kernel_rfl)) (by kernel_rfl)
set_option maxRecDepth 100000 in
theorem lifted (os : Os) (started : os.Started) (H : Type) (enc : TypeId × Value → H) :
    ReturnsInHanded {} Tryd.checked os 9 .any (fun w args => (Rows.logTwiceSpec.pre enc Tryd.prog Tryd.f9 [] false w args ∧ laidMetH Tryd.prog Rows.logTwiceRow.laid w) ∧ sizedMet enc Tryd.prog Tryd.f9 (OpenSpec.ofChange Rows.logTwiceSpec) false w args)
      (Rows.logTwiceSpec.post enc Tryd.prog Tryd.f9 false true false false) := by
  refine returnsInHanded_of_change_and (C := Tryd.checked) (X := fun w _ => laidMetH Tryd.prog Rows.logTwiceRow.laid w) (fun _ _ _ hh h => h.of_heap hh) own started (by kernel_rfl) Tryd.func9
    (ChangeSpec.witness_at (enc := enc) (C := Tryd.checked) (os := os) (X := fun w _ => laidMetH Tryd.prog Rows.logTwiceRow.laid w) false (laidWorld os) #[.slice none 0 0, .int .u16 0, .int .i64 0] 8 rfl (by kernel_rfl) (by kernel_rfl) (by kernel_rfl) (by kernel_rfl) (by kernel_rfl) (laidWorld_met os _)) ?_
  intro W base args ds gs before hval0 hW _ _ hL _
  have hval : ∀ (j : Nat) t v, Tryd.f9.params[j]? = some t → args[j]? = some v → Value.okWide Tryd.prog W .any base t v := hval0
  have hW' := hW
  obtain ⟨p, q, hA0, hV, rfl, hfz, hnd⟩ := hW
  have hA : DataW.TrodAll enc Tryd.prog W 0 (fun _ => true) true Tryd.f9.params.toList args.toList ds p := hA0
  rw [Tryd.params9] at hA hval
  obtain ⟨v0, vs0, d0, ds0, p0, q0, hargs, rfl, rfl, h0, r0⟩ := trodAll_cons hA
  obtain ⟨v1, vs1, d1, ds1, p1, q1, rfl, rfl, rfl, h1, r1⟩ := trodAll_cons r0
  obtain ⟨v2, vs2, d2, ds2, p2, q2, rfl, rfl, rfl, h2, r2⟩ := trodAll_cons r1
  obtain ⟨rfl, rfl, rfl⟩ := trodAll_nil r2
  obtain rfl : args = #[v0, v1, v2] := by cases args; simp_all
  obtain ⟨rfl, rfl⟩ := trodVars_none hV
  obtain ⟨ge, hge⟩ := laid_ge hL
  obtain ⟨A0, n0, c0, rfl⟩ := okWide_slice Tryd.underlying22 (hval 0 22 v0 rfl rfl)
  have k0 := h0
  have lt0 : ∀ x ∈ p0, x.block < W.heap.size := by obtain ⟨m, hm⟩ := k0; exact DataW.trod_lt m _ _ _ hm
  obtain ⟨fuel0, hf0⟩ := h0
  obtain ⟨z0, w0⟩ := row_of Tryd.underlying22 Tryd.underlying5 (by kernel_rfl) hf0
  obtain ⟨l0, rfl, hr0, hm0, hw0, hc0⟩ := ReadsInt.ofRowC w0
  obtain ⟨a1, rfl, rfl, rfl, w1⟩ := open_int Tryd.underlying39 (hval 1 39 v1 rfl rfl) h1
  obtain ⟨a2, rfl, rfl, rfl, w2⟩ := open_int Tryd.underlying3 (hval 2 3 v2 rfl rfl) h2
  clear hA0 hval0
  refine (PB.LogTwice.calls _ _ _ a1 a2 W ge hge (Kd.C_of_reads (d := (0 : Int)) (h1 := fun _ => rfl) hr0) hc0 (PB.wf8 hw0) (PB.wfu16 w1)).mono fun e W' ⟨he, bel⟩ => ?_
  subst he
  exact ⟨_, rfl, _, _, _, [], _, [], hW', trodAll_mk1 (shut_bool Tryd.underlying4 _), (trodAll_cons_mk (Below.trod laidOut (by kernel_rfl) (of_decide_eq_true (by kernel_rfl)) k0 bel lt0) (trodAll_cons_mk (shut_int Tryd.underlying39 w1) (trodAll_cons_mk (shut_int Tryd.underlying3 w2) trodAll_mk0))), rfl, bel.frame _, fun h => by cases h⟩
theorem over : Rows.logTwiceRow.holds Tryd.pinned (OpenSpec.ofChange Rows.logTwiceSpec) :=
  OpenClaim.holds_of_wide 9 Tryd.f9 rfl rfl rfl rfl rfl rfl rfl ⟨rfl, rfl, rfl, rfl, rfl⟩ rfl rfl rfl rfl rfl (by kernel_rfl) Tryd.func9 (by kernel_rfl)
    (of_decide_eq_true (by kernel_rfl)) (by unfold Func.isWrapper; first | (rw [if_pos (by decide +kernel)]; kernel_rfl) | (rw [if_neg (by decide +kernel)]; exact ⟨rfl, rfl⟩))
    (fun os started H enc _ => lifted os started H enc)
theorem proved : Rows.LogTwiceSaid := over
theorem card : Rows.LogTwiceCardSaid :=
  Claim7.holds_tied_plain_at .later [] [.sentinel] true (true, "d6af000c36f002e728fe3a0d9820601450968c7f60402185504d7936053a82d1") true
    proved (fun _ h => by cases h) (by kernel_rfl) (fun _ h => by cases h) logTwice_row_tie rfl ⟨rfl, rfl⟩ (by kernel_rfl) rfl
    (fun f fn hf hfn => by
      obtain rfl : f = 9 := Option.some.inj ((show Tryd.prog.funcNamed "lych/lychlaw10.LogTwice" = some 9 by kernel_rfl).symm.trans hf) |>.symm
      obtain rfl : fn = Tryd.f9 := (Option.some.inj (Tryd.func9.symm.trans hfn)).symm
      exact ⟨by kernel_rfl, fun j t ht => by
        rw [Tryd.params9] at ht
        have h3 : t = 3 ∨ t = 22 ∨ t = 39 := by
          rcases j with _ | j
          · simp at ht; subst ht; simp
          rcases j with _ | j
          · simp at ht; subst ht; simp
          rcases j with _ | j
          · simp at ht; subst ht; simp
          simp at ht
        rcases h3 with rfl | rfl | rfl
        · exact (show Tryd.prog.wantsStandIn 3 = false by kernel_rfl)
        · exact (show Tryd.prog.wantsStandIn 22 = false by kernel_rfl)
        · exact (show Tryd.prog.wantsStandIn 39 = false by kernel_rfl)⟩)
    (by kernel_rfl)
#print axioms card
end Go.Proofs.YtgeggcifhojpmaaDoor.logTwice
namespace Go.Proofs.YtgeggcifhojpmaaDoor
/-- The tied card, under a short name, for the claim. -/
theorem logTwiceCard_holds : Rows.LogTwiceCardSaid := logTwice.card
end Go.Proofs.YtgeggcifhojpmaaDoor
