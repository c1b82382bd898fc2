/- LogFalls: for every input the Go function returns true, and each argument reads as before; the listed variable tied to the program's text. -/
import Derived.Test.YtgeggcifhojpmaaDoorZLf
import Derived.Test.YtgeggcifhojpmaaDoorRows
import Derived.Test.YtgeggcifhojpmaaDoorTie
import Derived.Test.YtgeggcifhojpmaaDoorCards
import Derived.Test.YtgeggcifhojpmaaDoorZW
import Derived.WalkKit
import Derived.ProofKit
import Derived.OpenShut
import Derived.ShutString
import Derived.ChangeOld
import Derived.Below
import Derived.SizedLaws
import Derived.Lib.SmallJoins
import Derived.RowKitTokens
import Derived.LaidLaws
import Derived.LaidHandle
import Derived.Stop.LaidErr
import Derived.Stop.LaidTwo
import Derived.SevenTiedAt
/- LogFalls: whatever write an Append fails in, nothing that was acknowledged is lost. -/
namespace Go.Proofs.YtgeggcifhojpmaaDoor.PB
open Go.RowKit Go.Proofs.YtgeggcifhojpmaaDoorW.PrintWords Go.Proofs.YtgeggcifhojpmaaDoorW.PrintLast Go.Proofs.YtgeggcifhojpmaaDoorW.PrintMore
attribute [local go_sem] max2_mx min2_mn max_two min_two max_three min_three max_four min_four   -- for this text's walks alone
set_option linter.unusedVariables false
set_option linter.unusedSimpArgs false

set_option maxHeartbeats 40000000 in
set_option maxRecDepth 100000 in
theorem LogFalls.calls (a0 a1 : Int) (A2 : Option Addr) (c2 : Nat) (l2 : List Int) (a3 a4 a5 : Int) (w : World) (ge : Addr) (hge : w.cell? ⟨0, 0, none⟩ = some (.iface 91 (.pointer (some ge)))) (hr2 : Kd.C (Kd.int .u16) w A2 l2.length l2) (hc2 : l2.length ≤ c2) (hw2 : ∀ x ∈ l2, 0 ≤ x ∧ x ≤ 65535) :
    Calls Tryd.prog 7 #[.int .i64 a0, .int .i64 a1, .slice A2 l2.length c2, .int .i64 a3, .int .i64 a4, .int .u8 a5] w fun e w' => e = .returned (.bool true) ∧ Below w.heap.size w w' := by
  have HG := Aside0.mk hge
  have HR2 := Aside0.mk hr2
  have HW2 := Aside0.mk hw2
  clear hge hr2 hw2 hc2
  go_enter Tryd.func7, Tryd.ntmps7
  go_wp2_with fail
  refine (known.calls w ge HG.out).mono ?_
  rintro e w1 ⟨rfl, hb⟩
  have HB := Aside0.mk hb
  clear hb
  obtain ⟨n2, hn2⟩ : ∃ n2, n2 = l2.length := ⟨_, rfl⟩
  have HN2 := Aside0.mk hn2
  rw [← hn2]
  clear hn2
  by_cases h30 : 30 < n2
  · have hc1 : decide ((30 : Int) < (n2 : Int)) = true := decide_eq_true (by omega)
    have hc2 : decide (30 < n2) = true := decide_eq_true h30
    (try dsimp only)
    go_wp2
    (try simp only [Exit.inBlock, Exit.then])
    go_ret
    exact ⟨rfl, HB.out⟩
  have NL := Aside0.mk (show n2 ≤ 30 by omega)
  have hca : decide ((30 : Int) < ((n2 : Nat) : Int)) = false := decide_eq_false (by omega)
  have hcb : decide (30 < n2) = false := decide_eq_false (by omega)
  have hcc : (30 < n2) = False := eq_false (by omega)
  have hcd : ((30 : Int) < ((n2 : Nat) : Int)) = False := eq_false (by omega)
  clear h30
  (try dsimp only)
  go_wp2_with fail
  refine (place_calls _ 8 (by decide) (by decide) w1).mono ?_
  rintro e w_ ⟨r1, hr1, rfl, ⟨nd, rfl⟩⟩
  have hb := pw_below_drewN (Below.refl w1.heap.size w1) nd
  have hb_ := hb
  have n_HB := Aside0.mk (below_step HB.out hb_)
  clear HB
  have HB := n_HB
  clear n_HB hb_
  clear hb
  generalize w1.drewN nd = wa at HB ⊢
  (try dsimp only)
  go_wp2_with fail
  refine (place_calls _ 200 (by decide) (by decide) wa).mono ?_
  rintro e w_ ⟨r2, hr2, rfl, ⟨nd2, rfl⟩⟩
  have hb := pw_below_drewN (Below.refl wa.heap.size wa) nd2
  have hb_ := hb
  have n_HB := Aside0.mk (below_step HB.out hb_)
  clear HB
  have HB := n_HB
  clear n_HB hb_
  clear hb
  generalize wa.drewN nd2 = wb at HB ⊢
  (try dsimp only)
  go_wp2_with fail
  refine (LD.new (4 + (r1 : Int)) (256 + (r2 : Int)) wb (by rw [dkN_id (4 + r1) (by omega), dkS_id (256 + r2) (by omega)]; omega)).mono ?_
  rintro e w2 ⟨g, q, hs, rfl, hd, hn, hb⟩
  rw [dkS_id (256 + r2) (by omega)] at hd
  rw [dkN_id (4 + r1) (by omega)] at hn
  have HN := Aside0.mk hn
  clear hn
  obtain ⟨base, hbase⟩ : ∃ base, base = wb.heap.size := ⟨_, rfl⟩
  rw [← hbase] at hd
  have HD := Aside0.mk hd
  have HBS := Aside0.mk (show w.heap.size ≤ base by rw [hbase]; exact below_size HB.out)
  obtain ⟨b0, hb0⟩ : ∃ b0, b0 = w2.heap.size := ⟨_, rfl⟩
  have n_HB := Aside0.mk (below_step HB.out hb)
  have HB0 := Aside0.mk (show q < b0 ∧ (∀ b ∈ hs, b < b0) ∧ w.heap.size ≤ b0 by rw [hb0]; exact ⟨hd.lt.2.1, hd.lt.2.2, below_size n_HB.out⟩)
  have HS0 := Aside0.mk (show b0 ≤ w2.heap.size by rw [hb0]; exact Nat.le_refl _)
  clear HB hd hb hbase hb0
  have HB := n_HB
  clear n_HB
  obtain ⟨sz, hsz⟩ : ∃ sz, sz = 256 + r2 := ⟨_, rfl⟩
  rw [← hsz] at HD
  clear hsz
  clear hca hcb hcc hcd
  (try dsimp only)
  go_wp2_with fail
  refine (LD.open_ HD.out ge (gcell HG.out HB.out)).mono ?_
  rintro e w3 ⟨lb, A, oc, rfl, hlb, hoc, hk, hl, hb⟩
  have HL := Aside0.mk hl
  clear HD hlb hk hl hoc
  have hb_ := hb
  have n_HB := Aside0.mk (below_step HB.out hb_)
  have n_HS0 := Aside0.mk (Nat.le_trans HS0.out (below_size hb_))
  clear HB HS0
  have HB := n_HB
  have HS0 := n_HS0
  clear n_HB n_HS0 hb_
  clear hb
  (try dsimp only)
  go_wp2_with fail
  refine (LD.room HL.out.ld).mono ?_
  rintro e w_ ⟨rfl, ⟨nd3, rfl⟩⟩
  have hRM := room_le HL.out.ld.big
  obtain ⟨rm, hrm⟩ : ∃ rm, rm = lgRoom hs.length (sz) := ⟨_, rfl⟩
  rw [← hrm] at hRM ⊢
  have HRM := Aside0.mk hrm
  have hrmle : rm ≤ 16384 := hRM.2.2
  clear hrm hRM
  have hb := pw_below_drewN (Below.refl w3.heap.size w3) nd3
  have hb_ := hb
  have n_HL := Aside0.mk (HL.out.under hb_)
  have n_HB := Aside0.mk (below_step HB.out hb_)
  have n_HS0 := Aside0.mk (Nat.le_trans HS0.out (below_size hb_))
  clear HL HB HS0
  have HL := n_HL
  have HB := n_HB
  have HS0 := n_HS0
  clear n_HL n_HB n_HS0 hb_
  clear hb
  generalize w3.drewN nd3 = w4 at HL HB HS0 ⊢
  (try dsimp only)
  go_wp2_with fail
  refine (place_calls _ 60 (by decide) (by decide) w4).mono ?_
  rintro e w_ ⟨r3, hr3, rfl, ⟨nd4, rfl⟩⟩
  have hb := pw_below_drewN (Below.refl w4.heap.size w4) nd4
  have hb_ := hb
  have n_HL := Aside0.mk (HL.out.under hb_)
  have n_HB := Aside0.mk (below_step HB.out hb_)
  have n_HS0 := Aside0.mk (Nat.le_trans HS0.out (below_size hb_))
  clear HL HB HS0
  have HL := n_HL
  have HB := n_HB
  have HS0 := n_HS0
  clear n_HL n_HB n_HS0 hb_
  clear hb
  generalize w4.drewN nd4 = w5 at HL HB HS0 ⊢
  (try dsimp only)
  go_wp2_with fail
  refine (HL.out.cut_ _ _).mono ?_
  rintro e w6 ⟨rfl, hl, hf⟩
  rw [mx_nat] at hl
  obtain ⟨p, hp, hps⟩ := mn_pre a4 sz
  rw [hp] at hl
  have HP := Aside0.mk (And.intro hp hps)
  clear hp hps
  have n_HB : Aside0 (Below w.heap.size w w6) := ⟨hf.below HB.out (below_size HB.out) (fun k hk => Nat.le_trans HBS.out (HL.out.own (Or.inl hk)))⟩
  have n_HS0 := Aside0.mk (Nat.le_trans HS0.out hf.size)
  clear HL HB HS0 hf
  have HL := Aside0.mk hl
  have HB := n_HB
  have HS0 := n_HS0
  clear hl n_HB n_HS0
  have HCT := Aside0.mk (show (0 : Int) ≤ (r3 : Int) ∧ (r3 : Int) ≤ 1000 by omega)
  (try dsimp only)
  go_wp2_with fail
  go_loopg [14, 18, 19] n2 (fun kq v14 v18 v19 w' => ∃ (i lb n c : Nat) (A : Option Addr) (all l : List (List Int)) (cut : Int), v14 = .pointer (some ⟨lb, 0, none⟩) ∧ v18 = .slice A n c ∧ v19 = .int .i64 (i : Int) ∧ Aside0 (kq + i = n2) ∧ Aside0 (all.length = n ∧ n ≤ i) ∧ Aside0 (LO w' base g q sz hs cut (p : Int) false lb l (n : Int) (i : Int)) ∧ Aside0 (RW w' b0 (.slice A n c) all) ∧ Aside0 (EL all l (n : Int)) ∧ Aside0 (Below w.heap.size w w') ∧ Aside0 (b0 ≤ w'.heap.size) ∧ Aside0 (0 ≤ cut ∧ cut ≤ 1000))
  case atStart => exact ⟨0, lb, 0, 0, none, [], [], (r3 : Int), rfl, rfl, rfl, ⟨rfl⟩, ⟨rfl, Nat.le_refl _⟩, ⟨HL.out⟩, ⟨RW.nil _ _⟩, ⟨EL.nil⟩, ⟨HB.out⟩, ⟨HS0.out⟩, ⟨HCT.out⟩⟩
  case round =>
    clear HL HB HS0 HCT
    obtain ⟨i, lb, n, c, A, all, l, cut, rfl, rfl, rfl, HK, HAL, HL, HR, HE, HB, HS0, HCT⟩ := hrel
    by_cases c6 : i < n2
    · have c6a : decide (((i : Nat) : Int) < ((n2 : Nat) : Int)) = true := decide_eq_true (by omega)
      have c6b : decide (i < n2) = true := decide_eq_true (by omega)
      have c6c : (i < n2) = True := eq_true (by omega)
      have c6d : (((i : Nat) : Int) < ((n2 : Nat) : Int)) = True := eq_true (by omega)
      have H6 := Aside0.mk (show i < n2 ∧ i ≤ 30 by have := NL.out; omega)
      clear c6
      obtain ⟨ad2, e2, hx2⟩ := Kd.at_int (Kd.C_below HR2.out HB.out) (i : Int) (by omega) (by have := H6.out; have := HN2.out; omega)
      subst e2
      obtain ⟨x, hx⟩ : ∃ x : Nat, rd l2 (i : Int) = (x : Int) ∧ x ≤ 65535 := by
        have hlt : i < l2.length := by have := H6.out; have := HN2.out; omega
        have hm : rd l2 (i : Int) ∈ l2 := by
          unfold rd
          rw [Int.toNat_natCast, List.getD_eq_getElem?_getD, List.getElem?_eq_getElem hlt]
          exact List.getElem_mem _
        have := HW2.out _ hm
        exact ⟨(rd l2 (i : Int)).toNat, by omega, by omega⟩
      rw [hx.1, Int.toNat_natCast] at hx2
      have hx3 := hx.2
      clear hx
      (try dsimp only)
      go_wp2_with fail
      have em : (x : Int) % ((rm : Int) + 1) = ((x % (rm + 1) : Nat) : Int) := by push_cast; rfl
      rw [em]
      clear em
      obtain ⟨m, hm⟩ : ∃ m, m = x % (rm + 1) := ⟨_, rfl⟩
      have HMM := Aside0.mk (show m < rm + 1 by rw [hm]; exact Nat.mod_lt _ (by omega))
      rw [← hm]
      clear hm hx3 hx2
      refine (record.some_ (i : Int) m (by have := HMM.out; omega) wr).mono ?_
      rintro e w7 ⟨c7, rfl, hc7, hge7, hb⟩
      have HC7 := Aside0.mk hc7
      have HNE := Aside0.mk (HL.out.above hge7)
      have HG7 := Aside0.mk (Nat.le_trans HS0.out hge7)
      clear hc7 hge7
      have hb_ := hb
      have n_HL := Aside0.mk (HL.out.under hb_)
      have n_HR := Aside0.mk (HR.out.under hb_)
      have n_HB := Aside0.mk (below_step HB.out hb_)
      have n_HS0 := Aside0.mk (Nat.le_trans HS0.out (below_size hb_))
      clear HL HR HB HS0
      have HL := n_HL
      have HR := n_HR
      have HB := n_HB
      have HS0 := n_HS0
      clear n_HL n_HR n_HB n_HS0 hb_
      clear hb
      (try dsimp only)
      go_wp2_with fail
      refine (LO.append_ HL.out c7 (rcd (i : Int) m) (rcd_length _ _) HC7.out HNE.out (rcd_isB _ _) (by rw [← HRM.out]; have := HMM.out; omega) (Or.inl (by have := H6.out; omega)) (by have := H6.out; have := HAL.out; omega) p ⟨rfl, HP.out.2⟩ (by have := HCT.out; omega)).mono ?_
      rintro e w8 ⟨hf, cut', hc1, hc2, hcase⟩
      have n_HS0 := Aside0.mk (Nat.le_trans HS0.out hf.size)
      have n_HR := Aside0.mk (RW.df HL.out HB0.out.2.1 HR.out hf)
      have n_HB : Aside0 (Below w.heap.size w w8) := ⟨hf.below HB.out (below_size HB.out) (fun k hk => Nat.le_trans HBS.out (HL.out.own hk))⟩
      have n_HC7 := Aside0.mk ((hf.block c7 (blk_lt HC7.out) HNE.out).trans HC7.out)
      have n_HCT := Aside0.mk (show 0 ≤ cut' ∧ cut' ≤ 1000 by have := hc2 HCT.out.1; have := HCT.out; omega)
      clear HL HR HB HS0 HC7 HCT HNE hc1 hc2 hf
      have HS0 := n_HS0
      have HR := n_HR
      have HB := n_HB
      have HC7 := n_HC7
      have HCT := n_HCT
      clear n_HS0 n_HR n_HB n_HC7 n_HCT
      rcases hcase with ⟨rfl, hl⟩ | ⟨hc0, rfl, hlx, l', rc', hd, hcase⟩
      · obtain ⟨l', hl'⟩ : ∃ l', l' = rcd (i : Int) m :: l.take 1 := ⟨_, rfl⟩
        have n_HE := Aside0.mk (HE.out.good (rcd_isB (i : Int) m))
        rw [← hl'] at hl n_HE
        clear HE hl'
        have HL := Aside0.mk hl
        have HE := n_HE
        clear hl n_HE
        have HU : Aside0 (w8.ownsRow b0 5 1 (.slice (some ⟨c7, 0, none⟩) m m) (rcd (i : Int) m).length (nums .u8 (rcd (i : Int) m))) := ⟨by
          have h := blk_own HC7.out HG7.out (by rw [rcd_length]; have := HMM.out; omega)
          rw [rcd_length] at h ⊢
          exact h⟩
        obtain ⟨us, hus, hrow, heach⟩ := HR.out.it
        have HROW := Aside0.mk hrow
        have HEACH := Aside0.mk heach
        have HUS := Aside0.mk (show us.length = n by rw [hus]; exact HAL.out.1)
        clear hrow heach hus HR
        (try dsimp only)
        go_wp2_with (((refine print_append (w0 := w8) b0 rfl (.tmp 76) (.tmp 78) 33 22 (.slice none 0 0) 24 rfl Tryd.underlying33 info22 rfl (by decide) (.slice A n c) us (.slice (some ⟨c7, 0, none⟩) m m) rfl rfl rfl HROW.out (Below.refl _ _) HS0.out (by have := HUS.out; have := HAL.out; have := H6.out; omega) ?_; intro v1 w4 hown hb1 hgr hat; obtain ⟨A1, c1, rfl⟩ := own_slice hown)))
        have hlen : (us ++ [Value.slice (some ⟨c7, 0, none⟩) m m]).length = n + 1 := by rw [List.length_append, List.length_singleton, HUS.out]
        have HR := Aside0.mk (RW.push (all := all) (HUS.out.trans HAL.out.1.symm) HROW.out HEACH.out HU.out hgr hown)
        have n_HL := Aside0.mk (HL.out.grown HROW.out hgr HB0.out.1)
        have n_HB := Aside0.mk (below_grown HB.out hgr (fun k hk => Nat.le_trans HB0.out.2.2 (own_base HROW.out hk)))
        have n_HS0 := Aside0.mk (Nat.le_trans HS0.out hgr.size)
        rw [hlen] at HR
        rw [HUS.out]
        have HN1 := Aside0.mk (show (all ++ [rcd (i : Int) m]).length = n + 1 by rw [List.length_append, List.length_singleton, HAL.out.1])
        clear HL HB HS0 HROW HEACH HU HUS hown hb1 hgr hat hlen
        have HL := n_HL
        have HB := n_HB
        have HS0 := n_HS0
        clear n_HL n_HB n_HS0
        have HI := Aside0.mk (show n + 1 ≤ i + 1 by have := HAL.out; omega)
        obtain ⟨n', hn'⟩ : ∃ n', n' = n + 1 := ⟨_, rfl⟩
        have hnc : (n : Int) + 1 = (n' : Int) := by rw [hn']; rfl
        rw [hnc] at HL HE
        rw [← hn'] at HR HN1 HI ⊢
        have HNP := Aside0.mk (show 0 < n' ∧ n' ≤ 41 by have := HI.out; have := H6.out; omega)
        clear hn' hnc
        obtain ⟨all', hall'⟩ : ∃ all', all' = all ++ [rcd (i : Int) m] := ⟨_, rfl⟩
        rw [← hall'] at HE HR HN1
        clear hall'
        have w7_ : wrap64 ((i : Int) + 1) = ((i + 1 : Nat) : Int) := by unfold wrap64; have := H6.out; omega
        go_roundg (gk - 1)
        case measure => have := HK.out; have := H6.out; omega
        case rel => exact ⟨i + 1, lb, n', c1, A1, all', l', cut', rfl, rfl, by first | rfl | (simp [w7_]; done) | (simp only [w7_]; rfl), ⟨by have := HK.out; have := H6.out; omega⟩, ⟨HN1.out, HI.out⟩, ⟨HL.out⟩, ⟨HR.out⟩, ⟨HE.out⟩, ⟨HB.out⟩, ⟨HS0.out⟩, ⟨HCT.out⟩⟩
      · have HD := Aside0.mk hd
        have HCASE := Aside0.mk hcase
        clear hd hcase hc0 hlx
        (try dsimp only)
        go_wp2_with fail
        refine (LD.dead_ HD.out).mono ?_
        rintro e w_ ⟨rfl, ⟨nd5, rfl⟩⟩
        have hb := pw_below_drewN (Below.refl w8.heap.size w8) nd5
        have hb_ := hb
        have n_HD := Aside0.mk (HD.out.under hb_)
        have n_HR := Aside0.mk (HR.out.under hb_)
        have n_HB := Aside0.mk (below_step HB.out hb_)
        have n_HS0 := Aside0.mk (Nat.le_trans HS0.out (below_size hb_))
        have n_HC7 := Aside0.mk (blk_below HC7.out hb_)
        clear HD HR HB HS0 HC7
        have HD := n_HD
        have HR := n_HR
        have HB := n_HB
        have HS0 := n_HS0
        have HC7 := n_HC7
        clear n_HD n_HR n_HB n_HS0 n_HC7 hb_
        clear hb
        generalize w8.drewN nd5 = w9 at HD HR HB HS0 HC7 ⊢
        (try dsimp only)
        go_wp2_with fail
        refine (LD.power HD.out).mono ?_
        rintro e w10 ⟨rfl, hd, hf⟩
        have n_HB : Aside0 (Below w.heap.size w w10) := ⟨hf.below HB.out (below_size HB.out) (fun k hk => by rw [hk]; exact Nat.le_trans HBS.out HD.out.own.1)⟩
        have n_HS0 := Aside0.mk (Nat.le_trans HS0.out hf.size)
        have n_HR := Aside0.mk (RW.dfg HD.out HR.out hf)
        have n_HC7 := Aside0.mk (blk5_dfg HD.out HC7.out hf)
        clear HD HB HS0 HR HC7 hf
        have HD := Aside0.mk hd
        have HB := n_HB
        have HS0 := n_HS0
        have HR := n_HR
        have HC7 := n_HC7
        clear hd n_HB n_HS0 n_HR n_HC7
        (try dsimp only)
        go_wp2_with fail
        refine (LD.open2 HD.out ge (gcell HG.out HB.out)).mono ?_
        rintro e w11 ⟨lb2, A6, oc6, rfl, hlb, hoc, hk, hl, hb⟩
        obtain ⟨r6, hr6⟩ : ∃ r6, r6 = l'.reverse.length := ⟨_, rfl⟩
        rw [← hr6] at hk hoc ⊢
        obtain ⟨b6, hb6⟩ : ∃ b6, b6 = w10.heap.size := ⟨_, rfl⟩
        rw [← hb6] at hk
        have HK6 := Aside0.mk hk
        have HRL := Aside0.mk (show l'.reverse.length = r6 ∧ r6 ≤ 2 by have := hl.ld.rc0.2.2; rw [List.length_reverse] at hr6; rw [List.length_reverse]; omega)
        have HV6 := Aside0.mk (show ∀ k, (Value.slice A n c).ownBlock = some k → k < b6 by rw [hb6]; exact HR.out.lt)
        clear hr6 hoc hk hlb HD hb6
        have hb_ := hb
        have n_HR := Aside0.mk (HR.out.under hb_)
        have n_HB := Aside0.mk (below_step HB.out hb_)
        have n_HS0 := Aside0.mk (Nat.le_trans HS0.out (below_size hb_))
        have n_HC7 := Aside0.mk (blk_below HC7.out hb_)
        clear HR HB HS0 HC7
        have HR := n_HR
        have HB := n_HB
        have HS0 := n_HS0
        have HC7 := n_HC7
        clear n_HR n_HB n_HS0 n_HC7 hb_
        clear hb
        have HL := Aside0.mk hl
        clear hl
        have HE2 := HE.out.fell (rcd_isB (i : Int) m) HCASE.out
        clear HCASE
        (try dsimp only)
        go_wp2_with fail
        rcases HE2 with HE2 | HE2
        · obtain ⟨rfl, he⟩ := HE2
          have HRB := Aside0.mk he.bytl
          have HAB := Aside0.mk he.byt
          clear HE
          have HE := Aside0.mk he
          clear he
          refine (ends_calls (HK6.out.kd HRL.out.1 (by have := HRL.out; omega)).1 (HK6.out.kd HRL.out.1 (by have := HRL.out; omega)).2 (HR.out.kd HAL.out.1 (by have := H6.out; have := HAL.out; omega)).1 (HR.out.kd HAL.out.1 (by have := H6.out; have := HAL.out; omega)).2 HRB.out HAB.out (by have := HRL.out; have := H6.out; have := HAL.out; omega)).mono ?_
          rintro e w_ ⟨rfl, ⟨nd6, rfl⟩⟩
          rw [HE.out.ends]
          have hb := pw_below_drewN (Below.refl w11.heap.size w11) nd6
          have hb_ := hb
          have n_HL := Aside0.mk (HL.out.under hb_)
          have n_HR := Aside0.mk (HR.out.under hb_)
          have n_HB := Aside0.mk (below_step HB.out hb_)
          have n_HS0 := Aside0.mk (Nat.le_trans HS0.out (below_size hb_))
          have n_HC7 := Aside0.mk (blk_below HC7.out hb_)
          have n_HK6 := Aside0.mk (HK6.out.under hb_)
          clear HL HR HB HS0 HC7 HK6
          have HL := n_HL
          have HR := n_HR
          have HB := n_HB
          have HS0 := n_HS0
          have HC7 := n_HC7
          have HK6 := n_HK6
          clear n_HL n_HR n_HB n_HS0 n_HC7 n_HK6 hb_
          clear hb
          generalize w11.drewN nd6 = w12 at HL HR HB HS0 HC7 HK6 ⊢
          (try dsimp only)
          go_wp2_with fail
          refine (LO.records HL.out (by have := H6.out; have := HAL.out; omega)).mono ?_
          rintro e w15 ⟨rfl, hb⟩
          have hb_ := hb
          have n_HL := Aside0.mk (HL.out.under hb_)
          have n_HR := Aside0.mk (HR.out.under hb_)
          have n_HB := Aside0.mk (below_step HB.out hb_)
          have n_HS0 := Aside0.mk (Nat.le_trans HS0.out (below_size hb_))
          have n_HC7 := Aside0.mk (blk_below HC7.out hb_)
          have n_HK6 := Aside0.mk (HK6.out.under hb_)
          clear HL HR HB HS0 HC7 HK6
          have HL := n_HL
          have HR := n_HR
          have HB := n_HB
          have HS0 := n_HS0
          have HC7 := n_HC7
          have HK6 := n_HK6
          clear n_HL n_HR n_HB n_HS0 n_HC7 n_HK6 hb_
          clear hb
          (try dsimp only)
          have nnh : ((n : Int) = (n : Int)) := by rfl
          have nna : decide ((n : Int) = (n : Int)) = true := decide_eq_true nnh
          have nnb : ((n : Int) = (n : Int)) = True := eq_true nnh
          have nnc : ((n : Int) == (n : Int)) = true := by simp [nnh]
          have nnd : ((n : Int) != (n : Int)) = false := by simp [nnh]
          go_wp2_with fail
          refine (LO.records HL.out (by have := H6.out; have := HAL.out; omega)).mono ?_
          rintro e w16 ⟨rfl, hb⟩
          have hb_ := hb
          have n_HL := Aside0.mk (HL.out.under hb_)
          have n_HR := Aside0.mk (HR.out.under hb_)
          have n_HB := Aside0.mk (below_step HB.out hb_)
          have n_HS0 := Aside0.mk (Nat.le_trans HS0.out (below_size hb_))
          have n_HC7 := Aside0.mk (blk_below HC7.out hb_)
          have n_HK6 := Aside0.mk (HK6.out.under hb_)
          clear HL HR HB HS0 HC7 HK6
          have HL := n_HL
          have HR := n_HR
          have HB := n_HB
          have HS0 := n_HS0
          have HC7 := n_HC7
          have HK6 := n_HK6
          clear n_HL n_HR n_HB n_HS0 n_HC7 n_HK6 hb_
          clear hb
          (try dsimp only)
          go_wp2_with fail
          refine (place_calls _ 60 (by decide) (by decide) w16).mono ?_
          rintro e w_ ⟨r4, hr4, rfl, ⟨nd8, rfl⟩⟩
          have hb := pw_below_drewN (Below.refl w16.heap.size w16) nd8
          have hb_ := hb
          have n_HL := Aside0.mk (HL.out.under hb_)
          have n_HR := Aside0.mk (HR.out.under hb_)
          have n_HB := Aside0.mk (below_step HB.out hb_)
          have n_HS0 := Aside0.mk (Nat.le_trans HS0.out (below_size hb_))
          clear HL HR HB HS0
          have HL := n_HL
          have HR := n_HR
          have HB := n_HB
          have HS0 := n_HS0
          clear n_HL n_HR n_HB n_HS0 hb_
          clear hb
          generalize w16.drewN nd8 = w13 at HL HR HB HS0 ⊢
          (try dsimp only)
          go_wp2_with fail
          refine (HL.out.cut_ _ _).mono ?_
          rintro e w14 ⟨rfl, hl, hf⟩
          rw [mx_nat, HP.out.1] at hl
          have n_HB : Aside0 (Below w.heap.size w w14) := ⟨hf.below HB.out (below_size HB.out) (fun k hk => Nat.le_trans HBS.out (HL.out.own (Or.inl hk)))⟩
          have n_HS0 := Aside0.mk (Nat.le_trans HS0.out hf.size)
          have n_HR := Aside0.mk (RW.dfg HL.out.ld HR.out hf)
          clear HL HB HS0 HR hf HCT
          have HL := Aside0.mk hl
          have HB := n_HB
          have HS0 := n_HS0
          have HR := n_HR
          clear hl n_HB n_HS0 n_HR
          have HCT := Aside0.mk (show (0 : Int) ≤ (r4 : Int) ∧ (r4 : Int) ≤ 1000 by omega)
          (try dsimp only)
          go_wp2
          have w7_ : wrap64 ((i : Int) + 1) = ((i + 1 : Nat) : Int) := by unfold wrap64; have := H6.out; omega
          go_roundg (gk - 1)
          case measure => have := HK.out; have := H6.out; omega
          case rel => exact ⟨i + 1, lb2, n, c, A, all, l', (r4 : Int), rfl, rfl, by first | rfl | (simp [w7_]; done) | (simp only [w7_]; rfl), ⟨by have := HK.out; have := H6.out; omega⟩, ⟨HAL.out.1, by have := HAL.out; omega⟩, ⟨HL.out⟩, ⟨HR.out⟩, ⟨HE.out⟩, ⟨HB.out⟩, ⟨HS0.out⟩, ⟨HCT.out⟩⟩
        · obtain ⟨rfl, he, t, ht⟩ := HE2
          have HRB := Aside0.mk he.bytl
          have HAB := Aside0.mk HE.out.byt
          clear HE
          have HE := Aside0.mk he
          have HT := Aside0.mk ht
          clear he ht
          cases hends : endsB l'.reverse all with
          | false =>
            refine (ends_calls (HK6.out.kd HRL.out.1 (by have := HRL.out; omega)).1 (HK6.out.kd HRL.out.1 (by have := HRL.out; omega)).2 (HR.out.kd HAL.out.1 (by have := H6.out; have := HAL.out; omega)).1 (HR.out.kd HAL.out.1 (by have := H6.out; have := HAL.out; omega)).2 HRB.out HAB.out (by have := HRL.out; have := H6.out; have := HAL.out; omega)).mono ?_
            rintro e w_ ⟨rfl, ⟨nd6, rfl⟩⟩
            rw [hends]
            have hb := pw_below_drewN (Below.refl w11.heap.size w11) nd6
            have hb_ := hb
            have n_HL := Aside0.mk (HL.out.under hb_)
            have n_HR := Aside0.mk (HR.out.under hb_)
            have n_HB := Aside0.mk (below_step HB.out hb_)
            have n_HS0 := Aside0.mk (Nat.le_trans HS0.out (below_size hb_))
            have n_HC7 := Aside0.mk (blk_below HC7.out hb_)
            have n_HK6 := Aside0.mk (HK6.out.under hb_)
            clear HL HR HB HS0 HC7 HK6
            have HL := n_HL
            have HR := n_HR
            have HB := n_HB
            have HS0 := n_HS0
            have HC7 := n_HC7
            have HK6 := n_HK6
            clear n_HL n_HR n_HB n_HS0 n_HC7 n_HK6 hb_
            clear hb
            generalize w11.drewN nd6 = w12 at HL HR HB HS0 HC7 HK6 ⊢
            clear hends HAB
            have HU : Aside0 (w12.ownsRow b0 5 1 (.slice (some ⟨c7, 0, none⟩) m m) (rcd (i : Int) m).length (nums .u8 (rcd (i : Int) m))) := ⟨by
              have h := blk_own HC7.out HG7.out (by rw [rcd_length]; have := HMM.out; omega)
              rw [rcd_length] at h ⊢
              exact h⟩
            obtain ⟨us, hus, hrow, heach⟩ := HR.out.it
            have HROW := Aside0.mk hrow
            have HEACH := Aside0.mk heach
            have HUS := Aside0.mk (show us.length = n by rw [hus]; exact HAL.out.1)
            clear hrow heach hus HR
            (try dsimp only)
            go_wp2_with (((refine print_append (w0 := w12) b0 rfl (.tmp 105) (.tmp 107) 33 22 (.slice none 0 0) 24 rfl Tryd.underlying33 info22 rfl (by decide) (.slice A n c) us (.slice (some ⟨c7, 0, none⟩) m m) rfl rfl rfl HROW.out (Below.refl _ _) HS0.out (by have := HUS.out; have := HAL.out; have := H6.out; omega) ?_; intro v1 w4 hown hb1 hgr hat; obtain ⟨A1, c1, rfl⟩ := own_slice hown)))
            have hlen : (us ++ [Value.slice (some ⟨c7, 0, none⟩) m m]).length = n + 1 := by rw [List.length_append, List.length_singleton, HUS.out]
            have HR := Aside0.mk (RW.push (all := all) (HUS.out.trans HAL.out.1.symm) HROW.out HEACH.out HU.out hgr hown)
            have n_HL := Aside0.mk (HL.out.grown HROW.out hgr HB0.out.1)
            have n_HB := Aside0.mk (below_grown HB.out hgr (fun k hk => Nat.le_trans HB0.out.2.2 (own_base HROW.out hk)))
            have n_HS0 := Aside0.mk (Nat.le_trans HS0.out hgr.size)
            have n_HC7 := Aside0.mk ((hgr.block c7 (blk_lt HC7.out) (fun he => by obtain ⟨cs', hc'⟩ := own_typed HROW.out c7 he.symm; exact blk_ne HC7.out hc' (by decide) rfl)).trans HC7.out)
            have n_HK6 := Aside0.mk (HK6.out.beside hgr HV6.out)
            rw [hlen] at HR
            rw [HUS.out]
            have HN1 := Aside0.mk (show (all ++ [rcd (i : Int) m]).length = n + 1 by rw [List.length_append, List.length_singleton, HAL.out.1])
            clear HL HB HS0 HROW HEACH HU HUS hown hb1 hgr hat hlen HC7 HK6
            have HL := n_HL
            have HB := n_HB
            have HS0 := n_HS0
            have HC7 := n_HC7
            have HK6 := n_HK6
            clear n_HL n_HB n_HS0 n_HC7 n_HK6
            have HI := Aside0.mk (show n + 1 ≤ i + 1 by have := HAL.out; omega)
            obtain ⟨n', hn'⟩ : ∃ n', n' = n + 1 := ⟨_, rfl⟩
            have hnc : (n : Int) + 1 = (n' : Int) := by rw [hn']; rfl
            rw [hnc] at HL HE
            rw [← hn'] at HR HN1 HI ⊢
            have HNP := Aside0.mk (show 0 < n' ∧ n' ≤ 41 by have := HI.out; have := H6.out; omega)
            clear hn' hnc
            obtain ⟨all', hall'⟩ : ∃ all', all' = all ++ [rcd (i : Int) m] := ⟨_, rfl⟩
            rw [← hall'] at HE HR HN1
            clear hall'
            have HAB := Aside0.mk HE.out.byt
            (try dsimp only)
            refine (ends_calls (HK6.out.kd HRL.out.1 (by have := HRL.out; omega)).1 (HK6.out.kd HRL.out.1 (by have := HRL.out; omega)).2 (HR.out.kd HN1.out (by have := HNP.out; omega)).1 (HR.out.kd HN1.out (by have := HNP.out; omega)).2 HRB.out HAB.out (by have := HRL.out; have := H6.out; have := HNP.out; omega)).mono ?_
            rintro e w_ ⟨rfl, ⟨nd9, rfl⟩⟩
            rw [HE.out.ends]
            have hb := pw_below_drewN (Below.refl w4.heap.size w4) nd9
            have hb_ := hb
            have n_HL := Aside0.mk (HL.out.under hb_)
            have n_HR := Aside0.mk (HR.out.under hb_)
            have n_HB := Aside0.mk (below_step HB.out hb_)
            have n_HS0 := Aside0.mk (Nat.le_trans HS0.out (below_size hb_))
            have n_HC7 := Aside0.mk (blk_below HC7.out hb_)
            have n_HK6 := Aside0.mk (HK6.out.under hb_)
            clear HL HR HB HS0 HC7 HK6
            have HL := n_HL
            have HR := n_HR
            have HB := n_HB
            have HS0 := n_HS0
            have HC7 := n_HC7
            have HK6 := n_HK6
            clear n_HL n_HR n_HB n_HS0 n_HC7 n_HK6 hb_
            clear hb
            generalize w4.drewN nd9 = w15 at HL HR HB HS0 HC7 HK6 ⊢
            clear HK6 HC7
            (try dsimp only)
            go_wp2_with fail
            refine (LO.records HL.out (by have := HNP.out; omega)).mono ?_
            rintro e w16 ⟨rfl, hb⟩
            have hb_ := hb
            have n_HL := Aside0.mk (HL.out.under hb_)
            have n_HR := Aside0.mk (HR.out.under hb_)
            have n_HB := Aside0.mk (below_step HB.out hb_)
            have n_HS0 := Aside0.mk (Nat.le_trans HS0.out (below_size hb_))
            clear HL HR HB HS0
            have HL := n_HL
            have HR := n_HR
            have HB := n_HB
            have HS0 := n_HS0
            clear n_HL n_HR n_HB n_HS0 hb_
            clear hb
            have nnh : ((n' : Int) = (n' : Int)) := by rfl
            have nna : decide ((n' : Int) = (n' : Int)) = true := decide_eq_true nnh
            have nnb : ((n' : Int) = (n' : Int)) = True := eq_true nnh
            have nnc : ((n' : Int) == (n' : Int)) = true := by simp [nnh]
            have nnd : ((n' : Int) != (n' : Int)) = false := by simp [nnh]
            (try dsimp only)
            go_wp2_with fail
            refine (LO.records HL.out (by have := HNP.out; omega)).mono ?_
            rintro e w17 ⟨rfl, hb⟩
            have hb_ := hb
            have n_HL := Aside0.mk (HL.out.under hb_)
            have n_HR := Aside0.mk (HR.out.under hb_)
            have n_HB := Aside0.mk (below_step HB.out hb_)
            have n_HS0 := Aside0.mk (Nat.le_trans HS0.out (below_size hb_))
            clear HL HR HB HS0
            have HL := n_HL
            have HR := n_HR
            have HB := n_HB
            have HS0 := n_HS0
            clear n_HL n_HR n_HB n_HS0 hb_
            clear hb
            (try dsimp only)
            go_wp2_with fail
            refine (place_calls _ 60 (by decide) (by decide) w17).mono ?_
            rintro e w_ ⟨r4, hr4, rfl, ⟨nd8, rfl⟩⟩
            have hb := pw_below_drewN (Below.refl w17.heap.size w17) nd8
            have hb_ := hb
            have n_HL := Aside0.mk (HL.out.under hb_)
            have n_HR := Aside0.mk (HR.out.under hb_)
            have n_HB := Aside0.mk (below_step HB.out hb_)
            have n_HS0 := Aside0.mk (Nat.le_trans HS0.out (below_size hb_))
            clear HL HR HB HS0
            have HL := n_HL
            have HR := n_HR
            have HB := n_HB
            have HS0 := n_HS0
            clear n_HL n_HR n_HB n_HS0 hb_
            clear hb
            generalize w17.drewN nd8 = w13 at HL HR HB HS0 ⊢
            (try dsimp only)
            go_wp2_with fail
            refine (HL.out.cut_ _ _).mono ?_
            rintro e w14 ⟨rfl, hl, hf⟩
            rw [mx_nat, HP.out.1] at hl
            have n_HB : Aside0 (Below w.heap.size w w14) := ⟨hf.below HB.out (below_size HB.out) (fun k hk => Nat.le_trans HBS.out (HL.out.own (Or.inl hk)))⟩
            have n_HS0 := Aside0.mk (Nat.le_trans HS0.out hf.size)
            have n_HR := Aside0.mk (RW.dfg HL.out.ld HR.out hf)
            clear HL HB HS0 HR hf HCT
            have HL := Aside0.mk hl
            have HB := n_HB
            have HS0 := n_HS0
            have HR := n_HR
            clear hl n_HB n_HS0 n_HR
            have HCT := Aside0.mk (show (0 : Int) ≤ (r4 : Int) ∧ (r4 : Int) ≤ 1000 by omega)
            (try dsimp only)
            go_wp2
            have w7_ : wrap64 ((i : Int) + 1) = ((i + 1 : Nat) : Int) := by unfold wrap64; have := H6.out; omega
            go_roundg (gk - 1)
            case measure => have := HK.out; have := H6.out; omega
            case rel => exact ⟨i + 1, lb2, n', c1, A1, all', l', (r4 : Int), rfl, rfl, by first | rfl | (simp [w7_]; done) | (simp only [w7_]; rfl), ⟨by have := HK.out; have := H6.out; omega⟩, ⟨HN1.out, HI.out⟩, ⟨HL.out⟩, ⟨HR.out⟩, ⟨HE.out⟩, ⟨HB.out⟩, ⟨HS0.out⟩, ⟨HCT.out⟩⟩
          | true =>
            refine (ends_calls (HK6.out.kd HRL.out.1 (by have := HRL.out; omega)).1 (HK6.out.kd HRL.out.1 (by have := HRL.out; omega)).2 (HR.out.kd HAL.out.1 (by have := H6.out; have := HAL.out; omega)).1 (HR.out.kd HAL.out.1 (by have := H6.out; have := HAL.out; omega)).2 HRB.out HAB.out (by have := HRL.out; have := H6.out; have := HAL.out; omega)).mono ?_
            rintro e w_ ⟨rfl, ⟨nd6, rfl⟩⟩
            rw [hends]
            have hb := pw_below_drewN (Below.refl w11.heap.size w11) nd6
            have hb_ := hb
            have n_HL := Aside0.mk (HL.out.under hb_)
            have n_HR := Aside0.mk (HR.out.under hb_)
            have n_HB := Aside0.mk (below_step HB.out hb_)
            have n_HS0 := Aside0.mk (Nat.le_trans HS0.out (below_size hb_))
            have n_HC7 := Aside0.mk (blk_below HC7.out hb_)
            have n_HK6 := Aside0.mk (HK6.out.under hb_)
            clear HL HR HB HS0 HC7 HK6
            have HL := n_HL
            have HR := n_HR
            have HB := n_HB
            have HS0 := n_HS0
            have HC7 := n_HC7
            have HK6 := n_HK6
            clear n_HL n_HR n_HB n_HS0 n_HC7 n_HK6 hb_
            clear hb
            generalize w11.drewN nd6 = w12 at HL HR HB HS0 HC7 HK6 ⊢
            clear hends HAB
            obtain ⟨n1, hn1⟩ : ∃ n1, n1 = n + 1 := ⟨_, rfl⟩
            have hn1c : (n : Int) + 1 = (n1 : Int) := by rw [hn1]; rfl
            rw [hn1c] at HL HE
            have HN1C := Aside0.mk hn1c
            have W1 := Aside0.mk (show wrap64 ((n : Int) + 1) = (n1 : Int) by rw [hn1c]; exact wrapN n1 (by have := H6.out; have := HAL.out; omega))
            have nnh : ¬ ((n1 : Int) = (n : Int)) := by omega
            have nna : decide ((n1 : Int) = (n : Int)) = false := decide_eq_false nnh
            have nnb : ((n1 : Int) = (n : Int)) = False := eq_false nnh
            have nnc : ((n1 : Int) == (n : Int)) = false := by simp [nnh]
            have nnd : ((n1 : Int) != (n : Int)) = true := by simp [nnh]
            have HNB := Aside0.mk (show n1 ≤ 41 by have := H6.out; have := HAL.out; omega)
            clear hn1 hn1c
            have H60 := Aside0.mk (show 0 < r6 by
              have h := HRL.out.1
              rw [HT.out, List.reverse_cons, List.length_append, List.length_singleton] at h
              omega)
            obtain ⟨ad6, uA, uc, e6, hx6, hxc, hxk⟩ := kd_last (HK6.out.kd HRL.out.1 (by have := HRL.out; omega)).1 H60.out
            subst e6
            rw [show l'.headD [] = rcd (i : Int) m by rw [HT.out]; rfl] at hx6 hxc hxk
            obtain ⟨p6, hp6⟩ : ∃ p6, p6 = r6 - 1 := ⟨_, rfl⟩
            rw [← hp6] at hx6
            have W2 := Aside0.mk (show wrap64 ((r6 : Int) - 1) = (p6 : Int) by unfold wrap64; have := HRL.out; have := H60.out; omega)
            have rpa : decide (((p6 : Nat) : Int) < ((r6 : Nat) : Int)) = true := decide_eq_true (by have := H60.out; omega)
            have rpb : decide (p6 < r6) = true := decide_eq_true (by have := H60.out; omega)
            have rpc : (p6 < r6) = True := eq_true (by have := H60.out; omega)
            have rpd : (((p6 : Nat) : Int) < ((r6 : Nat) : Int)) = True := eq_true (by have := H60.out; omega)
            have rra : decide ((0 : Int) < ((r6 : Nat) : Int)) = true := decide_eq_true (by have := H60.out; omega)
            have rrb : decide (0 < r6) = true := decide_eq_true (by have := H60.out; omega)
            have rrc : (0 < r6) = True := eq_true (by have := H60.out; omega)
            have rrd : ((0 : Int) < ((r6 : Nat) : Int)) = True := eq_true (by have := H60.out; omega)
            have HC := Aside0.mk hx6
            have HQ := Aside0.mk hxk
            have HQC := Aside0.mk hxc
            clear hx6 hxk hxc hp6 HK6
            (try dsimp only)
            go_wp2_with fail
            refine (LO.records HL.out (by have := HNB.out; omega)).mono ?_
            rintro e w15 ⟨rfl, hb⟩
            have hb_ := hb
            have n_HL := Aside0.mk (HL.out.under hb_)
            have n_HR := Aside0.mk (HR.out.under hb_)
            have n_HB := Aside0.mk (below_step HB.out hb_)
            have n_HS0 := Aside0.mk (Nat.le_trans HS0.out (below_size hb_))
            have n_HC7 := Aside0.mk (blk_below HC7.out hb_)
            have n_HC := Aside0.mk (cell_below HC.out hb_)
            have n_HQ := Aside0.mk (Kd.C_below HQ.out hb_)
            clear HL HR HB HS0 HC7 HC HQ
            have HL := n_HL
            have HR := n_HR
            have HB := n_HB
            have HS0 := n_HS0
            have HC7 := n_HC7
            have HC := n_HC
            have HQ := n_HQ
            clear n_HL n_HR n_HB n_HS0 n_HC7 n_HC n_HQ hb_
            clear hb
            (try dsimp only)
            go_wp2_with fail
            refine (LO.records HL.out (by have := HNB.out; omega)).mono ?_
            rintro e w16 ⟨rfl, hb⟩
            have hb_ := hb
            have n_HL := Aside0.mk (HL.out.under hb_)
            have n_HR := Aside0.mk (HR.out.under hb_)
            have n_HB := Aside0.mk (below_step HB.out hb_)
            have n_HS0 := Aside0.mk (Nat.le_trans HS0.out (below_size hb_))
            have n_HC7 := Aside0.mk (blk_below HC7.out hb_)
            have n_HC := Aside0.mk (cell_below HC.out hb_)
            have n_HQ := Aside0.mk (Kd.C_below HQ.out hb_)
            clear HL HR HB HS0 HC7 HC HQ
            have HL := n_HL
            have HR := n_HR
            have HB := n_HB
            have HS0 := n_HS0
            have HC7 := n_HC7
            have HC := n_HC
            have HQ := n_HQ
            clear n_HL n_HR n_HB n_HS0 n_HC7 n_HC n_HQ hb_
            clear hb
            have w1_ := W1.out
            have w2_ := W2.out
            have hx6 := HC.out
            (try dsimp only)
            go_wp2_with fail
            clear w1_ w2_ hx6
            refine (bytes_calls HQ.out HQC.out (blk_C HC7.out (rcd_length _ _) (by have := HMM.out; omega)) (Nat.le_refl _) (rcd_isB _ _) (rcd_isB _ _)).mono ?_
            rintro e w_ ⟨rfl, ⟨nd9, rfl⟩⟩
            rw [decide_eq_true (rfl : rcd (i : Int) m = rcd (i : Int) m)]
            have hb := pw_below_drewN (Below.refl w16.heap.size w16) nd9
            have hb_ := hb
            have n_HL := Aside0.mk (HL.out.under hb_)
            have n_HR := Aside0.mk (HR.out.under hb_)
            have n_HB := Aside0.mk (below_step HB.out hb_)
            have n_HS0 := Aside0.mk (Nat.le_trans HS0.out (below_size hb_))
            have n_HC7 := Aside0.mk (blk_below HC7.out hb_)
            clear HL HR HB HS0 HC7
            have HL := n_HL
            have HR := n_HR
            have HB := n_HB
            have HS0 := n_HS0
            have HC7 := n_HC7
            clear n_HL n_HR n_HB n_HS0 n_HC7 hb_
            clear hb
            generalize w16.drewN nd9 = w17 at HL HR HB HS0 HC7 ⊢
            clear HC HQ
            (try dsimp only)
            go_wp2_with fail
            refine (LO.records HL.out (by have := HNB.out; omega)).mono ?_
            rintro e w18 ⟨rfl, hb⟩
            have hb_ := hb
            have n_HL := Aside0.mk (HL.out.under hb_)
            have n_HR := Aside0.mk (HR.out.under hb_)
            have n_HB := Aside0.mk (below_step HB.out hb_)
            have n_HS0 := Aside0.mk (Nat.le_trans HS0.out (below_size hb_))
            have n_HC7 := Aside0.mk (blk_below HC7.out hb_)
            clear HL HR HB HS0 HC7
            have HL := n_HL
            have HR := n_HR
            have HB := n_HB
            have HS0 := n_HS0
            have HC7 := n_HC7
            clear n_HL n_HR n_HB n_HS0 n_HC7 hb_
            clear hb
            rw [← HN1C.out] at HL HE
            have HU : Aside0 (w18.ownsRow b0 5 1 (.slice (some ⟨c7, 0, none⟩) m m) (rcd (i : Int) m).length (nums .u8 (rcd (i : Int) m))) := ⟨by
              have h := blk_own HC7.out HG7.out (by rw [rcd_length]; have := HMM.out; omega)
              rw [rcd_length] at h ⊢
              exact h⟩
            obtain ⟨us, hus, hrow, heach⟩ := HR.out.it
            have HROW := Aside0.mk hrow
            have HEACH := Aside0.mk heach
            have HUS := Aside0.mk (show us.length = n by rw [hus]; exact HAL.out.1)
            clear hrow heach hus HR
            (try dsimp only)
            go_wp2_with (((refine print_append (w0 := w18) b0 rfl (.tmp 148) (.tmp 150) 33 22 (.slice none 0 0) 24 rfl Tryd.underlying33 info22 rfl (by decide) (.slice A n c) us (.slice (some ⟨c7, 0, none⟩) m m) rfl rfl rfl HROW.out (Below.refl _ _) HS0.out (by have := HUS.out; have := HAL.out; have := H6.out; omega) ?_; intro v1 w4 hown hb1 hgr hat; obtain ⟨A1, c1, rfl⟩ := own_slice hown)))
            have hlen : (us ++ [Value.slice (some ⟨c7, 0, none⟩) m m]).length = n + 1 := by rw [List.length_append, List.length_singleton, HUS.out]
            have HR := Aside0.mk (RW.push (all := all) (HUS.out.trans HAL.out.1.symm) HROW.out HEACH.out HU.out hgr hown)
            have n_HL := Aside0.mk (HL.out.grown HROW.out hgr HB0.out.1)
            have n_HB := Aside0.mk (below_grown HB.out hgr (fun k hk => Nat.le_trans HB0.out.2.2 (own_base HROW.out hk)))
            have n_HS0 := Aside0.mk (Nat.le_trans HS0.out hgr.size)
            rw [hlen] at HR
            rw [HUS.out]
            have HN1 := Aside0.mk (show (all ++ [rcd (i : Int) m]).length = n + 1 by rw [List.length_append, List.length_singleton, HAL.out.1])
            clear HL HB HS0 HROW HEACH HU HUS hown hb1 hgr hat hlen
            have HL := n_HL
            have HB := n_HB
            have HS0 := n_HS0
            clear n_HL n_HB n_HS0
            have HI := Aside0.mk (show n + 1 ≤ i + 1 by have := HAL.out; omega)
            obtain ⟨n', hn'⟩ : ∃ n', n' = n + 1 := ⟨_, rfl⟩
            have hnc : (n : Int) + 1 = (n' : Int) := by rw [hn']; rfl
            rw [hnc] at HL HE
            rw [← hn'] at HR HN1 HI ⊢
            have HNP := Aside0.mk (show 0 < n' ∧ n' ≤ 41 by have := HI.out; have := H6.out; omega)
            clear hn' hnc
            obtain ⟨all', hall'⟩ : ∃ all', all' = all ++ [rcd (i : Int) m] := ⟨_, rfl⟩
            rw [← hall'] at HE HR HN1
            clear hall'
            refine (place_calls _ 60 (by decide) (by decide) w4).mono ?_
            rintro e w_ ⟨r4, hr4, rfl, ⟨nd8, rfl⟩⟩
            have hb := pw_below_drewN (Below.refl w4.heap.size w4) nd8
            have hb_ := hb
            have n_HL := Aside0.mk (HL.out.under hb_)
            have n_HR := Aside0.mk (HR.out.under hb_)
            have n_HB := Aside0.mk (below_step HB.out hb_)
            have n_HS0 := Aside0.mk (Nat.le_trans HS0.out (below_size hb_))
            clear HL HR HB HS0
            have HL := n_HL
            have HR := n_HR
            have HB := n_HB
            have HS0 := n_HS0
            clear n_HL n_HR n_HB n_HS0 hb_
            clear hb
            generalize w4.drewN nd8 = w13 at HL HR HB HS0 ⊢
            (try dsimp only)
            go_wp2_with fail
            refine (HL.out.cut_ _ _).mono ?_
            rintro e w14 ⟨rfl, hl, hf⟩
            rw [mx_nat, HP.out.1] at hl
            have n_HB : Aside0 (Below w.heap.size w w14) := ⟨hf.below HB.out (below_size HB.out) (fun k hk => Nat.le_trans HBS.out (HL.out.own (Or.inl hk)))⟩
            have n_HS0 := Aside0.mk (Nat.le_trans HS0.out hf.size)
            have n_HR := Aside0.mk (RW.dfg HL.out.ld HR.out hf)
            clear HL HB HS0 HR hf HCT
            have HL := Aside0.mk hl
            have HB := n_HB
            have HS0 := n_HS0
            have HR := n_HR
            clear hl n_HB n_HS0 n_HR
            have HCT := Aside0.mk (show (0 : Int) ≤ (r4 : Int) ∧ (r4 : Int) ≤ 1000 by omega)
            (try dsimp only)
            go_wp2
            have w7_ : wrap64 ((i : Int) + 1) = ((i + 1 : Nat) : Int) := by unfold wrap64; have := H6.out; omega
            go_roundg (gk - 1)
            case measure => have := HK.out; have := H6.out; omega
            case rel => exact ⟨i + 1, lb2, n', c1, A1, all', l', (r4 : Int), rfl, rfl, by first | rfl | (simp [w7_]; done) | (simp only [w7_]; rfl), ⟨by have := HK.out; have := H6.out; omega⟩, ⟨HN1.out, HI.out⟩, ⟨HL.out⟩, ⟨HR.out⟩, ⟨HE.out⟩, ⟨HB.out⟩, ⟨HS0.out⟩, ⟨HCT.out⟩⟩
    · have c6a : decide (((i : Nat) : Int) < ((n2 : Nat) : Int)) = false := decide_eq_false (by omega)
      have c6b : decide (i < n2) = false := decide_eq_false (by omega)
      have c6c : (i < n2) = False := eq_false (by omega)
      have c6d : (((i : Nat) : Int) < ((n2 : Nat) : Int)) = False := eq_false (by omega)
      have HI := Aside0.mk (show n ≤ 30 by have := HAL.out; have := HK.out; have := NL.out; omega)
      clear c6
      (try dsimp only)
      go_wp2_with fail
      refine (HL.out.ld.power).mono ?_
      rintro e w10 ⟨rfl, hd, hf⟩
      have n_HB : Aside0 (Below w.heap.size w w10) := ⟨hf.below HB.out (below_size HB.out) (fun k hk => by rw [hk]; exact Nat.le_trans HBS.out HL.out.ld.own.1)⟩
      have n_HR := Aside0.mk (RW.dfg HL.out.ld HR.out hf)
      clear HL HB HR hf
      have HD := Aside0.mk hd
      have HB := n_HB
      have HR := n_HR
      clear hd n_HB n_HR
      (try dsimp only)
      go_wp2_with fail
      refine (LD.open_ HD.out ge (gcell HG.out HB.out)).mono ?_
      rintro e w11 ⟨lb2, A6, oc6, rfl, hlb, hoc, hk, hl, hb⟩
      obtain ⟨r6, hr6⟩ : ∃ r6, r6 = l.reverse.length := ⟨_, rfl⟩
      rw [← hr6] at hk hoc ⊢
      have HK6 := Aside0.mk hk
      have HKC := Aside0.mk hoc
      clear hr6 hoc hk hlb HD hl
      have hb_ := hb
      have n_HR := Aside0.mk (HR.out.under hb_)
      have n_HB := Aside0.mk (below_step HB.out hb_)
      clear HR HB
      have HR := n_HR
      have HB := n_HB
      clear n_HR n_HB hb_
      clear hb
      (try dsimp only)
      go_wp2_with fail
      refine (ends_calls HK6.out HKC.out (HR.out.kd HAL.out.1 (by have := HI.out; omega)).1 (HR.out.kd HAL.out.1 (by have := HI.out; omega)).2 HE.out.bytl HE.out.byt (by have := HI.out; have := HE.out.len; have := HAL.out.1; have h6 := HK6.out.1; rw [List.length_reverse] at h6; omega)).mono ?_
      rintro e w_ ⟨rfl, ⟨nd7, rfl⟩⟩
      rw [HE.out.ends]
      (try dsimp only)
      go_wp2
      (try simp only [Exit.inBlock, Exit.then])
      go_ret
      exact ⟨rfl, pw_below_drewN HB.out nd7⟩
end Go.Proofs.YtgeggcifhojpmaaDoor.PB
namespace Go.Proofs.YtgeggcifhojpmaaDoor.logFalls
open Go.ChangeShapes Go.WideShapes Go.ChangeAt Go.RowKit Go.Joins Go.Proofs.YtgeggcifhojpmaaDoorW.PrintWords Go.Proofs.YtgeggcifhojpmaaDoorW.AggWords
open Go.ChangeMaps (open_string shut_string)
set_option linter.unusedVariables false
theorem own : ownKnob Tryd.prog.godebug = none := by kernel_rfl
theorem laidOut : laidOutB Tryd.prog = true := by kernel_rfl
theorem gN : Tryd.prog.globalNamed "lych/log.errBlock" = some 0 := by kernel_rfl
theorem gType : (Tryd.prog.globals[0]?).map (·.type) = some 67 := by kernel_rfl
theorem cells115 : Tryd.prog.cellsOf 115 = 1 := by kernel_rfl
theorem cells9 : Tryd.prog.cellsOf 9 = 1 := by kernel_rfl
theorem star : "*" ++ "errors.errorString" = "*errors.errorString" := by decide
theorem row91 (u : TypeId) (h : Tryd.prog.typeName? 3 u = some "*errors.errorString") : u = 91 :=
  typeName_ptr_named (nm := "errors.errorString") (by rw [star]; kernel_rfl) (by kernel_rfl) (by decide) u (by rw [star]; exact h)
/-- What the listed variable holds. -/
theorem laid_ge {W : World} (h : laidMetH Tryd.prog Rows.logFallsRow.laid W) : ∃ ge : Addr, W.cell? ⟨0, 0, none⟩ = some (.iface 91 (.pointer (some ge))) := by
  have h' : laidMet Tryd.prog [("lych/log.errBlock", Rows.laid_lych_log_errBlock)] W := h
  obtain ⟨a, s, hv, _⟩ := laid_sentinel h' gN gType Tryd.underlying67 row91 Tryd.underlying91 Tryd.underlying115 rfl rfl Tryd.underlying9 cells115 cells9
  exact ⟨a, by simpa using World.var?_cell gN hv 0⟩
noncomputable def low : Nat := (World.holding Tryd.prog default ⟨#[], #[], []⟩).heap.size
noncomputable def laidWorld (os : Os) : World :=
  let w0 := World.holding Tryd.prog os ⟨#[.cells #[.string { data := #[110, 111, 32, 115, 117, 99, 104, 32, 98, 108, 111, 99, 107] }] 115], #[], []⟩
  { w0 with heap := w0.heap.modify 0 fun
      | .cells _ t frozen => .cells #[.iface 91 (.pointer (some ⟨low, 0, none⟩))] t frozen
      | o => o }
theorem laidWorld_met (os : Os) (args : Array Value) : laidMetH Tryd.prog Rows.logFallsRow.laid ((laidWorld os).forCall (fun _ _ => 0) ⟨#[], args, []⟩).memory :=
  laidMetH_of_parts (laidMet_of_run (ps := [.cell 0 0, .cell low 0]) 8 (by kernel_rfl) (by kernel_rfl) (by kernel_rfl)) (by kernel_rfl)
set_option maxRecDepth 100000 in
theorem lifted (os : Os) (started : os.Started) (H : Type) (enc : TypeId × Value → H) :
    ReturnsInHanded {} Tryd.checked os 7 .any (fun w args => (Rows.logFallsSpec.pre enc Tryd.prog Tryd.f7 [] false w args ∧ laidMetH Tryd.prog Rows.logFallsRow.laid w) ∧ sizedMet enc Tryd.prog Tryd.f7 (OpenSpec.ofChange Rows.logFallsSpec) false w args)
      (Rows.logFallsSpec.post enc Tryd.prog Tryd.f7 false true false false) := by
  refine returnsInHanded_of_change_and (C := Tryd.checked) (X := fun w _ => laidMetH Tryd.prog Rows.logFallsRow.laid w) (fun _ _ _ hh h => h.of_heap hh) own started (by kernel_rfl) Tryd.func7
    (ChangeSpec.witness_at (enc := enc) (C := Tryd.checked) (os := os) (X := fun w _ => laidMetH Tryd.prog Rows.logFallsRow.laid w) false (laidWorld os) #[.int .i64 0, .int .i64 0, .slice none 0 0, .int .i64 0, .int .i64 0, .int .u8 0] 8 rfl (by kernel_rfl) (by kernel_rfl) (by kernel_rfl) (by kernel_rfl) (by kernel_rfl) (laidWorld_met os _)) ?_
  intro W base args ds gs before hval0 hW _ _ hL _
  have hval : ∀ (j : Nat) t v, Tryd.f7.params[j]? = some t → args[j]? = some v → Value.okWide Tryd.prog W .any base t v := hval0
  have hW' := hW
  obtain ⟨p, q, hA0, hV, rfl, hfz, hnd⟩ := hW
  have hA : DataW.TrodAll enc Tryd.prog W 0 (fun _ => true) true Tryd.f7.params.toList args.toList ds p := hA0
  rw [Tryd.params7] at hA hval
  obtain ⟨v0, vs0, d0, ds0, p0, q0, hargs, rfl, rfl, h0, r0⟩ := trodAll_cons hA
  obtain ⟨v1, vs1, d1, ds1, p1, q1, rfl, rfl, rfl, h1, r1⟩ := trodAll_cons r0
  obtain ⟨v2, vs2, d2, ds2, p2, q2, rfl, rfl, rfl, h2, r2⟩ := trodAll_cons r1
  obtain ⟨v3, vs3, d3, ds3, p3, q3, rfl, rfl, rfl, h3, r3⟩ := trodAll_cons r2
  obtain ⟨v4, vs4, d4, ds4, p4, q4, rfl, rfl, rfl, h4, r4⟩ := trodAll_cons r3
  obtain ⟨v5, vs5, d5, ds5, p5, q5, rfl, rfl, rfl, h5, r5⟩ := trodAll_cons r4
  obtain ⟨rfl, rfl, rfl⟩ := trodAll_nil r5
  obtain rfl : args = #[v0, v1, v2, v3, v4, v5] := by cases args; simp_all
  obtain ⟨rfl, rfl⟩ := trodVars_none hV
  obtain ⟨ge, hge⟩ := laid_ge hL
  obtain ⟨a0, rfl, rfl, rfl, w0⟩ := open_int Tryd.underlying3 (hval 0 3 v0 rfl rfl) h0
  obtain ⟨a1, rfl, rfl, rfl, w1⟩ := open_int Tryd.underlying3 (hval 1 3 v1 rfl rfl) h1
  obtain ⟨A2, n2, c2, rfl⟩ := okWide_slice Tryd.underlying27 (hval 2 27 v2 rfl rfl)
  have k2 := h2
  have lt2 : ∀ x ∈ p2, x.block < W.heap.size := by obtain ⟨m, hm⟩ := k2; exact DataW.trod_lt m _ _ _ hm
  obtain ⟨fuel2, hf2⟩ := h2
  obtain ⟨z2, w2⟩ := row_of Tryd.underlying27 Tryd.underlying39 (by kernel_rfl) hf2
  obtain ⟨l2, rfl, hr2, hm2, hw2, hc2⟩ := ReadsInt.ofRowC w2
  obtain ⟨a3, rfl, rfl, rfl, w3⟩ := open_int Tryd.underlying3 (hval 3 3 v3 rfl rfl) h3
  obtain ⟨a4, rfl, rfl, rfl, w4⟩ := open_int Tryd.underlying3 (hval 4 3 v4 rfl rfl) h4
  obtain ⟨a5, rfl, rfl, rfl, w5⟩ := open_int Tryd.underlying5 (hval 5 5 v5 rfl rfl) h5
  clear hA0 hval0
  refine (PB.LogFalls.calls a0 a1 _ _ _ a3 a4 a5 W ge hge (Kd.C_of_reads (d := (0 : Int)) (h1 := fun _ => rfl) hr2) hc2 (PB.wf16 hw2)).mono fun e W' ⟨he, bel⟩ => ?_
  subst he
  exact ⟨_, rfl, _, _, _, [], _, [], hW', trodAll_mk1 (shut_bool Tryd.underlying4 _), (trodAll_cons_mk (shut_int Tryd.underlying3 w0) (trodAll_cons_mk (shut_int Tryd.underlying3 w1) (trodAll_cons_mk (Below.trod laidOut (by kernel_rfl) (of_decide_eq_true (by kernel_rfl)) k2 bel lt2) (trodAll_cons_mk (shut_int Tryd.underlying3 w3) (trodAll_cons_mk (shut_int Tryd.underlying3 w4) (trodAll_cons_mk (shut_int Tryd.underlying5 w5) trodAll_mk0)))))), rfl, bel.frame _, fun h => by cases h⟩
theorem over : Rows.logFallsRow.holds Tryd.pinned (OpenSpec.ofChange Rows.logFallsSpec) :=
  OpenClaim.holds_of_wide 7 Tryd.f7 rfl rfl rfl rfl rfl rfl rfl ⟨rfl, rfl, rfl, rfl, rfl⟩ rfl rfl rfl rfl rfl (by kernel_rfl) Tryd.func7 (by kernel_rfl)
    (of_decide_eq_true (by kernel_rfl)) (by unfold Func.isWrapper; first | (rw [if_pos (by decide +kernel)]; kernel_rfl) | (rw [if_neg (by decide +kernel)]; exact ⟨rfl, rfl⟩))
    (fun os started H enc _ => lifted os started H enc)
theorem proved : Rows.LogFallsSaid := over
theorem card : Rows.LogFallsCardSaid :=
  Claim7.holds_tied_plain_at .later [] [.sentinel] true (true, "d6af000c36f002e728fe3a0d9820601450968c7f60402185504d7936053a82d1") true
    proved (fun _ h => by cases h) (by kernel_rfl) (fun _ h => by cases h) logFalls_row_tie rfl ⟨rfl, rfl⟩ (by kernel_rfl) rfl
    (fun f fn hf hfn => by
      obtain rfl : f = 7 := Option.some.inj ((show Tryd.prog.funcNamed "lych/lychlaw10.LogFalls" = some 7 by kernel_rfl).symm.trans hf) |>.symm
      obtain rfl : fn = Tryd.f7 := (Option.some.inj (Tryd.func7.symm.trans hfn)).symm
      exact ⟨by kernel_rfl, fun j t ht => by
        rw [Tryd.params7] at ht
        have h3 : t = 3 ∨ t = 5 ∨ t = 27 := by
          rcases j with _ | j
          · simp at ht; subst ht; simp
          rcases j with _ | j
          · simp at ht; subst ht; simp
          rcases j with _ | j
          · simp at ht; subst ht; simp
          rcases j with _ | j
          · simp at ht; subst ht; simp
          rcases j with _ | j
          · simp at ht; subst ht; simp
          rcases j with _ | j
          · simp at ht; subst ht; simp
          simp at ht
        rcases h3 with rfl | rfl | rfl
        · exact (show Tryd.prog.wantsStandIn 3 = false by kernel_rfl)
        · exact (show Tryd.prog.wantsStandIn 5 = false by kernel_rfl)
        · exact (show Tryd.prog.wantsStandIn 27 = false by kernel_rfl)⟩)
    (by kernel_rfl)
#print axioms card
end Go.Proofs.YtgeggcifhojpmaaDoor.logFalls
namespace Go.Proofs.YtgeggcifhojpmaaDoor
/-- The tied card, under a short name, for the claim. -/
theorem logFallsCard_holds : Rows.LogFallsCardSaid := logFalls.card
end Go.Proofs.YtgeggcifhojpmaaDoor
