/- LogOnly: for every input the Go function returns true, and each argument reads as before; the listed variable tied to the program's text. -/
import Derived.Test.YtgeggcifhojpmaaDoorZLf
import Derived.Test.YtgeggcifhojpmaaDoorRows
import Derived.Test.YtgeggcifhojpmaaDoorTie
import Derived.Test.YtgeggcifhojpmaaDoorCards
import Derived.Test.YtgeggcifhojpmaaDoorZW
import Derived.WalkKit
import Derived.ProofKit
import Derived.OpenShut
import Derived.ShutString
import Derived.ChangeOld
import Derived.Below
import Derived.SizedLaws
import Derived.Lib.SmallJoins
import Derived.RowKitTokens
import Derived.LaidLaws
import Derived.LaidHandle
import Derived.Stop.LaidErr
import Derived.Stop.LaidTwo
import Derived.SevenTiedAt
/- LogOnly: Open writes nothing. -/
namespace Go.Proofs.YtgeggcifhojpmaaDoor.PB
open Go.RowKit Go.Proofs.YtgeggcifhojpmaaDoorW.PrintWords Go.Proofs.YtgeggcifhojpmaaDoorW.PrintLast Go.Proofs.YtgeggcifhojpmaaDoorW.PrintMore
attribute [local go_sem] max2_mx min2_mn max_two min_two max_three min_three max_four min_four   -- for this text's walks alone
set_option linter.unusedVariables false
set_option linter.unusedSimpArgs false

/-- LogOnly's state: the log lives, or its disk fell. -/
inductive OnlySt (w : World) (base g q s : Nat) (hs : List Nat) (pre : Int) (lb : Nat) (M : Int) : Prop where
  | live (cut : Int) (l : List (List Int)) (rc : Int) (h : LO w base g q s hs cut pre false lb l rc M) (hc : (0 ≤ cut ∧ cut ≤ 1000) ∧ rc ≤ M) : OnlySt w base g q s hs pre lb M
  | fell (cut : Int) (l : List (List Int)) (rc : Int) (h : LD w base g q s hs cut pre true l rc M) (hx : LX w g lb) (hl : base ≤ lb) : OnlySt w base g q s hs pre lb M
section
variable {w w' : World} {base g q s lb : Nat} {hs : List Nat} {pre M : Int}
theorem OnlySt.ld (h : OnlySt w base g q s hs pre lb M) : ∃ cut dead l rc, LD w base g q s hs cut pre dead l rc M := by
  cases h with
  | live cut l rc h hc => exact ⟨_, _, _, _, h.ld⟩
  | fell cut l rc h hx hl => exact ⟨_, _, _, _, h⟩
theorem OnlySt.under (h : OnlySt w base g q s hs pre lb M) (hb : Below w.heap.size w w') : OnlySt w' base g q s hs pre lb M := by
  cases h with
  | live cut l rc h hc => exact .live cut l rc (h.under hb) hc
  | fell cut l rc h hx hl => exact .fell cut l rc (h.under hb) (hx.under hb) hl
theorem OnlySt.big (h : OnlySt w base g q s hs pre lb M) : 256 ≤ s ∧ s ≤ 65536 ∧ 4 ≤ hs.length ∧ hs.length ≤ 64 := by
  obtain ⟨_, _, _, _, h⟩ := h.ld
  exact h.big
theorem OnlySt.own (h : OnlySt w base g q s hs pre lb M) {k : Nat} (hk : k = g ∨ k ∈ hs ∨ k = lb) : base ≤ k := by
  cases h with
  | live cut l rc h hc => exact h.own hk
  | fell cut l rc h hx hl =>
    rcases hk with rfl | hk | rfl
    · exact h.own.1
    · exact h.own.2.2 k hk
    · exact hl
theorem OnlySt.above (h : OnlySt w base g q s hs pre lb M) {ab : Nat} (hab : w.heap.size ≤ ab) : ¬ (ab = g ∨ ab ∈ hs ∨ ab = lb) := by
  cases h with
  | live cut l rc h hc => exact h.above hab
  | fell cut l rc h hx hl =>
    have h1 := h.lt
    obtain ⟨cs, h2⟩ := hx.b59
    have h3 := blk_lt h2
    rintro (hh | hh | hh)
    · omega
    · have := h1.2.2 ab hh; omega
    · omega
theorem OnlySt.room (h : OnlySt w base g q s hs pre lb M) : Calls Tryd.prog 16 #[.pointer (some ⟨g, 0, none⟩)] w fun e w' => e = .returned (.int .i64 (lgRoom hs.length s : Int)) ∧ Drawn0 w w' := by
  obtain ⟨_, _, _, _, h⟩ := h.ld
  exact h.room
theorem OnlySt.append (h : OnlySt w base g q s hs pre lb M) (ab : Nat) {n : Nat} (bl : List Int) (hn : bl.length = n) (hblk : w.heap[ab]? = some (.cells (dkB bl) 5 (0, 0))) (hab : ¬ (ab = g ∨ ab ∈ hs ∨ ab = lb)) (hbl : IsB bl) (hshort : n ≤ lgRoom hs.length s) (hM : M ≤ 250) (p : Nat) (hp : pre = (p : Int) ∧ p ≤ s) :
    Calls Tryd.prog 19 #[.pointer (some ⟨lb, 0, none⟩), .slice (some ⟨ab, 0, none⟩) n n] w fun e w' => (∃ ev, e = .returned (.int .i64 ev)) ∧ OnlySt w' base g q s hs pre lb (M + 1) ∧ DF (fun k => k = g ∨ k ∈ hs ∨ k = lb) w w' := by
  cases h with
  | live cut l rc h hc =>
    have hlb := h.own (Or.inr (Or.inr rfl))
    refine (h.append_ ab bl hn hblk hab hbl hshort (Or.inl (by omega)) (by omega) p hp (by omega)).mono ?_
    rintro e w8 ⟨hf, cut', hc1, hc2, hcase⟩
    have hc3 := hc2 hc.1.1
    rcases hcase with ⟨rfl, hl⟩ | ⟨_, rfl, hx, l', rc', hd, _⟩
    · exact ⟨⟨_, rfl⟩, .live cut' _ _ hl (by omega), hf⟩
    · exact ⟨⟨_, rfl⟩, .fell cut' _ _ hd hx hlb, hf⟩
  | fell cut l rc h hx hl =>
    refine (h.append_fallen hx (some ⟨ab, 0, none⟩) n n hshort).mono ?_
    rintro e w8 ⟨rfl, hb⟩
    exact ⟨⟨_, rfl⟩, .fell cut l rc ((h.under hb).mono (by omega)) (hx.under hb) hl, DF.of_below hb⟩
end
def LogOnly.R13.T : Bool × List (List Nat × List Nat) := (true, [([], []), ([], []), ([], []), ([], []), ([2, 3], [2, 3]), ([4], [4]), ([5], [5]), ([], []), ([7], [7]), ([8], [8]), ([6, 9], [6, 9]), ([1, 10, 8], [1, 10]), ([0, 11, 11], [0, 11])])
theorem LogOnly.R13.tab : rtab .any (opsOf Tryd.f8 13) = LogOnly.R13.T := by kernel_rfl
theorem LogOnly.R13.bits : waitsOk LogOnly.R13.T.2 [0, 0, 0, 0, 12, 28, 60, 0, 128, 384, 1020, 2046, 4095] = true := by kernel_rfl
set_option maxHeartbeats 40000000 in
set_option maxRecDepth 100000 in
theorem LogOnly.calls (A2 : Option Addr) (c2 : Nat) (l2 : List Int) (a3 a4 : Int) (w : World) (ge : Addr) (hge : w.cell? ⟨0, 0, none⟩ = some (.iface 91 (.pointer (some ge)))) (hr2 : Kd.C (Kd.int .u16) w A2 l2.length l2) (hc2 : l2.length ≤ c2) (hw2 : ∀ x ∈ l2, 0 ≤ x ∧ x ≤ 65535) :
    Calls Tryd.prog 8 #[.slice A2 l2.length c2, .int .i64 a3, .int .i64 a4] w fun e w' => e = .returned (.bool true) ∧ Below w.heap.size w w' := by
  have HG := Aside0.mk hge
  have HR2 := Aside0.mk hr2
  have HW2 := Aside0.mk hw2
  clear hge hr2 hw2 hc2
  go_enter Tryd.func8, Tryd.ntmps8
  go_wp2_with fail
  refine (known.calls w ge HG.out).mono ?_
  rintro e w1 ⟨rfl, hb⟩
  have HB := Aside0.mk hb
  clear hb
  obtain ⟨n2, hn2⟩ : ∃ n2, n2 = l2.length := ⟨_, rfl⟩
  have HN2 := Aside0.mk hn2
  rw [← hn2]
  clear hn2
  by_cases h30 : 20 < n2
  · have hc1 : decide ((20 : Int) < (n2 : Int)) = true := decide_eq_true (by omega)
    have hc2 : decide (20 < n2) = true := decide_eq_true h30
    (try dsimp only)
    go_wp2
    (try simp only [Exit.inBlock, Exit.then])
    go_ret
    exact ⟨rfl, HB.out⟩
  have NL := Aside0.mk (show n2 ≤ 20 by omega)
  have hca : decide ((20 : Int) < ((n2 : Nat) : Int)) = false := decide_eq_false (by omega)
  have hcb : decide (20 < n2) = false := decide_eq_false (by omega)
  have hcc : (20 < n2) = False := eq_false (by omega)
  have hcd : ((20 : Int) < ((n2 : Nat) : Int)) = False := eq_false (by omega)
  clear h30
  (try dsimp only)
  go_wp2_with fail
  refine (LD.new (8) (300) w1 (by rw [dkN_id (8) (by omega), dkS_id (300) (by omega)]; omega)).mono ?_
  rintro e w2 ⟨g, q, hs, rfl, hd, hn, hb⟩
  rw [dkS_id (300) (by omega)] at hd
  rw [dkN_id (8) (by omega)] at hn
  have HN := Aside0.mk hn
  clear hn
  obtain ⟨base, hbase⟩ : ∃ base, base = w1.heap.size := ⟨_, rfl⟩
  rw [← hbase] at hd
  have HD := Aside0.mk hd
  have HBS := Aside0.mk (show w.heap.size ≤ base by rw [hbase]; exact below_size HB.out)
  obtain ⟨b0, hb0⟩ : ∃ b0, b0 = w2.heap.size := ⟨_, rfl⟩
  have n_HB := Aside0.mk (below_step HB.out hb)
  have HB0 := Aside0.mk (show q < b0 ∧ (∀ b ∈ hs, b < b0) ∧ w.heap.size ≤ b0 by rw [hb0]; exact ⟨hd.lt.2.1, hd.lt.2.2, below_size n_HB.out⟩)
  have HS0 := Aside0.mk (show b0 ≤ w2.heap.size by rw [hb0]; exact Nat.le_refl _)
  clear HB hd hb hbase hb0
  have HB := n_HB
  clear n_HB
  clear hca hcb hcc hcd
  obtain ⟨sz, hsz⟩ : ∃ sz, sz = 300 := ⟨_, rfl⟩
  rw [← hsz] at HD
  clear hsz
  (try dsimp only)
  go_wp2_with fail
  refine (LD.open_ HD.out ge (gcell HG.out HB.out)).mono ?_
  rintro e w3 ⟨lb, A, oc, rfl, hlb, hoc, hk, hl, hb⟩
  have HL := Aside0.mk hl
  clear HD hlb hk hl hoc
  have hb_ := hb
  have n_HB := Aside0.mk (below_step HB.out hb_)
  have n_HS0 := Aside0.mk (Nat.le_trans HS0.out (below_size hb_))
  clear HB HS0
  have HB := n_HB
  have HS0 := n_HS0
  clear n_HB n_HS0 hb_
  clear hb
  (try dsimp only)
  go_wp2_with fail
  refine (place_calls _ 40 (by decide) (by decide) w3).mono ?_
  rintro e w_ ⟨r3, hr3, rfl, ⟨nd4, rfl⟩⟩
  have hb := pw_below_drewN (Below.refl w3.heap.size w3) nd4
  have hb_ := hb
  have n_HL := Aside0.mk (HL.out.under hb_)
  have n_HB := Aside0.mk (below_step HB.out hb_)
  have n_HS0 := Aside0.mk (Nat.le_trans HS0.out (below_size hb_))
  clear HL HB HS0
  have HL := n_HL
  have HB := n_HB
  have HS0 := n_HS0
  clear n_HL n_HB n_HS0 hb_
  clear hb
  generalize w3.drewN nd4 = w5 at HL HB HS0 ⊢
  (try dsimp only)
  go_wp2_with fail
  refine (HL.out.cut_ _ _).mono ?_
  rintro e w6 ⟨rfl, hl, hf⟩
  rw [mx_nat] at hl
  obtain ⟨p, hp, hps⟩ := mn_pre a4 sz
  rw [hp] at hl
  have HP := Aside0.mk (And.intro hp hps)
  clear hp hps
  have n_HB : Aside0 (Below w.heap.size w w6) := ⟨hf.below HB.out (below_size HB.out) (fun k hk => Nat.le_trans HBS.out (HL.out.own (Or.inl hk)))⟩
  have n_HS0 := Aside0.mk (Nat.le_trans HS0.out hf.size)
  clear HL HB HS0 hf
  have HL : Aside0 (OnlySt w6 base g q sz hs (p : Int) lb 0) := ⟨OnlySt.live (r3 : Int) [] 0 hl (by omega)⟩
  have HB := n_HB
  have HS0 := n_HS0
  clear hl n_HB n_HS0
  obtain ⟨rm, hrm⟩ : ∃ rm, rm = lgRoom hs.length sz := ⟨_, rfl⟩
  have HRM := Aside0.mk hrm
  have hrmle : rm ≤ 16384 := by rw [hrm]; exact (room_le HL.out.big).2.2
  clear hrm
  (try dsimp only)
  go_wp2_with fail
  go_loopg [11] n2 (fun kq v11 w' => ∃ (i : Nat), v11 = .int .i64 (i : Int) ∧ Aside0 (kq + i = n2) ∧ Aside0 (OnlySt w' base g q sz hs (p : Int) lb (i : Int)) ∧ Aside0 (Below w.heap.size w w') ∧ Aside0 (b0 ≤ w'.heap.size))
  case atStart => exact ⟨0, rfl, ⟨rfl⟩, ⟨HL.out⟩, ⟨HB.out⟩, ⟨HS0.out⟩⟩
  case round =>
    clear HL HB HS0
    obtain ⟨i, rfl, HK, HL, HB, HS0⟩ := hrel
    by_cases c6 : i < n2
    · have c6a : decide (((i : Nat) : Int) < ((n2 : Nat) : Int)) = true := decide_eq_true (by omega)
      have c6b : decide (i < n2) = true := decide_eq_true (by omega)
      have c6c : (i < n2) = True := eq_true (by omega)
      have c6d : (((i : Nat) : Int) < ((n2 : Nat) : Int)) = True := eq_true (by omega)
      have H6 := Aside0.mk (show i < n2 ∧ i ≤ 20 by have := NL.out; omega)
      clear c6
      obtain ⟨ad2, e2, hx2⟩ := Kd.at_int (Kd.C_below HR2.out HB.out) (i : Int) (by omega) (by have := H6.out; have := HN2.out; omega)
      subst e2
      obtain ⟨x, hx⟩ : ∃ x : Nat, rd l2 (i : Int) = (x : Int) ∧ x ≤ 65535 := by
        have hlt : i < l2.length := by have := H6.out; have := HN2.out; omega
        have hm : rd l2 (i : Int) ∈ l2 := by
          unfold rd
          rw [Int.toNat_natCast, List.getD_eq_getElem?_getD, List.getElem?_eq_getElem hlt]
          exact List.getElem_mem _
        have := HW2.out _ hm
        exact ⟨(rd l2 (i : Int)).toNat, by omega, by omega⟩
      rw [hx.1, Int.toNat_natCast] at hx2
      have hx3 := hx.2
      clear hx
      have HC2 := Aside0.mk hx2
      obtain ⟨m, hm⟩ : ∃ m, m = x % (rm + 1) := ⟨_, rfl⟩
      have HMM := Aside0.mk (show m < rm + 1 by rw [hm]; exact Nat.mod_lt _ (by omega))
      have WX := Aside0.mk (wrapN x (by omega))
      have W1 := Aside0.mk (show wrap64 ((rm : Int) + 1) = ((rm + 1 : Nat) : Int) from wrapN (rm + 1) (by omega))
      have NZ := Aside0.mk (show ¬ (((rm + 1 : Nat) : Int) = 0) by omega)
      have EMT := Aside0.mk (show (x : Int).tmod ((rm + 1 : Nat) : Int) = (m : Int) by rw [hm]; exact (Int.ofNat_tmod x (rm + 1)).symm)
      clear hx2 hm
      (try dsimp only)
      go_upto_region 13 with (fail)
      generalize wr = w4 at HL HB HS0 HC2 ⊢
      refine start_ (n := 13) (S := fun w' => w'.cell? (ad2.add i) = some (.int .u16 (x : Int))) (ds := [12]) #[false, false, false, false, false, false, false, false, false, false, false, false, false] (by kernel_rfl) rfl rfl HC2.out (fun hHeld => ?_)
      refine with_tabW LogOnly.R13.tab LogOnly.R13.bits (fun HT_ HW_ => ?_)
      have hb_ := below_drew1 (Below.refl w4.heap.size w4)
      have n_HL := Aside0.mk (HL.out.under hb_)
      have n_HB := Aside0.mk (below_step HB.out hb_)
      have n_HS0 := Aside0.mk (Nat.le_trans HS0.out (below_size hb_))
      have n_HC2 := Aside0.mk (cell_below HC2.out hb_)
      clear HL HB HS0 HC2
      have HL := n_HL
      have HB := n_HB
      have HS0 := n_HS0
      have HC2 := n_HC2
      clear n_HL n_HB n_HS0 n_HC2 hb_
      generalize w4.drew = w4 at HL HB HS0 HC2 hHeld ⊢
      refine pure_ (i := 0) (N := some 40) (v := ?_) (a' := ?_) #[true, false, false, false, false, false, false, false, false, false, false, false, false] rfl rfl (any_of HT_.out (by kernel_rfl)) (fun _ _ _ h => h) (Or.inl ⟨by rfl, ?_⟩) ?_ ?_
      rotate_left
      · intro w'
        go_simp
        with_reducible rfl
      rotate_left
      · simp only [Act.put, List.setIfInBounds_toArray, List.set_cons_zero, List.set_cons_succ, i64_w, i32_w]
        rfl
      refine pure_ (i := 1) (N := some 41) (v := ?_) (a' := ?_) #[true, true, false, false, false, false, false, false, false, false, false, false, false] rfl rfl (any_of HT_.out (by kernel_rfl)) (fun _ _ _ h => h) (Or.inl ⟨by rfl, ?_⟩) ?_ ?_
      rotate_left
      · intro w'
        go_simp
        with_reducible rfl
      rotate_left
      · simp only [Act.put, List.setIfInBounds_toArray, List.set_cons_zero, List.set_cons_succ, i64_w, i32_w]
        rfl
      refine pure_ (i := 2) (N := some 42) (v := ?_) (a' := ?_) #[true, true, true, false, false, false, false, false, false, false, false, false, false] rfl rfl (any_of HT_.out (by kernel_rfl)) (fun _ _ _ h => h) (Or.inl ⟨by rfl, ?_⟩) ?_ ?_
      rotate_left
      · intro w'
        go_simp
        with_reducible rfl
      rotate_left
      · simp only [Act.put, List.setIfInBounds_toArray, List.set_cons_zero, List.set_cons_succ, i64_w, i32_w]
        rfl
      refine pure_ (i := 3) (N := some 43) (v := ?_) (a' := ?_) #[true, true, true, true, false, false, false, false, false, false, false, false, false] rfl rfl (any_of HT_.out (by kernel_rfl)) (fun _ _ _ h => h) (Or.inl ⟨by rfl, ?_⟩) ?_ ?_
      rotate_left
      · intro w'
        go_simp
        with_reducible rfl
      rotate_left
      · simp only [Act.put, List.setIfInBounds_toArray, List.set_cons_zero, List.set_cons_succ, i64_w, i32_w]
        rfl
      refine pure_ (i := 4) (N := some 44) (v := ?_) (a' := ?_) #[true, true, true, true, true, false, false, false, false, false, false, false, false] rfl rfl (any_of HT_.out (by kernel_rfl)) (fun _ _ _ h => h) (Or.inl ⟨by rfl, ?_⟩) ?_ ?_
      rotate_left
      · intro w'
        go_simp
        with_reducible rfl
      rotate_left
      · simp only [Act.put, List.setIfInBounds_toArray, List.set_cons_zero, List.set_cons_succ, i64_w, i32_w]
        rfl
      refine pure_ (i := 7) (N := some 47) (v := ?_) (a' := ?_) #[true, true, true, true, true, false, false, true, false, false, false, false, false] rfl rfl (any_of HT_.out (by kernel_rfl)) (fun _ _ _ h => h) (Or.inl ⟨by rfl, ?_⟩) ?_ ?_
      rotate_left
      · intro w'
        go_simp
        with_reducible rfl
      rotate_left
      · simp only [Act.put, List.setIfInBounds_toArray, List.set_cons_zero, List.set_cons_succ, i64_w, i32_w]
        rfl
      refine take_ (i := 5) (N := some 45) (v := ?_) (a' := ?_) #[true, true, true, true, true, true, false, true, false, false, false, false, false] rfl rfl (take_ofW HT_.out HW_.out (by kernel_rfl)) (fun _ _ _ h => h) (Or.inl ⟨by rfl, ?_⟩) hHeld ?_ ?_
      rotate_left
      · intro w' s0
        go_simp
        with_reducible rfl
      rotate_left
      · simp only [Act.put, List.setIfInBounds_toArray, List.set_cons_zero, List.set_cons_succ, i64_w, i32_w]
        rfl
      refine pure_ (i := 6) (N := some 46) (v := ?_) (a' := ?_) #[true, true, true, true, true, true, true, true, false, false, false, false, false] rfl rfl (any_of HT_.out (by kernel_rfl)) (fun _ _ _ h => h) (Or.inl ⟨by rfl, ?_⟩) ?_ ?_
      rotate_left
      · intro w'
        go_simp
        with_reducible rfl
      rotate_left
      · simp only [Act.put, List.setIfInBounds_toArray, List.set_cons_zero, List.set_cons_succ, i64_w, i32_w]
        rfl
      refine one_ (i := 8) (N := some 48) #[true, true, true, true, true, true, true, true, true, false, false, false, false] rfl rfl (one_of HT_.out (by kernel_rfl)) (by decide) (fun K hK => ?_)
      refine goes_ Tryd.func16 (by kernel_rfl) rfl #[.pointer (some ⟨g, 0, none⟩)] (by rfl) rfl rfl (by first | rfl | (go_simp; done)) ?_
      refine (HL.out.room).mono ?_
      rintro e w_ ⟨rfl, ⟨nd5, rfl⟩⟩
      rw [← HRM.out]
      refine ⟨_, rfl, ?_⟩
      have hb := pw_below_drewN (Below.refl w4.heap.size w4) nd5
      have hb_ := hb
      have n_HL := Aside0.mk (HL.out.under hb_)
      have n_HB := Aside0.mk (below_step HB.out hb_)
      have n_HS0 := Aside0.mk (Nat.le_trans HS0.out (below_size hb_))
      have n_HC2 := Aside0.mk (cell_below HC2.out hb_)
      clear HL HB HS0 HC2
      have HL := n_HL
      have HB := n_HB
      have HS0 := n_HS0
      have HC2 := n_HC2
      clear n_HL n_HB n_HS0 n_HC2 hb_
      clear hb
      refine hK.out _ _ HC2.out (fun hHeld => ?_)
      clear hK K
      refine norm_ (a' := ?_) ?_ ?_
      rotate_left
      · show Act.put _ (some 48) _ = _
        simp only [Act.put, List.setIfInBounds_toArray, List.set_cons_zero, List.set_cons_succ, i64_w, i32_w]
        rfl
      refine pure_ (i := 9) (N := some 49) (v := ?_) (a' := ?_) #[true, true, true, true, true, true, true, true, true, true, false, false, false] rfl rfl (any_of HT_.out (by kernel_rfl)) (fun _ _ _ h => h) (Or.inl ⟨by rfl, ?_⟩) ?_ ?_
      rotate_left
      · intro w'
        go_simp
        with_reducible rfl
      rotate_left
      · simp only [Act.put, List.setIfInBounds_toArray, List.set_cons_zero, List.set_cons_succ, i64_w, i32_w]
        rfl
      refine pure_ (i := 10) (N := some 50) (v := ?_) (a' := ?_) #[true, true, true, true, true, true, true, true, true, true, true, false, false] rfl rfl (any_of HT_.out (by kernel_rfl)) (fun _ _ _ h => h) (Or.inl ⟨by rfl, ?_⟩) ?_ ?_
      rotate_left
      · intro w'
        go_simp
        rw [WX.out, W1.out, if_neg NZ.out, EMT.out]
        (try with_reducible rfl)
      rotate_left
      · simp only [Act.put, List.setIfInBounds_toArray, List.set_cons_zero, List.set_cons_succ, i64_w, i32_w]
        rfl
      refine one_ (i := 11) (N := some 51) #[true, true, true, true, true, true, true, true, true, true, true, true, false] rfl rfl (one_of HT_.out (by kernel_rfl)) (by decide) (fun K hK => ?_)
      refine goes_ Tryd.func20 (by kernel_rfl) rfl #[.int .i64 (i : Int), .int .i64 (m : Int)] (by rfl) rfl rfl (by first | rfl | (go_simp; done)) ?_
      refine (record.some_ (i : Int) m (by have := HMM.out; omega) _).mono ?_
      rintro e w7 ⟨c7, rfl, hc7, hge7, hb⟩
      refine ⟨_, rfl, ?_⟩
      have HC7 := Aside0.mk hc7
      have HG7 := Aside0.mk hge7
      have HNE := Aside0.mk (HL.out.above hge7)
      clear hc7 hge7
      have hb_ := hb
      have n_HL := Aside0.mk (HL.out.under hb_)
      have n_HB := Aside0.mk (below_step HB.out hb_)
      have n_HS0 := Aside0.mk (Nat.le_trans HS0.out (below_size hb_))
      have n_HC2 := Aside0.mk (cell_below HC2.out hb_)
      clear HL HB HS0 HC2
      have HL := n_HL
      have HB := n_HB
      have HS0 := n_HS0
      have HC2 := n_HC2
      clear n_HL n_HB n_HS0 n_HC2 hb_
      clear hb
      refine hK.out _ _ HC2.out (fun hHeld => ?_)
      clear hK K
      refine norm_ (a' := ?_) ?_ ?_
      rotate_left
      · show Act.put _ (some 51) _ = _
        simp only [Act.put, List.setIfInBounds_toArray, List.set_cons_zero, List.set_cons_succ, i64_w, i32_w]
        rfl
      refine last_ (i := 12) (N := some 52) #[true, true, true, true, true, true, true, true, true, true, true, true, true] rfl rfl (one_of HT_.out (by kernel_rfl)) (by decide) (fun K hK => ?_)
      refine goes_ Tryd.func19 (by kernel_rfl) rfl #[.pointer (some ⟨lb, 0, none⟩), .slice (some ⟨c7, 0, none⟩) m m] (by rfl) rfl rfl (by first | rfl | (go_simp; done)) ?_
      refine (HL.out.append c7 (rcd (i : Int) m) (rcd_length _ _) HC7.out HNE.out (rcd_isB _ _) (by rw [← HRM.out]; have := HMM.out; omega) (by have := H6.out; omega) p ⟨rfl, HP.out.2⟩).mono ?_
      rintro e w8 ⟨⟨ev, rfl⟩, hl, hf⟩
      refine ⟨_, rfl, ?_⟩
      have n_HB : Aside0 (Below w.heap.size w w8) := ⟨hf.below HB.out (below_size HB.out) (fun k hk => Nat.le_trans HBS.out (HL.out.own hk))⟩
      have n_HS0 := Aside0.mk (Nat.le_trans HS0.out hf.size)
      clear HL HB HS0 HC7 HNE HG7 hf
      have HL := Aside0.mk hl
      have HB := n_HB
      have HS0 := n_HS0
      clear hl n_HB n_HS0
      refine hK.out _ _ ?_
      clear hK K
      refine norm_ (a' := ?_) ?_ ?_
      rotate_left
      · show Act.put _ (some 52) _ = _
        simp only [Act.put, List.setIfInBounds_toArray, List.set_cons_zero, List.set_cons_succ, i64_w, i32_w]
        rfl
      refine done_ (done_of HT_.out (by kernel_rfl)) ?_
      clear HT_ HW_ hHeld
      clear HC2
      (try dsimp only)
      go_wp2
      have w7_ : wrap64 ((i : Int) + 1) = ((i + 1 : Nat) : Int) := by unfold wrap64; have := H6.out; omega
      go_roundg (gk - 1)
      case measure => have := HK.out; have := H6.out; omega
      case rel => exact ⟨i + 1, by first | rfl | (simp [w7_]; done) | (simp only [w7_]; rfl), ⟨by have := HK.out; have := H6.out; omega⟩, ⟨HL.out⟩, ⟨HB.out⟩, ⟨HS0.out⟩⟩
    · have c6a : decide (((i : Nat) : Int) < ((n2 : Nat) : Int)) = false := decide_eq_false (by omega)
      have c6b : decide (i < n2) = false := decide_eq_false (by omega)
      have c6c : (i < n2) = False := eq_false (by omega)
      have c6d : (((i : Nat) : Int) < ((n2 : Nat) : Int)) = False := eq_false (by omega)
      clear c6
      obtain ⟨cutx, deadx, lx, rcx, hd0⟩ := HL.out.ld
      have HD := Aside0.mk hd0
      clear HL hd0
      (try dsimp only)
      go_wp2_with fail
      refine (HD.out.power).mono ?_
      rintro e w10 ⟨rfl, hd, hf⟩
      have n_HB : Aside0 (Below w.heap.size w w10) := ⟨hf.below HB.out (below_size HB.out) (fun k hk => by rw [hk]; exact Nat.le_trans HBS.out HD.out.own.1)⟩
      clear HD HB hf
      have HD := Aside0.mk hd
      have HB := n_HB
      clear hd n_HB
      (try dsimp only)
      go_wp2_with fail
      refine (HD.out.cut_ 0 0).mono ?_
      rintro e w11 ⟨rfl, hd, hf⟩
      have n_HB : Aside0 (Below w.heap.size w w11) := ⟨hf.below HB.out (below_size HB.out) (fun k hk => by rw [hk]; exact Nat.le_trans HBS.out HD.out.own.1)⟩
      clear HD HB hf
      have HD := Aside0.mk hd
      have HB := n_HB
      clear hd n_HB
      (try dsimp only)
      go_wp2_with fail
      refine (LD.open_ HD.out ge (gcell HG.out HB.out)).mono ?_
      rintro e w12 ⟨lb2, A6, oc6, rfl, hlb, hoc, hk, hl, hb⟩
      have n_HB := Aside0.mk (below_step HB.out hb)
      clear HD HB hk hlb hoc hb
      have HL := Aside0.mk hl
      have HB := n_HB
      clear hl n_HB
      obtain ⟨r6, hr6⟩ : ∃ r6, r6 = lx.reverse.length := ⟨_, rfl⟩
      rw [← hr6]
      clear hr6
      (try dsimp only)
      go_wp2_with fail
      refine (LD.dead_ HL.out.ld).mono ?_
      rintro e w_ ⟨rfl, ⟨nd7, rfl⟩⟩
      (try dsimp only)
      go_wp2
      (try simp only [Exit.inBlock, Exit.then])
      go_ret
      exact ⟨rfl, pw_below_drewN HB.out nd7⟩
end Go.Proofs.YtgeggcifhojpmaaDoor.PB
namespace Go.Proofs.YtgeggcifhojpmaaDoor.logOnly
open Go.ChangeShapes Go.WideShapes Go.ChangeAt Go.RowKit Go.Joins Go.Proofs.YtgeggcifhojpmaaDoorW.PrintWords Go.Proofs.YtgeggcifhojpmaaDoorW.AggWords
open Go.ChangeMaps (open_string shut_string)
set_option linter.unusedVariables false
theorem own : ownKnob Tryd.prog.godebug = none := by kernel_rfl
theorem laidOut : laidOutB Tryd.prog = true := by kernel_rfl
theorem gN : Tryd.prog.globalNamed "lych/log.errBlock" = some 0 := by kernel_rfl
theorem gType : (Tryd.prog.globals[0]?).map (·.type) = some 67 := by kernel_rfl
theorem cells115 : Tryd.prog.cellsOf 115 = 1 := by kernel_rfl
theorem cells9 : Tryd.prog.cellsOf 9 = 1 := by kernel_rfl
theorem star : "*" ++ "errors.errorString" = "*errors.errorString" := by decide
theorem row91 (u : TypeId) (h : Tryd.prog.typeName? 3 u = some "*errors.errorString") : u = 91 :=
  typeName_ptr_named (nm := "errors.errorString") (by rw [star]; kernel_rfl) (by kernel_rfl) (by decide) u (by rw [star]; exact h)
/-- What the listed variable holds. -/
theorem laid_ge {W : World} (h : laidMetH Tryd.prog Rows.logOnlyRow.laid W) : ∃ ge : Addr, W.cell? ⟨0, 0, none⟩ = some (.iface 91 (.pointer (some ge))) := by
  have h' : laidMet Tryd.prog [("lych/log.errBlock", Rows.laid_lych_log_errBlock)] W := h
  obtain ⟨a, s, hv, _⟩ := laid_sentinel h' gN gType Tryd.underlying67 row91 Tryd.underlying91 Tryd.underlying115 rfl rfl Tryd.underlying9 cells115 cells9
  exact ⟨a, by simpa using World.var?_cell gN hv 0⟩
noncomputable def low : Nat := (World.holding Tryd.prog default ⟨#[], #[], []⟩).heap.size
noncomputable def laidWorld (os : Os) : World :=
  let w0 := World.holding Tryd.prog os ⟨#[.cells #[.string { data := #[110, 111, 32, 115, 117, 99, 104, 32, 98, 108, 111, 99, 107] }] 115], #[], []⟩
  { w0 with heap := w0.heap.modify 0 fun
      | .cells _ t frozen => .cells #[.iface 91 (.pointer (some ⟨low, 0, none⟩))] t frozen
      | o => o }
theorem laidWorld_met (os : Os) (args : Array Value) : laidMetH Tryd.prog Rows.logOnlyRow.laid ((laidWorld os).forCall (fun _ _ => 0) ⟨#[], args, []⟩).memory :=
  laidMetH_of_parts (laidMet_of_run (ps := [.cell 0 0, .cell low 0]) 8 (by kernel_rfl) (by kernel_rfl) (by kernel_rfl)) (by kernel_rfl)
set_option maxRecDepth 100000 in
theorem lifted (os : Os) (started : os.Started) (H : Type) (enc : TypeId × Value → H) :
    ReturnsInHanded {} Tryd.checked os 8 .any (fun w args => (Rows.logOnlySpec.pre enc Tryd.prog Tryd.f8 [] false w args ∧ laidMetH Tryd.prog Rows.logOnlyRow.laid w) ∧ sizedMet enc Tryd.prog Tryd.f8 (OpenSpec.ofChange Rows.logOnlySpec) false w args)
      (Rows.logOnlySpec.post enc Tryd.prog Tryd.f8 false true false false) := by
  refine returnsInHanded_of_change_and (C := Tryd.checked) (X := fun w _ => laidMetH Tryd.prog Rows.logOnlyRow.laid w) (fun _ _ _ hh h => h.of_heap hh) own started (by kernel_rfl) Tryd.func8
    (ChangeSpec.witness_at (enc := enc) (C := Tryd.checked) (os := os) (X := fun w _ => laidMetH Tryd.prog Rows.logOnlyRow.laid w) false (laidWorld os) #[.slice none 0 0, .int .i64 0, .int .i64 0] 8 rfl (by kernel_rfl) (by kernel_rfl) (by kernel_rfl) (by kernel_rfl) (by kernel_rfl) (laidWorld_met os _)) ?_
  intro W base args ds gs before hval0 hW _ _ hL _
  have hval : ∀ (j : Nat) t v, Tryd.f8.params[j]? = some t → args[j]? = some v → Value.okWide Tryd.prog W .any base t v := hval0
  have hW' := hW
  obtain ⟨p, q, hA0, hV, rfl, hfz, hnd⟩ := hW
  have hA : DataW.TrodAll enc Tryd.prog W 0 (fun _ => true) true Tryd.f8.params.toList args.toList ds p := hA0
  rw [Tryd.params8] at hA hval
  obtain ⟨v0, vs0, d0, ds0, p0, q0, hargs, rfl, rfl, h0, r0⟩ := trodAll_cons hA
  obtain ⟨v1, vs1, d1, ds1, p1, q1, rfl, rfl, rfl, h1, r1⟩ := trodAll_cons r0
  obtain ⟨v2, vs2, d2, ds2, p2, q2, rfl, rfl, rfl, h2, r2⟩ := trodAll_cons r1
  obtain ⟨rfl, rfl, rfl⟩ := trodAll_nil r2
  obtain rfl : args = #[v0, v1, v2] := by cases args; simp_all
  obtain ⟨rfl, rfl⟩ := trodVars_none hV
  obtain ⟨ge, hge⟩ := laid_ge hL
  obtain ⟨A0, n0, c0, rfl⟩ := okWide_slice Tryd.underlying27 (hval 0 27 v0 rfl rfl)
  have k0 := h0
  have lt0 : ∀ x ∈ p0, x.block < W.heap.size := by obtain ⟨m, hm⟩ := k0; exact DataW.trod_lt m _ _ _ hm
  obtain ⟨fuel0, hf0⟩ := h0
  obtain ⟨z0, w0⟩ := row_of Tryd.underlying27 Tryd.underlying39 (by kernel_rfl) hf0
  obtain ⟨l0, rfl, hr0, hm0, hw0, hc0⟩ := ReadsInt.ofRowC w0
  obtain ⟨a1, rfl, rfl, rfl, w1⟩ := open_int Tryd.underlying3 (hval 1 3 v1 rfl rfl) h1
  obtain ⟨a2, rfl, rfl, rfl, w2⟩ := open_int Tryd.underlying3 (hval 2 3 v2 rfl rfl) h2
  clear hA0 hval0
  refine (PB.LogOnly.calls _ _ _ a1 a2 W ge hge (Kd.C_of_reads (d := (0 : Int)) (h1 := fun _ => rfl) hr0) hc0 (PB.wf16 hw0)).mono fun e W' ⟨he, bel⟩ => ?_
  subst he
  exact ⟨_, rfl, _, _, _, [], _, [], hW', trodAll_mk1 (shut_bool Tryd.underlying4 _), (trodAll_cons_mk (Below.trod laidOut (by kernel_rfl) (of_decide_eq_true (by kernel_rfl)) k0 bel lt0) (trodAll_cons_mk (shut_int Tryd.underlying3 w1) (trodAll_cons_mk (shut_int Tryd.underlying3 w2) trodAll_mk0))), rfl, bel.frame _, fun h => by cases h⟩
theorem over : Rows.logOnlyRow.holds Tryd.pinned (OpenSpec.ofChange Rows.logOnlySpec) :=
  OpenClaim.holds_of_wide 8 Tryd.f8 rfl rfl rfl rfl rfl rfl rfl ⟨rfl, rfl, rfl, rfl, rfl⟩ rfl rfl rfl rfl rfl (by kernel_rfl) Tryd.func8 (by kernel_rfl)
    (of_decide_eq_true (by kernel_rfl)) (by unfold Func.isWrapper; first | (rw [if_pos (by decide +kernel)]; kernel_rfl) | (rw [if_neg (by decide +kernel)]; exact ⟨rfl, rfl⟩))
    (fun os started H enc _ => lifted os started H enc)
theorem proved : Rows.LogOnlySaid := over
theorem card : Rows.LogOnlyCardSaid :=
  Claim7.holds_tied_plain_at .later [] [.sentinel] true (true, "d6af000c36f002e728fe3a0d9820601450968c7f60402185504d7936053a82d1") true
    proved (fun _ h => by cases h) (by kernel_rfl) (fun _ h => by cases h) logOnly_row_tie rfl ⟨rfl, rfl⟩ (by kernel_rfl) rfl
    (fun f fn hf hfn => by
      obtain rfl : f = 8 := Option.some.inj ((show Tryd.prog.funcNamed "lych/lychlaw10.LogOnly" = some 8 by kernel_rfl).symm.trans hf) |>.symm
      obtain rfl : fn = Tryd.f8 := (Option.some.inj (Tryd.func8.symm.trans hfn)).symm
      exact ⟨by kernel_rfl, fun j t ht => by
        rw [Tryd.params8] at ht
        have h3 : t = 3 ∨ t = 27 := by
          rcases j with _ | j
          · simp at ht; subst ht; simp
          rcases j with _ | j
          · simp at ht; subst ht; simp
          rcases j with _ | j
          · simp at ht; subst ht; simp
          simp at ht
        rcases h3 with rfl | rfl
        · exact (show Tryd.prog.wantsStandIn 3 = false by kernel_rfl)
        · exact (show Tryd.prog.wantsStandIn 27 = false by kernel_rfl)⟩)
    (by kernel_rfl)
#print axioms card
end Go.Proofs.YtgeggcifhojpmaaDoor.logOnly
namespace Go.Proofs.YtgeggcifhojpmaaDoor
/-- The tied card, under a short name, for the claim. -/
theorem logOnlyCard_holds : Rows.LogOnlyCardSaid := logOnly.card
end Go.Proofs.YtgeggcifhojpmaaDoor
