/- LogRooms: for every input the Go function returns true, and each argument reads as before; the listed variable tied to the program's text. -/
import Derived.Test.YtgeggcifhojpmaaDoorZLe
import Derived.Test.YtgeggcifhojpmaaDoorRows
import Derived.Test.YtgeggcifhojpmaaDoorTie
import Derived.Test.YtgeggcifhojpmaaDoorCards
import Derived.Test.YtgeggcifhojpmaaDoorZW
import Derived.WalkKit
import Derived.ProofKit
import Derived.OpenShut
import Derived.ShutString
import Derived.ChangeOld
import Derived.Below
import Derived.SizedLaws
import Derived.Lib.SmallJoins
import Derived.RowKitTokens
import Derived.LaidLaws
import Derived.LaidHandle
import Derived.Stop.LaidErr
import Derived.Stop.LaidTwo
import Derived.SevenTiedAt
/- LogRooms: which disks may hold a log, and its room. -/
namespace Go.Proofs.YtgeggcifhojpmaaDoor.PB
open Go.RowKit Go.Proofs.YtgeggcifhojpmaaDoorW.PrintWords Go.Proofs.YtgeggcifhojpmaaDoorW.PrintLast Go.Proofs.YtgeggcifhojpmaaDoorW.PrintMore
attribute [local go_sem] max2_mx min2_mn max_two min_two max_three min_three max_four min_four   -- for this text's walks alone
set_option linter.unusedVariables false
set_option linter.unusedSimpArgs false

theorem place_f (a : Int) (k : Nat) (hk : 0 < k) (hk2 : k ≤ 1000000) : ∃ r : Nat, r < k ∧ lychhelp_Place.f a (k : Int) = some (r : Int) := by
  have h1 := Int.tmod_lt_of_pos a (show (0 : Int) < (k : Int) by omega)
  have h2 := Int.lt_tmod_of_pos a (show (0 : Int) < (k : Int) by omega)
  unfold lychhelp_Place.f
  rw [if_neg (by omega)]
  by_cases h : Int.tmod a (k : Int) < 0
  · refine ⟨(Int.tmod a (k : Int) + (k : Int)).toNat, by omega, ?_⟩
    rw [if_pos h]
    congr 1
    unfold wrap64
    omega
  · refine ⟨(Int.tmod a (k : Int)).toNat, by omega, ?_⟩
    rw [if_neg h]
    congr 1
    omega
theorem dkN_id (n : Nat) (h : 1 ≤ n ∧ n ≤ 64) {m : Int} (hm : m = (n : Int) := by (first | rfl | omega)) : dkN m = n := by subst hm; unfold dkN mn mx; split <;> split <;> omega
theorem dkS_id (n : Nat) (h : 64 ≤ n ∧ n ≤ 65536) {m : Int} (hm : m = (n : Int) := by (first | rfl | omega)) : dkS m = n := by subst hm; unfold dkS mn mx; split <;> split <;> omega
set_option maxHeartbeats 4000000 in
set_option maxRecDepth 100000 in
theorem LogRooms.calls (a0 a1 : Int) (w : World) (ge : Addr) (hge : w.cell? ⟨0, 0, none⟩ = some (.iface 91 (.pointer (some ge)))) : Calls Tryd.prog 6 #[.int .i64 a0, .int .i64 a1] w fun e w' => e = .returned (.bool true) ∧ Below w.heap.size w w' := by
  have HG := Aside0.mk hge
  clear hge
  go_enter Tryd.func6, Tryd.ntmps6
  go_wp2_with fail
  refine (known.calls w ge HG.out).mono ?_
  rintro e w1 ⟨rfl, hb⟩
  have HB := Aside0.mk hb
  clear hb
  (try dsimp only)
  go_wp2_with fail
  obtain ⟨r1, hr1, hp1⟩ := place_f a0 12 (by decide) (by decide)
  refine (lychhelp_Place.calls a0 12 _ w1 hp1).mono ?_
  rintro e w2 ⟨rfl, ⟨nd, rfl⟩⟩
  (try dsimp only)
  go_wp2_with fail
  obtain ⟨r2, hr2, hp2⟩ := place_f a1 12000 (by decide) (by decide)
  refine (lychhelp_Place.calls a1 12000 _ _ hp2).mono ?_
  rintro e w2 ⟨rfl, ⟨nd2, rfl⟩⟩
  (try dsimp only)
  go_wp2_with fail
  by_cases hr : 4 ≤ 1 + r1 ∧ 256 ≤ 64 + r2
  · refine (LD.new (1 + (r1 : Int)) (64 + (r2 : Int)) (w1.drewN (nd + nd2)) (by rw [dkN_id (1 + r1) (by omega), dkS_id (64 + r2) (by omega)]; omega)).mono ?_
    rintro e w2 ⟨g, q, hs, rfl, hd, hn, hb⟩
    rw [dkS_id (64 + r2) (by omega)] at hd
    rw [dkN_id (1 + r1) (by omega)] at hn
    have HD := Aside0.mk hd
    have HN := Aside0.mk hn
    have HB2 := Aside0.mk (below_step (pw_below_drewN HB.out (nd + nd2)) hb)
    clear hd hn hb HB
    have HB := HB2
    clear HB2
    (try dsimp only)
    go_wp2_with fail
    refine (LD.open_ HD.out ge (gcell HG.out HB.out)).mono ?_
    rintro e w3 ⟨lb, A, oc, rfl, hlb, hoc, hk, hl, hb⟩
    have HL := Aside0.mk hl
    have HB2 := Aside0.mk (below_step HB.out hb)
    clear HB HD hlb hk hl hb
    have HB := HB2
    clear HB2
    (try dsimp only)
    go_wp2_with fail
    refine (LD.room HL.out.ld).mono ?_
    rintro e w4 ⟨rfl, ⟨nd3, rfl⟩⟩
    have hRM := (room_le HL.out.ld.big).1
    obtain ⟨rm, hrm⟩ : ∃ rm, rm = lgRoom hs.length (64 + r2) := ⟨_, rfl⟩
    have hrm2 : rm = min ((1 + r1) / 2 * (64 + r2 - 36)) 16384 := by
      rw [hrm]
      unfold lgRoom
      rw [hRM, if_pos rfl, HN.out]
    rw [← hrm]
    have hc1 : decide ((1 + (r1 : Int)) < 4) = false := decide_eq_false (by omega)
    have hc2 : decide ((64 + (r2 : Int)) < 256) = false := decide_eq_false (by omega)
    have hm : r1 / 2 * r2 ≤ (1 + r1) / 2 * (64 + r2 - 36) := Nat.mul_le_mul (by omega) (by omega)
    have HM := Aside0.mk hm
    have HR := Aside0.mk hrm2
    clear hrm hrm2 hRM hm
    have hc3 : decide ((rm : Int) ≤ 16384) = true := decide_eq_true (by have := HR.out; omega)
    (try dsimp only)
    go_wp2
    · (try simp only [Exit.inBlock, Exit.then])
      go_ret
      exact ⟨rfl, pw_below_drewN HB.out nd3⟩
    · rename_i h
      refine absurd h (Int.not_lt.2 ?_)
      have e1 : (1 + (r1 : Int) - 1) / 2 * (64 + (r2 : Int) - 64) = ((r1 / 2 * r2 : Nat) : Int) := by
        rw [show 1 + (r1 : Int) - 1 = (r1 : Int) by omega, show 64 + (r2 : Int) - 64 = (r2 : Int) by omega]
        rfl
      have e2 : r1 / 2 * r2 ≤ 6 * 12000 := Nat.mul_le_mul (by omega) (by omega)
      rw [e1, wrapN _ (by omega)]
      have h1 := HM.out
      have h2 := HR.out
      generalize r1 / 2 * r2 = x at *
      generalize (1 + r1) / 2 * (64 + r2 - 36) = y at *
      unfold mn
      split <;> omega
  · refine (disk_New.calls (1 + (r1 : Int)) (64 + (r2 : Int)) (w1.drewN (nd + nd2))).mono ?_
    rintro e w2 ⟨g, q, hs, rfl, hd, hn, hb⟩
    rw [dkS_id (64 + r2) (by omega)] at hd
    rw [dkN_id (1 + r1) (by omega)] at hn
    have HD := Aside0.mk hd
    have HN := Aside0.mk hn
    have HB2 := Aside0.mk (below_step (pw_below_drewN HB.out (nd + nd2)) hb)
    clear hd hn hb HB
    have HB := HB2
    clear HB2
    have hri : lgRight hs.length (64 + r2) = false := by
      unfold lgRight
      rw [HN.out]
      simp
      omega
    (try dsimp only)
    go_wp2_with fail
    refine (log_Open.room HD.out (by rw [HN.out]; omega) hri).mono ?_
    rintro e w3 ⟨rfl, hb⟩
    have HD2 := Aside0.mk (HD.out.under hb)
    have HB2 := Aside0.mk (below_step HB.out hb)
    clear HB HD hb
    have HB := HB2
    have HD := HD2
    clear HB2 HD2
    (try dsimp only)
    go_wp2_with fail
    refine (log_Room.calls HD.out (by rw [HN.out]; omega) (by rw [HN.out]; omega) (by omega)).mono ?_
    rintro e w4 ⟨rfl, ⟨nd3, rfl⟩⟩
    rw [show lgRoom hs.length (64 + r2) = 0 by unfold lgRoom; rw [hri]; rfl]
    clear hri
    rcases Nat.lt_or_ge (1 + r1) 4 with h4 | h4
    · have hc1 : decide ((1 + (r1 : Int)) < 4) = true := decide_eq_true (by omega)
      (try dsimp only)
      go_wp2
      (try simp only [Exit.inBlock, Exit.then])
      go_ret
      exact ⟨rfl, pw_below_drewN HB.out nd3⟩
    · have hc1 : decide ((1 + (r1 : Int)) < 4) = false := decide_eq_false (by omega)
      have hc2 : decide ((64 + (r2 : Int)) < 256) = true := decide_eq_true (by omega)
      (try dsimp only)
      go_wp2
      (try simp only [Exit.inBlock, Exit.then])
      go_ret
      exact ⟨rfl, pw_below_drewN HB.out nd3⟩
end Go.Proofs.YtgeggcifhojpmaaDoor.PB
namespace Go.Proofs.YtgeggcifhojpmaaDoor.logRooms
open Go.ChangeShapes Go.WideShapes Go.ChangeAt Go.RowKit Go.Joins Go.Proofs.YtgeggcifhojpmaaDoorW.PrintWords Go.Proofs.YtgeggcifhojpmaaDoorW.AggWords
open Go.ChangeMaps (open_string shut_string)
set_option linter.unusedVariables false
theorem own : ownKnob Tryd.prog.godebug = none := by kernel_rfl
theorem laidOut : laidOutB Tryd.prog = true := by kernel_rfl
theorem gN : Tryd.prog.globalNamed "lych/log.errBlock" = some 0 := by kernel_rfl
theorem gType : (Tryd.prog.globals[0]?).map (·.type) = some 67 := by kernel_rfl
theorem cells115 : Tryd.prog.cellsOf 115 = 1 := by kernel_rfl
theorem cells9 : Tryd.prog.cellsOf 9 = 1 := by kernel_rfl
theorem star : "*" ++ "errors.errorString" = "*errors.errorString" := by decide
theorem row91 (u : TypeId) (h : Tryd.prog.typeName? 3 u = some "*errors.errorString") : u = 91 :=
  typeName_ptr_named (nm := "errors.errorString") (by rw [star]; kernel_rfl) (by kernel_rfl) (by decide) u (by rw [star]; exact h)
/-- What the listed variable holds. -/
theorem laid_ge {W : World} (h : laidMetH Tryd.prog Rows.logRoomsRow.laid W) : ∃ ge : Addr, W.cell? ⟨0, 0, none⟩ = some (.iface 91 (.pointer (some ge))) := by
  have h' : laidMet Tryd.prog [("lych/log.errBlock", Rows.laid_lych_log_errBlock)] W := h
  obtain ⟨a, s, hv, _⟩ := laid_sentinel h' gN gType Tryd.underlying67 row91 Tryd.underlying91 Tryd.underlying115 rfl rfl Tryd.underlying9 cells115 cells9
  exact ⟨a, by simpa using World.var?_cell gN hv 0⟩
noncomputable def low : Nat := (World.holding Tryd.prog default ⟨#[], #[], []⟩).heap.size
noncomputable def laidWorld (os : Os) : World :=
  let w0 := World.holding Tryd.prog os ⟨#[.cells #[.string { data := #[110, 111, 32, 115, 117, 99, 104, 32, 98, 108, 111, 99, 107] }] 115], #[], []⟩
  { w0 with heap := w0.heap.modify 0 fun
      | .cells _ t frozen => .cells #[.iface 91 (.pointer (some ⟨low, 0, none⟩))] t frozen
      | o => o }
theorem laidWorld_met (os : Os) (args : Array Value) : laidMetH Tryd.prog Rows.logRoomsRow.laid ((laidWorld os).forCall (fun _ _ => 0) ⟨#[], args, []⟩).memory :=
  laidMetH_of_parts (laidMet_of_run (ps := [.cell 0 0, .cell low 0]) 8 (by kernel_rfl) (by kernel_rfl) (by kernel_rfl)) (by kernel_rfl)
set_option maxRecDepth 100000 in
theorem lifted (os : Os) (started : os.Started) (H : Type) (enc : TypeId × Value → H) :
    ReturnsInHanded {} Tryd.checked os 6 .any (fun w args => (Rows.logRoomsSpec.pre enc Tryd.prog Tryd.f6 [] false w args ∧ laidMetH Tryd.prog Rows.logRoomsRow.laid w) ∧ sizedMet enc Tryd.prog Tryd.f6 (OpenSpec.ofChange Rows.logRoomsSpec) false w args)
      (Rows.logRoomsSpec.post enc Tryd.prog Tryd.f6 false true false false) := by
  refine returnsInHanded_of_change_and (C := Tryd.checked) (X := fun w _ => laidMetH Tryd.prog Rows.logRoomsRow.laid w) (fun _ _ _ hh h => h.of_heap hh) own started (by kernel_rfl) Tryd.func6
    (ChangeSpec.witness_at (enc := enc) (C := Tryd.checked) (os := os) (X := fun w _ => laidMetH Tryd.prog Rows.logRoomsRow.laid w) false (laidWorld os) #[.int .i64 0, .int .i64 0] 8 rfl (by kernel_rfl) (by kernel_rfl) (by kernel_rfl) (by kernel_rfl) (by kernel_rfl) (laidWorld_met os _)) ?_
  intro W base args ds gs before hval0 hW _ _ hL _
  have hval : ∀ (j : Nat) t v, Tryd.f6.params[j]? = some t → args[j]? = some v → Value.okWide Tryd.prog W .any base t v := hval0
  have hW' := hW
  obtain ⟨p, q, hA0, hV, rfl, hfz, hnd⟩ := hW
  have hA : DataW.TrodAll enc Tryd.prog W 0 (fun _ => true) true Tryd.f6.params.toList args.toList ds p := hA0
  rw [Tryd.params6] at hA hval
  obtain ⟨v0, vs0, d0, ds0, p0, q0, hargs, rfl, rfl, h0, r0⟩ := trodAll_cons hA
  obtain ⟨v1, vs1, d1, ds1, p1, q1, rfl, rfl, rfl, h1, r1⟩ := trodAll_cons r0
  obtain ⟨rfl, rfl, rfl⟩ := trodAll_nil r1
  obtain rfl : args = #[v0, v1] := by cases args; simp_all
  obtain ⟨rfl, rfl⟩ := trodVars_none hV
  obtain ⟨ge, hge⟩ := laid_ge hL
  obtain ⟨a0, rfl, rfl, rfl, w0⟩ := open_int Tryd.underlying3 (hval 0 3 v0 rfl rfl) h0
  obtain ⟨a1, rfl, rfl, rfl, w1⟩ := open_int Tryd.underlying3 (hval 1 3 v1 rfl rfl) h1
  clear hA0 hval0
  refine (PB.LogRooms.calls a0 a1 W ge hge).mono fun e W' ⟨he, bel⟩ => ?_
  subst he
  exact ⟨_, rfl, _, _, _, [], _, [], hW', trodAll_mk1 (shut_bool Tryd.underlying4 _), (trodAll_cons_mk (shut_int Tryd.underlying3 w0) (trodAll_cons_mk (shut_int Tryd.underlying3 w1) trodAll_mk0)), rfl, bel.frame _, fun h => by cases h⟩
theorem over : Rows.logRoomsRow.holds Tryd.pinned (OpenSpec.ofChange Rows.logRoomsSpec) :=
  OpenClaim.holds_of_wide 6 Tryd.f6 rfl rfl rfl rfl rfl rfl rfl ⟨rfl, rfl, rfl, rfl, rfl⟩ rfl rfl rfl rfl rfl (by kernel_rfl) Tryd.func6 (by kernel_rfl)
    (of_decide_eq_true (by kernel_rfl)) (by unfold Func.isWrapper; first | (rw [if_pos (by decide +kernel)]; kernel_rfl) | (rw [if_neg (by decide +kernel)]; exact ⟨rfl, rfl⟩))
    (fun os started H enc _ => lifted os started H enc)
theorem proved : Rows.LogRoomsSaid := over
theorem card : Rows.LogRoomsCardSaid :=
  Claim7.holds_tied_plain_at .later [] [.sentinel] true (true, "d6af000c36f002e728fe3a0d9820601450968c7f60402185504d7936053a82d1") true
    proved (fun _ h => by cases h) (by kernel_rfl) (fun _ h => by cases h) logRooms_row_tie rfl ⟨rfl, rfl⟩ (by kernel_rfl) rfl
    (fun f fn hf hfn => by
      obtain rfl : f = 6 := Option.some.inj ((show Tryd.prog.funcNamed "lych/lychlaw10.LogRooms" = some 6 by kernel_rfl).symm.trans hf) |>.symm
      obtain rfl : fn = Tryd.f6 := (Option.some.inj (Tryd.func6.symm.trans hfn)).symm
      exact ⟨by kernel_rfl, fun j t ht => by
        rw [Tryd.params6] at ht
        have h3 : t = 3 := by
          rcases j with _ | j
          · simp at ht; subst ht; simp
          rcases j with _ | j
          · simp at ht; subst ht; simp
          simp at ht
        rcases h3 with rfl
        · exact (show Tryd.prog.wantsStandIn 3 = false by kernel_rfl)⟩)
    (by kernel_rfl)
#print axioms card
end Go.Proofs.YtgeggcifhojpmaaDoor.logRooms
namespace Go.Proofs.YtgeggcifhojpmaaDoor
/-- The tied card, under a short name, for the claim. -/
theorem logRoomsCard_holds : Rows.LogRoomsCardSaid := logRooms.card
end Go.Proofs.YtgeggcifhojpmaaDoor
