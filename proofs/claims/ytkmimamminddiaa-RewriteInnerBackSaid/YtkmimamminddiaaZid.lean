/- Texts of this claim, merged: RwInr, PBx22, PBx25, PBx24, PBx28, PBx37, PBx38, PBx39, RwBody. -/
import Derived.Test.YtkmimamminddiaaZic
import Derived.Deep.Cut
import Derived.Deep.CutRange
import Derived.Deep.CutBlock
import Derived.Deep.WholeRow
import Derived.Test.YtkmimamminddiaaZib
import Derived.Lib.SlBytesConst
set_option maxHeartbeats 40000000
set_option maxRecDepth 100000
set_option linter.unusedVariables false
set_option linter.unusedSimpArgs false
namespace Go.Proofs.Ytkmimamminddiaa.PB
open Go.RowKit Go.Proofs.YtkmimamminddiaaW.PrintWords Go.Proofs.YtkmimamminddiaaW.PrintLast Go.Proofs.YtkmimamminddiaaW.PrintMore
def Inner.R21.T : Bool × List (List Nat × List Nat) := (true, [([], []), ([], []), ([1], [1]), ([0, 2], [0, 2]), ([], []), ([4], [4]), ([3, 5], [3, 5])])
theorem Inner.R21.tab : rtab .any (opsOf Try.f42 21) = Inner.R21.T := by kernel_rfl
theorem Inner.R21.bits : waitsOk Inner.R21.T.2 [0, 0, 2, 7, 0, 16, 63] = true := by kernel_rfl
def Inner.R22.T : Bool × List (List Nat × List Nat) := (true, [([], []), ([], []), ([0, 1], [0, 1]), ([], []), ([3], [3]), ([2, 4], [2, 4])])
theorem Inner.R22.tab : rtab .any (opsOf Try.f42 22) = Inner.R22.T := by kernel_rfl
theorem Inner.R22.bits : waitsOk Inner.R22.T.2 [0, 0, 3, 0, 8, 31] = true := by kernel_rfl
def Inner.R23.T : Bool × List (List Nat × List Nat) := (true, [([], []), ([], []), ([1], [1]), ([0, 2], [0, 2]), ([], []), ([4], [4]), ([3, 5], [3, 5])])
theorem Inner.R23.tab : rtab .any (opsOf Try.f42 23) = Inner.R23.T := by kernel_rfl
theorem Inner.R23.bits : waitsOk Inner.R23.T.2 [0, 0, 2, 7, 0, 16, 63] = true := by kernel_rfl
def Inner.R25.T : Bool × List (List Nat × List Nat) := (true, [([], []), ([], []), ([1], [1]), ([0, 2], [0, 2]), ([], []), ([], []), ([4, 5], [4, 5]), ([6], [6]), ([3, 7, 7], [3, 7])])
theorem Inner.R25.tab : rtab .any (opsOf Try.f42 25) = Inner.R25.T := by kernel_rfl
theorem Inner.R25.bits : waitsOk Inner.R25.T.2 [0, 0, 2, 7, 0, 0, 48, 112, 255] = true := by kernel_rfl
theorem rewrite_Inner.via (k : Nat) (A : Option Addr) (c : Nat) (l : List Int) (r : LK) (si ps di pd : Int) (rb : List Int) (re : Int) (w : World) (hC : Kd.C (Kd.int .u8) w A l.length l) (hL : l.length <= c) (h69 : ∀ w2 : World, Kd.C (Kd.int .u8) w2 A l.length l -> Calls Try.prog 69 #[.slice A l.length c] w2 fun e w' => r.Post w2.heap.size w2 e w')
    (hg : r.e = 0 -> ¬ r.inn.length = 0 -> ∃ (x : List Int) (hd y : Nat), rewrite_own.f l = some (x, (hd : Int)) /\ rewrite_within.f k (x.drop (hd + 8)) = some ((y : Int), true) /\ 20 <= y /\ hd + 8 + y + 8 <= x.length /\ x.length <= 100000 /\ 20 <= hd) (h : innF k r l si ps di pd = some (rb, re)) :
    Calls Try.prog 42 #[.slice A l.length c, .agg #[.int .u32 si, .int .u16 ps], .agg #[.int .u32 di, .int .u16 pd]] w fun e w' => ∃ vr : Value, e = .returned (.tuple #[vr, .int .i64 re]) /\ Kd.R (Kd.int .u8) 5 w' w.heap.size (fun _ => True) vr rb /\ Below w.heap.size w w' := by
  have hu65 := Try.underlying65; have hu73 := Try.underlying73; have hu76 := Try.underlying76; unfold innF at h
  obtain ⟨fa, ft, pr, fi, fl, of_, s, d, fo, fb, fx, sp, dp, ff, inn, e_⟩ := r; have HB := Aside0.mk (Below.refl w.heap.size w); have HC := Aside0.mk hC; have HL := Aside0.mk hL; have HP := Aside0.mk h69; have HF := Aside0.mk h; have HG := Aside0.mk hg; have HI65 : Aside0 ((Try.prog.info? 65).map (·.size) = some 2) := ⟨by kernel_rfl⟩
  have HI73 : Aside0 ((Try.prog.info? 73).map (·.size) = some 10) := ⟨by kernel_rfl⟩
  have HI76 : Aside0 ((Try.prog.info? 76).map (·.size) = some 7) := ⟨by kernel_rfl⟩
  clear hC hL h69 h hg
  go_enter Try.func42, Try.ntmps42
  go_upto_region 1 with (first | ((with_reducible refine gate_dst (N := 4) rfl ?_); refine box_event ?hg_ (N := 4) ?hd_ (cs := #[.int .u32 si, .int .u16 ps]) (t := 65) ?hr_ ?_; (case hd_ => rfl); (case hg_ => rfl); (case hr_ => first | (go_simp; done) | (go_simp; rfl)); intro gs hgg_ w1 hbox_ hbb_; have GHXs := Aside0.mk (show w.heap.size <= gs by rw [hgg_]; exact below_size HB.out); have HXs := Aside0.mk hbox_; have hb_ := hbb_; replace HB := mB HB hb_; clear hb_; clear hgg_ hbox_ hbb_) | ((with_reducible refine gate_dst (N := 5) rfl ?_); refine box_event ?hg_ (N := 5) ?hd_ (cs := #[.int .u32 di, .int .u16 pd]) (t := 65) ?hr_ ?_; (case hd_ => rfl); (case hg_ => rfl); (case hr_ => first | (go_simp; done) | (go_simp; rfl)); intro gd hgg_ w2 hbox_ hbb_; have GHXd := Aside0.mk (show w.heap.size <= gd by rw [hgg_]; exact below_size HB.out); have HXd := Aside0.mk hbox_; have NE_HXs_HXd : Aside0 (gs ≠ gd) := ⟨by rw [hgg_]; exact (blk_less HXs).out⟩; have hb_ := hbb_; replace HB := mB HB hb_; replace HXs := mX HXs hb_; clear hb_; clear hgg_ hbox_ hbb_))
  go_wp2_with fail
  refine (HP.out _ (Kd.C_below HC.out HB.out)).mono ?_; rintro ev w3 hpost; obtain ⟨vo, vb, vx, vi, rfl, ho, ho2, hx, hi, hb⟩ := hpost; dsimp only at ho ho2 hx hi
  obtain ⟨Ao, co, rfl, _, _⟩ := Kd.R_reads ho; obtain ⟨Ab, cb, rfl, _, _⟩ := Kd.R_reads ho2; obtain ⟨Ai, ci, rfl, _, _⟩ := Kd.R_reads hi; clear ho ho2 hi hx; have hb_ := hb; replace HB := mB HB hb_; replace HXs := mX HXs hb_; replace HXd := mX HXd hb_; clear hb_; clear hb HP
  (try dsimp only)
  go_upto_region 2 with (first | ((with_reducible refine gate_dst (N := 8) rfl ?_); refine box_event ?hg_ (N := 8) ?hd_ (cs := #[.int .u8 0, .int .u8 0, .int .u8 0, .int .u16 0, .int .u8 0, .int .u16 0, .int .u32 0, .int .u32 0, .slice none 0 0, .slice none 0 0]) (t := 73) ?hr_ ?_; (case hd_ => rfl); (case hg_ => rfl); (case hr_ => first | (go_simp; done) | (go_simp; rfl)); intro gp hgg_ w4 hbox_ hbb_; have GHXp := Aside0.mk (show w.heap.size <= gp by rw [hgg_]; exact below_size HB.out); have HXp := Aside0.mk hbox_; have hb_ := hbb_; replace HB := mB HB hb_; replace HXs := mX HXs hb_; replace HXd := mX HXd hb_; clear hb_; clear hgg_ hbox_ hbb_) | ((with_reducible refine gate_dst (N := 10) rfl ?_); refine box_event ?hg_ (N := 10) ?hd_ (cs := #[.int .u8 0, .int .u32 0, .int .u16 0, .int .u32 0, .int .u16 0, .int .u8 0, .slice none 0 0]) (t := 76) ?hr_ ?_; (case hd_ => rfl); (case hg_ => rfl); (case hr_ => first | (go_simp; done) | (go_simp; rfl)); intro gf hgg_ w5 hbox_ hbb_; have GHXf := Aside0.mk (show w.heap.size <= gf by rw [hgg_]; exact below_size HB.out); have HXf := Aside0.mk hbox_; have hb_ := hbb_; replace HB := mB HB hb_; replace HXs := mX HXs hb_; replace HXd := mX HXd hb_; replace HXp := mX HXp hb_; clear hb_; clear hgg_ hbox_ hbb_) | ((refine rw_putrow rfl rfl rfl rfl rfl HXp.out HI73.out rfl (by simp [Value.oneCell']) ?_); intro w6 hs_ off_; replace HXs := oX off_ HXs HXp (by decide); replace HXd := oX off_ HXd HXp (by decide); replace HXf := oX off_ HXf HXp (by decide); replace HB := oB off_ HB GHXp; clear off_; replace HXp := Aside0.mk hs_; clear hs_) | ((refine rw_putrow rfl rfl rfl rfl rfl HXf.out HI76.out rfl (by simp [Value.oneCell']) ?_); intro w7 hs_ off_; replace HXs := oX off_ HXs HXf (by decide); replace HXd := oX off_ HXd HXf (by decide); replace HXp := oX off_ HXp HXf (by decide); replace HB := oB off_ HB GHXf; clear off_; replace HXf := Aside0.mk hs_; clear hs_))
  clear HXp; clear GHXp; have H := HF.out; clear HF
  (try dsimp only at H)
  by_cases ce : e_ = 0
  · have ce1 : (e_ == 0) = true := beq_iff_eq.2 ce
    have ce2 : (e_ != 0) = false := by rw [bne, ce1]; rfl
    rw [if_pos ce] at H
    have HCE := Aside0.mk ce; clear ce; obtain ⟨⟨x, hd⟩, hx, H⟩ := rw_bind H; dsimp only at H
    have HH := Aside0.mk H; clear H; have HOW := Aside0.mk hx; clear hx
    (try dsimp only)
    go_wp2_with fail
    refine (rewrite_own.calls A c l x hd _ (Kd.C_below HC.out HB.out) HL.out HOW.out).mono ?_; rintro ev w8 ⟨vx, rfl, ho, hb⟩; have HRx := Aside0.mk (Kd.R_lower ho (below_size HB.out)); clear ho; obtain ⟨Ax, cx, rfl, _, _⟩ := Kd.R_reads HRx.out; have hb_ := hb; replace HB := mB HB hb_; replace HXs := mX HXs hb_; replace HXd := mX HXd hb_; replace HXf := mX HXf hb_; clear hb_; clear hb
    (try dsimp only)
    have gf_6 : w8.cell? ⟨gf, 6, none⟩ = some (.slice Ai inn.length ci) := (blk_cell HXf.out 6).trans rfl; have H := HH.out; clear HH
    by_cases ni : inn.length = 0
    · rw [if_pos ni] at H
      clear HG HOW; have ni1 : ((inn.length : Int) == 0) = true := beq_iff_eq.2 (by omega); have ni2 : (inn.length == 0) = true := beq_iff_eq.2 (by omega); have ni3 : (inn.length = 0) = True := eq_true (by omega); simp only [Option.some.injEq, Prod.mk.injEq] at H
      obtain ⟨rfl, rfl⟩ := H
      (try dsimp only)
      go_wp2
      (try simp only [Exit.inBlock, Exit.then])
      go_ret2
      exact ⟨_, rfl, Kd.R_nil _ _ _ _ _, HB.out⟩
    · rw [if_neg ni] at H
      have ni1 : ((inn.length : Int) == 0) = false := beq_eq_false_iff_ne.2 (by omega); have ni2 : (inn.length == 0) = false := beq_eq_false_iff_ne.2 (by omega); have ni3 : (inn.length = 0) = False := eq_false (by omega)
      go_upto_region 7 with (fail)
      clear ni1 ni2 ni3 gf_6; clear HXf; clear GHXf; obtain ⟨x', hd', y, e1, e2, e3, e4, e5, e6⟩ := HG.out HCE.out ni; clear HG
      obtain ⟨rfl, rfl⟩ : x = x' /\ hd = (hd' : Int) := by
        have h := HOW.out.symm.trans e1
        injection h with h
        injection h with h1 h2
        exact ⟨h1, h2⟩
      clear HOW e1; rw [Int.toNat_natCast] at H
      obtain ⟨g, c', hv, hgb, _, _⟩ := Kd.R_form HRx.out (show 0 < x.length by omega)
      obtain ⟨rfl, rfl⟩ : Ax = some ⟨g, 0, none⟩ /\ cx = c' := by injection hv with h1 h2 h3; exact ⟨h1, h3⟩
      clear hv hgb; have hcap := (Kd.R_reads' HRx.out).2.1; obtain ⟨n, hn⟩ : ∃ n, n = x.length := ⟨_, rfl⟩
      rw [<- hn] at HRx e4 e5 hcap |-
      obtain ⟨a, ha⟩ : ∃ a, a = hd' + 8 := ⟨_, rfl⟩
      rw [<- ha] at e2 e4
      unfold innG at H
      rw [<- ha, e2, Option.bind_some] at H
      dsimp only at H
      rw [Int.toNat_natCast] at H
      obtain ⟨m, hm⟩ : ∃ m, m = n - a := ⟨_, rfl⟩
      obtain ⟨q, hq⟩ : ∃ q, q = cx - a := ⟨_, rfl⟩
      have HN : Aside0 (x.length = n /\ a = hd' + 8 /\ m = n - a /\ q = cx - a /\ a + y + 8 <= n /\ n <= cx /\ n <= 100000 /\ 20 <= hd' /\ 20 <= y) := ⟨⟨hn.symm, ha, hm, hq, e4, hcap, e5, e6, e3⟩⟩
      have HWI := Aside0.mk e2; have HH := Aside0.mk H; obtain ⟨i0, hi0, _, hsz, _⟩ := info_parts info5
      have cut0 : ∀ W : World, (Instr.slice 23 (.slice (some ⟨g, 0, none⟩) n cx) (some (.int .i64 (a : Int))) none none).run Try.prog W = .ok (.slice (some ⟨g, a, none⟩) m q) W := by
        have h := rw_from (P := Try.prog) 23 5 .i64 Try.underlying23 hi0 hsz g 0 n cx (a : Int) a rfl (by omega) (by omega)
        rwa [Nat.zero_add, <- hm, <- hq] at h
      have cut : ∀ (j : Nat), j < m -> ∀ W : World, (Instr.slice 23 (.slice (some ⟨g, a, none⟩) m q) (some (.int .i64 (j : Int))) none none).run Try.prog W = .ok (.slice (some ⟨g, a + j, none⟩) (m - j) (q - j)) W := fun j hj => rw_from (P := Try.prog) 23 5 .i64 Try.underlying23 hi0 hsz g a m q (j : Int) j rfl (by omega) (by omega)
      have CUT := Aside0.mk cut
      have CUTR : Aside0 (∀ (j : Nat), j < n -> ∀ W : World, (Instr.slice 23 (.slice (some ⟨g, 0, none⟩) n cx) (some (.int .i64 (j : Int))) none none).run Try.prog W = .ok (.slice (some ⟨g, j, none⟩) (n - j) (cx - j)) W) := ⟨fun j hj => by
        have h := rw_from (P := Try.prog) 23 5 .i64 Try.underlying23 hi0 hsz g 0 n cx (j : Int) j rfl (by omega) (by omega)
        rwa [Nat.zero_add] at h⟩
      have wa : wrap64 ((hd' : Int) + 8) = (a : Int) := by unfold wrap64; omega
      clear hn ha hm hq e2 e3 e4 e5 e6 hcap hi0 hsz cut H
      (try dsimp only)
      go_wp2_with fail
      clear wa cut0; refine (within_row HRx k a m q y true (by have := HN.out; omega) (by have := HN.out; omega) (by have := HN.out; omega) HWI.out).mono ?_; rintro ev w9 ⟨rfl, hb⟩; have hb_ := hb; replace HB := mB HB hb_; replace HXs := mX HXs hb_; replace HXd := mX HXd hb_; replace HRx := mR HRx hb_; clear hb_; clear hb HWI
      (try dsimp only)
      have b9 : w9.cell? ⟨g, a + 9, none⟩ = some (.int .u8 (rd x ((a + 9 : Nat) : Int))) := (Kd.R_celln (0 : Int) HRx.out ((a + 9 : Nat) : Int) (by omega) (by have := HN.out; omega)).1; have b0 : decide (9 < (m : Int)) = true := decide_eq_true (by have := HN.out; omega); have b1 : decide (9 < m) = true := decide_eq_true (by have := HN.out; omega); have b2 : ((m : Int) <= 9) = False := eq_false (by have := HN.out; omega); have b3 : (m <= 9) = False := eq_false (by have := HN.out; omega); have b4 : ((9 : Int) < (m : Int)) = True := eq_true (by have := HN.out; omega); have b5 : (9 < m) = True := eq_true (by have := HN.out; omega); obtain ⟨v9, hv9⟩ : ∃ v9, v9 = rd x ((a + 9 : Nat) : Int) := ⟨_, rfl⟩
      have H := HH.out; clear HH; rw [<- hv9] at b9 H
      clear hv9; have gs_0 : w9.cell? ⟨gs, 0, none⟩ = some (.int .u32 si) := (blk_cell HXs.out 0).trans rfl; have gs_1 : w9.cell? ⟨gs, 1, none⟩ = some (.int .u16 ps) := (blk_cell HXs.out 1).trans rfl; have gd_0 : w9.cell? ⟨gd, 0, none⟩ = some (.int .u32 di) := (blk_cell HXd.out 0).trans rfl; have gd_1 : w9.cell? ⟨gd, 1, none⟩ = some (.int .u16 pd) := (blk_cell HXd.out 1).trans rfl
      go_upto_region 10 with (fail)
      clear b9 b0 b1 b2 b3 b4 b5; have h3 : (v9 = 1 /\ ¬ ps = pd) \/ (v9 = 1 /\ ps = pd) \/ ¬ v9 = 1 := by omega
      rcases h3 with ⟨c9, cp⟩ | ⟨c9, cp⟩ | c9
      · have c91 : (v9 == 1) = true := beq_iff_eq.2 c9; have c92 : (v9 != 1) = false := (by rw [bne, c91]; rfl)
        have cp1 : (ps == pd) = false := beq_eq_false_iff_ne.2 cp; have cp2 : (ps != pd) = true := bne_iff_ne.2 cp; rw [if_pos ⟨c9, cp⟩] at H
        clear c9 cp; simp only [Option.some.injEq, Prod.mk.injEq] at H
        obtain ⟨rfl, rfl⟩ := H
        (try dsimp only)
        go_wp2
        (try simp only [Exit.inBlock, Exit.then])
        go_ret2
        exact ⟨_, rfl, Kd.R_nil _ _ _ _ _, HB.out⟩
      all_goals first
        | (have c91 : (v9 == 1) = true := beq_iff_eq.2 c9; have c92 : (v9 != 1) = false := (by rw [bne, c91]; rfl); have cp1 : (ps == pd) = true := beq_iff_eq.2 cp; have cp2 : (ps != pd) = false := (by rw [bne, cp1]; rfl); rw [if_neg (fun h5 => h5.2 cp)] at H; have HV9 := Aside0.mk c9; clear c9 cp; go_upto_region 12 with (fail); clear c91 c92 cp1 cp2)
        | (have c91 : (v9 == 1) = false := beq_eq_false_iff_ne.2 c9; have c92 : (v9 != 1) = true := bne_iff_ne.2 c9; rw [if_neg (fun h5 => c9 h5.1)] at H; have HV9 := Aside0.mk c9; clear c9; go_upto_region 12 with (fail); clear c91 c92)
      all_goals
        clear gs_0 gs_1 gd_0 gd_1; obtain ⟨x0, hx0, H⟩ := rw_bind H; obtain ⟨⟨xF, oF⟩, hL, H⟩ := rw_bind H; dsimp only at H
        obtain ⟨sF, hs, H⟩ := rw_bind H; simp only [Option.some.injEq, Prod.mk.injEq] at H
        obtain ⟨hrb, rfl⟩ := H; have HRB := Aside0.mk hrb; clear hrb; have HX0 := Aside0.mk hx0; have HLL := Aside0.mk hL; have HSS := Aside0.mk hs; clear hx0 hL hs; have c10 : ∀ W : World, (Instr.slice 23 (.slice (some ⟨g, a, none⟩) m q) (some (.int .i64 10)) none none).run Try.prog W = .ok (.slice (some ⟨g, a + 10, none⟩) (m - 10) (q - 10)) W := CUT.out 10 (by have := HN.out; omega)
        go_wp2_with fail
        clear c10; refine (two_row HRx (a + 10) (m - 10) (q - 10) x0 (by have := HN.out; omega) (by have := HN.out; omega) (by have := HN.out; omega) HX0.out).mono ?_; rintro ev w_ ⟨rfl, ⟨nd, rfl⟩⟩; have hb_ := pw_below_drewN (Below.refl w9.heap.size w9) nd; replace HB := mB HB hb_; replace HXs := mX HXs hb_; replace HXd := mX HXd hb_; replace HRx := mR HRx hb_; clear hb_; generalize w9.drewN nd = w10 at HB HXs HXd HRx |-
        (try dsimp only)
        clear HX0; have gs_0 : w10.cell? ⟨gs, 0, none⟩ = some (.int .u32 si) := (blk_cell HXs.out 0).trans rfl; have gs_1 : w10.cell? ⟨gs, 1, none⟩ = some (.int .u16 ps) := (blk_cell HXs.out 1).trans rfl; have gd_0 : w10.cell? ⟨gd, 0, none⟩ = some (.int .u32 di) := (blk_cell HXd.out 0).trans rfl; have gd_1 : w10.cell? ⟨gd, 1, none⟩ = some (.int .u16 pd) := (blk_cell HXd.out 1).trans rfl
        go_wp2_with ((with_reducible refine gate_dst (N := 78) rfl ?_); refine rw_lit ?hg_ (cs := #[.int .u16 (si / 65536 % 65536), .int .u16 (si % 65536), .int .u16 (di / 65536 % 65536), .int .u16 (di % 65536)]) (t := 45) (n := 4) ?hr_ ?_; (case hg_ => rfl); (case hr_ => first | (go_simp; done) | (go_simp; rfl)); intro gl w11 HXl0 hgl hb0_; have HXl := Aside0.mk HXl0; clear HXl0 hgl; have hb_ := hb0_; replace HB := mB HB hb_; replace HXs := mX HXs hb_; replace HXd := mX HXd hb_; replace HRx := mR HRx hb_; clear hb_; clear hb0_)
        clear gs_0 gs_1 gd_0 gd_1
        go_loopg [18, 80] 4 (fun kq v18 v80 w' => ∃ (j : Nat) (x_ : Int) (o_ : List Int), v18 = .int .u16 x_ /\ v80 = .int .i64 (j : Int) /\ Aside0 (kq + j = 4) /\ Aside0 (innL k a ((innW si di).drop j) j x_ o_ = some (xF, oF)) /\ Aside0 (Kd.R (Kd.int .u8) 5 w' w.heap.size (fun _ => True) (.slice (some ⟨g, 0, none⟩) n cx) o_) /\ Aside0 (w'.heap[gs]? = some (.cells #[.int .u32 si, .int .u16 ps] 65 (0, 0))) /\ Aside0 (w'.heap[gd]? = some (.cells #[.int .u32 di, .int .u16 pd] 65 (0, 0))) /\ Aside0 (w'.heap[gl]? = some (.cells #[.int .u16 (si / 65536 % 65536), .int .u16 (si % 65536), .int .u16 (di / 65536 % 65536), .int .u16 (di % 65536)] 45 (0, 0))) /\ Aside0 (Below w.heap.size w w'))
        case atStart => exact ⟨0, x0, x, rfl, rfl, ⟨rfl⟩, HLL, HRx, HXs, HXd, HXl, HB⟩
        case round =>
          clear HRx HXs HXd HXl HB HLL; obtain ⟨j, x_, o_, rfl, rfl, HK, HLL, HRx, HXs, HXd, HXl, HB⟩ := hrel
          by_cases c6 : j < 4
          · obtain ⟨wv, hcell, hdrop⟩ : ∃ wv, wr.cell? ⟨gl, j, none⟩ = some (.int .u16 wv) /\ (innW si di).drop j = wv :: (innW si di).drop (j + 1) := by
              have h4 : j = 0 \/ j = 1 \/ j = 2 \/ j = 3 := by omega
              rcases h4 with rfl | rfl | rfl | rfl
              · exact ⟨_, (blk_cell HXl.out 0).trans rfl, rfl⟩
              · exact ⟨_, (blk_cell HXl.out 1).trans rfl, rfl⟩
              · exact ⟨_, (blk_cell HXl.out 2).trans rfl, rfl⟩
              · exact ⟨_, (blk_cell HXl.out 3).trans rfl, rfl⟩
            have hLL := HLL.out; clear HLL; rw [hdrop, innL] at hLL
            obtain ⟨t_, ht, hLL⟩ := rw_bind hLL; obtain ⟨xn, hxn, hLL⟩ := rw_bind hLL; obtain ⟨J2, hJ2⟩ : ∃ J2, J2 = 2 * j := ⟨_, rfl⟩
            obtain ⟨J, hJ⟩ : ∃ J, J = 12 + J2 := ⟨_, rfl⟩
            rw [show a + 12 + 2 * j = a + J from by omega] at ht hLL
            have HLL := Aside0.mk hLL; have HT := Aside0.mk ht; have HU := Aside0.mk hxn; have HJ : Aside0 (j < 4 /\ J = 12 + 2 * j) := ⟨by omega, by omega⟩
            have w2 : wrap64 (2 * (j : Int)) = (J2 : Int) := by unfold wrap64; omega
            have w12 : wrap64 (12 + (J2 : Int)) = (J : Int) := by unfold wrap64; omega
            have cJ := CUT.out J (by have := HN.out; omega); have b0 : decide ((j : Int) < 4) = true := decide_eq_true (by omega); have b1 : decide (j < 4) = true := decide_eq_true c6; have b2 : ((4 : Int) <= (j : Int)) = False := eq_false (by omega); have b3 : (4 <= j) = False := eq_false (by omega); have b4 : ((j : Int) < 4) = True := eq_true (by omega); have b5 : (j < 4) = True := eq_true c6; clear hLL ht hxn hdrop hJ hJ2 c6
            go_wp2_with fail
            clear hcell b0 b1 b2 b3 b4 b5; refine (two_row HRx (a + J) (m - J) (q - J) t_ (by have := HN.out; have := HJ.out; omega) (by have := HN.out; have := HJ.out; omega) (by have := HN.out; have := HJ.out; omega) HT.out).mono ?_; rintro ev w_ ⟨rfl, ⟨nd, rfl⟩⟩; have hb_ := pw_below_drewN (Below.refl wr.heap.size wr) nd; replace HB := mB HB hb_; replace HRx := mR HRx hb_; replace HXs := mX HXs hb_; replace HXd := mX HXd hb_; replace HXl := mX HXl hb_; clear hb_; generalize wr.drewN nd = w1 at HB HRx HXs HXd HXl |-
            (try dsimp only)
            clear HT
            go_wp2_with fail
            refine (sum_Update.calls k x_ t_ wv xn _ HU.out).mono ?_; rintro ev w_ ⟨rfl, ⟨nd, rfl⟩⟩; have hb_ := pw_below_drewN (Below.refl w1.heap.size w1) nd; replace HB := mB HB hb_; replace HRx := mR HRx hb_; replace HXs := mX HXs hb_; replace HXd := mX HXd hb_; replace HXl := mX HXl hb_; clear hb_; generalize w1.drewN nd = w2 at HB HRx HXs HXd HXl |-
            (try dsimp only)
            clear HU
            go_wp2_with fail
            refine (put2_row HRx HB (a + J) (m - J) (q - J) wv (by have := HN.out; have := HJ.out; omega) (by have := HN.out; have := HJ.out; omega)).mono ?_; rintro ev w3 ⟨rfl, hr_, hb_, hk_⟩; replace HRx := hr_; replace HB := hb_; replace HXs := Aside0.mk (hk_ _ _ _ _ (by decide) HXs.out); replace HXd := Aside0.mk (hk_ _ _ _ _ (by decide) HXd.out); replace HXl := Aside0.mk (hk_ _ _ _ _ (by decide) HXl.out); clear hr_ hb_ hk_
            (try dsimp only)
            clear w2 w12 cJ; have w7 : wrap64 ((j : Int) + 1) = ((j + 1 : Nat) : Int) := by have := HJ.out; unfold wrap64; omega
            go_wp2
            go_roundg (gk - 1)
            case measure => clear w7; have := HK.out; have := HJ.out; omega
            case rel => exact ⟨j + 1, xn, put2L o_ (a + J) wv, by first | rfl | (simp [w7]; done), by first | rfl | (simp [w7]; done) | (simp only [w7]; rfl), ⟨by clear w7; have := HK.out; have := HJ.out; omega⟩, HLL, HRx, HXs, HXd, HXl, HB⟩
          · obtain rfl : j = 4 := by have := HK.out; omega
            have hLL := HLL.out; clear HLL
            have hF : xF = x_ /\ oF = o_ := by
              have h : some (x_, o_) = some (xF, oF) := hLL; simp only [Option.some.injEq, Prod.mk.injEq] at h
              exact ⟨h.1.symm, h.2.symm⟩
            obtain ⟨rfl, rfl⟩ := hF; clear hLL c6; have c10 : ∀ W : World, (Instr.slice 23 (.slice (some ⟨g, a, none⟩) m q) (some (.int .i64 10)) none none).run Try.prog W = .ok (.slice (some ⟨g, a + 10, none⟩) (m - 10) (q - 10)) W := CUT.out 10 (by have := HN.out; omega)
            go_wp2_with fail
            clear c10 HXl; refine (put2_row HRx HB (a + 10) (m - 10) (q - 10) xF (by have := HN.out; omega) (by have := HN.out; omega)).mono ?_; rintro ev w1 ⟨rfl, hr_, hb_, hk_⟩; replace HRx := hr_; replace HB := hb_; replace HXs := Aside0.mk (hk_ _ _ _ _ (by decide) HXs.out); replace HXd := Aside0.mk (hk_ _ _ _ _ (by decide) HXd.out); clear hr_ hb_ hk_
            (try dsimp only)
            obtain ⟨o6, ho6⟩ : ∃ o6, o6 = innP v9 (put2L oF (a + 10) xF) a y ps pd := ⟨_, rfl⟩
            have hS := HSS.out; have hR := HRB.out; clear HSS HRB; rw [<- ho6] at hS hR
            obtain ⟨h2, hh2⟩ : ∃ h2, h2 = hd' + 2 := ⟨_, rfl⟩
            rw [<- hh2] at hS hR
            have HSS := Aside0.mk hS; have HRB := Aside0.mk hR; have HO6 := Aside0.mk ho6; have HH2 := Aside0.mk hh2; clear ho6 hS hR hh2
            first
              | (go_upto_region 21 with (fail)
                 obtain ⟨J21, hJ_⟩ : ∃ J_, J_ = y + 4 := ⟨_, rfl⟩
                 have HJ := Aside0.mk hJ_; clear hJ_; have CUTJ := Aside0.mk (CUT.out J21 (by have := HN.out; have := HJ.out; omega)); have WJ : Aside0 (wrap64 ((y : Int) + 4) = (J21 : Int)) := ⟨by have := HN.out; have := HJ.out; unfold wrap64; omega⟩
                 refine start_ (n := 7) (S := fun w' => w'.cell? ⟨gs, 1, none⟩ = some (.int .u16 ps)) (ds := []) #[false, false, false, false, false, false, false] (by kernel_rfl) rfl rfl ((blk_cell HXs.out 1).trans rfl) (fun hHeld => ?_); refine with_tabW Inner.R21.tab Inner.R21.bits (fun HT_ HW_ => ?_); have hb_ := below_drew1 (Below.refl w1.heap.size w1); replace HB := mB HB hb_; replace HRx := mR HRx hb_; replace HXs := mX HXs hb_; replace HXd := mX HXd hb_; clear hb_; generalize w1.drew = w22 at HB HRx HXs HXd hHeld |-
                 refine pure_ (i := 0) (N := some 107) (v := ?_) (a' := ?_) #[true, false, false, false, false, false, false] rfl rfl (any_of HT_.out (by kernel_rfl)) (fun _ _ _ h => h) (Or.inl ⟨by rfl, ?_⟩) ?_ ?_
                 rotate_left
                 · intro w'
                   go_simp
                   with_reducible rfl
                 rotate_left
                 · simp only [Act.put, List.setIfInBounds_toArray, List.set_cons_zero, List.set_cons_succ, i64_w, i32_w]
                   rfl
                 refine pure_ (i := 1) (N := some 108) (v := ?_) (a' := ?_) #[true, true, false, false, false, false, false] rfl rfl (any_of HT_.out (by kernel_rfl)) (fun _ _ _ h => h) (Or.inl ⟨by rfl, ?_⟩) ?_ ?_
                 rotate_left
                 · intro w'
                   go_simp
                   with_reducible rfl
                 rotate_left
                 · simp only [Act.put, List.setIfInBounds_toArray, List.set_cons_zero, List.set_cons_succ, i64_w, i32_w]
                   rfl
                 refine pure_ (i := 2) (N := some 109) (v := (.int .i64 (J21 : Int))) #[true, true, true, false, false, false, false] rfl rfl (any_of HT_.out (by kernel_rfl)) (fun _ _ _ h => h) (Or.inl ⟨by rfl, fun w' => ?_⟩) rfl ?_
                 · have z_ := WJ.out
                   first | (go_simp; done) | (go_simp; rfl) | (go_simp; rw [z_]; rfl) | (go_simp; simp only [i64_w]; exact z_)
                 refine norm_ (a' := ?_) ?_ ?_
                 rotate_left
                 · show Act.put _ (some 109) _ = _
                   simp only [Act.put, List.setIfInBounds_toArray, List.set_cons_zero, List.set_cons_succ, i64_w, i32_w]
                   rfl
                 refine pure_ (i := 3) (N := some 110) (v := (.slice (some ⟨g, a + J21, none⟩) (m - J21) (q - J21))) #[true, true, true, true, false, false, false] rfl rfl (any_of HT_.out (by kernel_rfl)) (fun _ _ _ h => h) (Or.inl ⟨by rfl, fun w' => ?_⟩) rfl ?_
                 · exact rw_slice_l (vx := .slice (some ⟨g, a, none⟩) m q) (vl := .int .i64 (J21 : Int)) Try.underlying23 (by rfl) (by rfl) (by rfl) (CUTJ.out w')
                 refine norm_ (a' := ?_) ?_ ?_
                 rotate_left
                 · show Act.put _ (some 110) _ = _
                   simp only [Act.put, List.setIfInBounds_toArray, List.set_cons_zero, List.set_cons_succ, i64_w, i32_w]
                   rfl
                 refine pure_ (i := 4) (N := some 111) (v := ?_) (a' := ?_) #[true, true, true, true, true, false, false] rfl rfl (any_of HT_.out (by kernel_rfl)) (fun _ _ _ h => h) (Or.inl ⟨by rfl, ?_⟩) ?_ ?_
                 rotate_left
                 · intro w'
                   go_simp
                   with_reducible rfl
                 rotate_left
                 · simp only [Act.put, List.setIfInBounds_toArray, List.set_cons_zero, List.set_cons_succ, i64_w, i32_w]
                   rfl
                 refine take_ (i := 5) (N := some 112) (v := ?_) (a' := ?_) #[true, true, true, true, true, true, false] rfl rfl (take_ofW HT_.out HW_.out (by kernel_rfl)) (fun _ _ _ h => h) (Or.inl ⟨by rfl, ?_⟩) hHeld ?_ ?_
                 rotate_left
                 · intro w' s0
                   go_simp
                   with_reducible rfl
                 rotate_left
                 · simp only [Act.put, List.setIfInBounds_toArray, List.set_cons_zero, List.set_cons_succ, i64_w, i32_w]
                   rfl
                 refine one_ (i := 6) (N := some 113) #[true, true, true, true, true, true, true] rfl rfl (one_of HT_.out (by kernel_rfl)) (by decide) (fun K hK => ?_); refine goes_ Try.func89 (by kernel_rfl) rfl #[.slice (some ⟨g, a + J21, none⟩) (m - J21) (q - J21), .int .u16 ps] (by rfl) rfl rfl (by first | rfl | (go_simp; done) | (go_simp; rfl) | (go_simp; decide)) ?_; refine (put2_row HRx HB (a + J21) (m - J21) (q - J21) ps (by have := HN.out; have := HJ.out; omega) (by have := HN.out; have := HJ.out; omega)).mono ?_; rintro ev w23 ⟨rfl, hr_, hb_, hk_⟩; replace HRx := hr_; replace HB := hb_; replace HXs := Aside0.mk (hk_ _ _ _ _ (by decide) HXs.out); replace HXd := Aside0.mk (hk_ _ _ _ _ (by decide) HXd.out); clear hr_ hb_ hk_; refine ⟨_, rfl, ?_⟩; refine hK.out _ _ ((blk_cell HXs.out 1).trans rfl) (fun hHeld => ?_); clear hK K; refine norm_ (a' := ?_) ?_ ?_
                 rotate_left
                 · show Act.put _ (some 113) _ = _
                   simp only [Act.put, List.setIfInBounds_toArray, List.set_cons_zero, List.set_cons_succ, i64_w, i32_w]
                   rfl
                 refine done_ (done_of HT_.out (by kernel_rfl)) ?_; clear HT_ HW_ hHeld; clear CUTJ WJ; have hJ_ := HJ.out; subst hJ_; clear HJ
                 (try dsimp only)
                 have ho6 := HO6.out; rw [innP, if_pos HV9.out] at ho6
                 have hR := HRx.out; rw [<- ho6] at hR
                 clear HRx HO6 ho6 HXs HXd HV9; have HRx := Aside0.mk hR; clear hR
                 generalize w23 = wz at HRx HB |-)
              | (go_upto_region 22 with (fail)
                 have HJ := Aside0.mk (rfl : y = y); have CUTJ := Aside0.mk (CUT.out y (by have := HN.out; have := HJ.out; omega)); refine start_ (n := 6) (S := fun w' => w'.cell? ⟨gs, 1, none⟩ = some (.int .u16 ps)) (ds := []) #[false, false, false, false, false, false] (by kernel_rfl) rfl rfl ((blk_cell HXs.out 1).trans rfl) (fun hHeld => ?_); refine with_tabW Inner.R22.tab Inner.R22.bits (fun HT_ HW_ => ?_); have hb_ := below_drew1 (Below.refl w1.heap.size w1); replace HB := mB HB hb_; replace HRx := mR HRx hb_; replace HXs := mX HXs hb_; replace HXd := mX HXd hb_; clear hb_; generalize w1.drew = w42 at HB HRx HXs HXd hHeld |-
                 refine pure_ (i := 0) (N := some 114) (v := ?_) (a' := ?_) #[true, false, false, false, false, false] rfl rfl (any_of HT_.out (by kernel_rfl)) (fun _ _ _ h => h) (Or.inl ⟨by rfl, ?_⟩) ?_ ?_
                 rotate_left
                 · intro w'
                   go_simp
                   with_reducible rfl
                 rotate_left
                 · simp only [Act.put, List.setIfInBounds_toArray, List.set_cons_zero, List.set_cons_succ, i64_w, i32_w]
                   rfl
                 refine pure_ (i := 1) (N := some 115) (v := ?_) (a' := ?_) #[true, true, false, false, false, false] rfl rfl (any_of HT_.out (by kernel_rfl)) (fun _ _ _ h => h) (Or.inl ⟨by rfl, ?_⟩) ?_ ?_
                 rotate_left
                 · intro w'
                   go_simp
                   with_reducible rfl
                 rotate_left
                 · simp only [Act.put, List.setIfInBounds_toArray, List.set_cons_zero, List.set_cons_succ, i64_w, i32_w]
                   rfl
                 refine pure_ (i := 2) (N := some 116) (v := (.slice (some ⟨g, a + y, none⟩) (m - y) (q - y))) #[true, true, true, false, false, false] rfl rfl (any_of HT_.out (by kernel_rfl)) (fun _ _ _ h => h) (Or.inl ⟨by rfl, fun w' => ?_⟩) rfl ?_
                 · exact rw_slice_l (vx := .slice (some ⟨g, a, none⟩) m q) (vl := .int .i64 (y : Int)) Try.underlying23 (by rfl) (by rfl) (by rfl) (CUTJ.out w')
                 refine norm_ (a' := ?_) ?_ ?_
                 rotate_left
                 · show Act.put _ (some 116) _ = _
                   simp only [Act.put, List.setIfInBounds_toArray, List.set_cons_zero, List.set_cons_succ, i64_w, i32_w]
                   rfl
                 refine pure_ (i := 3) (N := some 117) (v := ?_) (a' := ?_) #[true, true, true, true, false, false] rfl rfl (any_of HT_.out (by kernel_rfl)) (fun _ _ _ h => h) (Or.inl ⟨by rfl, ?_⟩) ?_ ?_
                 rotate_left
                 · intro w'
                   go_simp
                   with_reducible rfl
                 rotate_left
                 · simp only [Act.put, List.setIfInBounds_toArray, List.set_cons_zero, List.set_cons_succ, i64_w, i32_w]
                   rfl
                 refine take_ (i := 4) (N := some 118) (v := ?_) (a' := ?_) #[true, true, true, true, true, false] rfl rfl (take_ofW HT_.out HW_.out (by kernel_rfl)) (fun _ _ _ h => h) (Or.inl ⟨by rfl, ?_⟩) hHeld ?_ ?_
                 rotate_left
                 · intro w' s0
                   go_simp
                   with_reducible rfl
                 rotate_left
                 · simp only [Act.put, List.setIfInBounds_toArray, List.set_cons_zero, List.set_cons_succ, i64_w, i32_w]
                   rfl
                 refine one_ (i := 5) (N := some 119) #[true, true, true, true, true, true] rfl rfl (one_of HT_.out (by kernel_rfl)) (by decide) (fun K hK => ?_); refine goes_ Try.func89 (by kernel_rfl) rfl #[.slice (some ⟨g, a + y, none⟩) (m - y) (q - y), .int .u16 ps] (by rfl) rfl rfl (by first | rfl | (go_simp; done) | (go_simp; rfl) | (go_simp; decide)) ?_; refine (put2_row HRx HB (a + y) (m - y) (q - y) ps (by have := HN.out; have := HJ.out; omega) (by have := HN.out; have := HJ.out; omega)).mono ?_; rintro ev w43 ⟨rfl, hr_, hb_, hk_⟩; replace HRx := hr_; replace HB := hb_; replace HXs := Aside0.mk (hk_ _ _ _ _ (by decide) HXs.out); replace HXd := Aside0.mk (hk_ _ _ _ _ (by decide) HXd.out); clear hr_ hb_ hk_; refine ⟨_, rfl, ?_⟩; refine hK.out _ _ ((blk_cell HXs.out 1).trans rfl) (fun hHeld => ?_); clear hK K; refine norm_ (a' := ?_) ?_ ?_
                 rotate_left
                 · show Act.put _ (some 119) _ = _
                   simp only [Act.put, List.setIfInBounds_toArray, List.set_cons_zero, List.set_cons_succ, i64_w, i32_w]
                   rfl
                 refine done_ (done_of HT_.out (by kernel_rfl)) ?_; clear HT_ HW_ hHeld; clear CUTJ; clear HJ
                 (try dsimp only)
                 go_upto_region 23 with (fail)
                 obtain ⟨J23, hJ_⟩ : ∃ J_, J_ = y + 2 := ⟨_, rfl⟩
                 have HJ := Aside0.mk hJ_; clear hJ_; have CUTJ := Aside0.mk (CUT.out J23 (by have := HN.out; have := HJ.out; omega)); have WJ : Aside0 (wrap64 ((y : Int) + 2) = (J23 : Int)) := ⟨by have := HN.out; have := HJ.out; unfold wrap64; omega⟩
                 refine start_ (n := 7) (S := fun w' => w'.cell? ⟨gd, 1, none⟩ = some (.int .u16 pd)) (ds := []) #[false, false, false, false, false, false, false] (by kernel_rfl) rfl rfl ((blk_cell HXd.out 1).trans rfl) (fun hHeld => ?_); refine with_tabW Inner.R23.tab Inner.R23.bits (fun HT_ HW_ => ?_); have hb_ := below_drew1 (Below.refl w43.heap.size w43); replace HB := mB HB hb_; replace HRx := mR HRx hb_; replace HXs := mX HXs hb_; replace HXd := mX HXd hb_; clear hb_; generalize w43.drew = w44 at HB HRx HXs HXd hHeld |-
                 refine pure_ (i := 0) (N := some 120) (v := ?_) (a' := ?_) #[true, false, false, false, false, false, false] rfl rfl (any_of HT_.out (by kernel_rfl)) (fun _ _ _ h => h) (Or.inl ⟨by rfl, ?_⟩) ?_ ?_
                 rotate_left
                 · intro w'
                   go_simp
                   with_reducible rfl
                 rotate_left
                 · simp only [Act.put, List.setIfInBounds_toArray, List.set_cons_zero, List.set_cons_succ, i64_w, i32_w]
                   rfl
                 refine pure_ (i := 1) (N := some 121) (v := ?_) (a' := ?_) #[true, true, false, false, false, false, false] rfl rfl (any_of HT_.out (by kernel_rfl)) (fun _ _ _ h => h) (Or.inl ⟨by rfl, ?_⟩) ?_ ?_
                 rotate_left
                 · intro w'
                   go_simp
                   with_reducible rfl
                 rotate_left
                 · simp only [Act.put, List.setIfInBounds_toArray, List.set_cons_zero, List.set_cons_succ, i64_w, i32_w]
                   rfl
                 refine pure_ (i := 2) (N := some 122) (v := (.int .i64 (J23 : Int))) #[true, true, true, false, false, false, false] rfl rfl (any_of HT_.out (by kernel_rfl)) (fun _ _ _ h => h) (Or.inl ⟨by rfl, fun w' => ?_⟩) rfl ?_
                 · have z_ := WJ.out
                   first | (go_simp; done) | (go_simp; rfl) | (go_simp; rw [z_]; rfl) | (go_simp; simp only [i64_w]; exact z_)
                 refine norm_ (a' := ?_) ?_ ?_
                 rotate_left
                 · show Act.put _ (some 122) _ = _
                   simp only [Act.put, List.setIfInBounds_toArray, List.set_cons_zero, List.set_cons_succ, i64_w, i32_w]
                   rfl
                 refine pure_ (i := 3) (N := some 123) (v := (.slice (some ⟨g, a + J23, none⟩) (m - J23) (q - J23))) #[true, true, true, true, false, false, false] rfl rfl (any_of HT_.out (by kernel_rfl)) (fun _ _ _ h => h) (Or.inl ⟨by rfl, fun w' => ?_⟩) rfl ?_
                 · exact rw_slice_l (vx := .slice (some ⟨g, a, none⟩) m q) (vl := .int .i64 (J23 : Int)) Try.underlying23 (by rfl) (by rfl) (by rfl) (CUTJ.out w')
                 refine norm_ (a' := ?_) ?_ ?_
                 rotate_left
                 · show Act.put _ (some 123) _ = _
                   simp only [Act.put, List.setIfInBounds_toArray, List.set_cons_zero, List.set_cons_succ, i64_w, i32_w]
                   rfl
                 refine pure_ (i := 4) (N := some 124) (v := ?_) (a' := ?_) #[true, true, true, true, true, false, false] rfl rfl (any_of HT_.out (by kernel_rfl)) (fun _ _ _ h => h) (Or.inl ⟨by rfl, ?_⟩) ?_ ?_
                 rotate_left
                 · intro w'
                   go_simp
                   with_reducible rfl
                 rotate_left
                 · simp only [Act.put, List.setIfInBounds_toArray, List.set_cons_zero, List.set_cons_succ, i64_w, i32_w]
                   rfl
                 refine take_ (i := 5) (N := some 125) (v := ?_) (a' := ?_) #[true, true, true, true, true, true, false] rfl rfl (take_ofW HT_.out HW_.out (by kernel_rfl)) (fun _ _ _ h => h) (Or.inl ⟨by rfl, ?_⟩) hHeld ?_ ?_
                 rotate_left
                 · intro w' s0
                   go_simp
                   with_reducible rfl
                 rotate_left
                 · simp only [Act.put, List.setIfInBounds_toArray, List.set_cons_zero, List.set_cons_succ, i64_w, i32_w]
                   rfl
                 refine one_ (i := 6) (N := some 126) #[true, true, true, true, true, true, true] rfl rfl (one_of HT_.out (by kernel_rfl)) (by decide) (fun K hK => ?_); refine goes_ Try.func89 (by kernel_rfl) rfl #[.slice (some ⟨g, a + J23, none⟩) (m - J23) (q - J23), .int .u16 pd] (by rfl) rfl rfl (by first | rfl | (go_simp; done) | (go_simp; rfl) | (go_simp; decide)) ?_; refine (put2_row HRx HB (a + J23) (m - J23) (q - J23) pd (by have := HN.out; have := HJ.out; omega) (by have := HN.out; have := HJ.out; omega)).mono ?_; rintro ev w45 ⟨rfl, hr_, hb_, hk_⟩; replace HRx := hr_; replace HB := hb_; replace HXs := Aside0.mk (hk_ _ _ _ _ (by decide) HXs.out); replace HXd := Aside0.mk (hk_ _ _ _ _ (by decide) HXd.out); clear hr_ hb_ hk_; refine ⟨_, rfl, ?_⟩; refine hK.out _ _ ((blk_cell HXd.out 1).trans rfl) (fun hHeld => ?_); clear hK K; refine norm_ (a' := ?_) ?_ ?_
                 rotate_left
                 · show Act.put _ (some 126) _ = _
                   simp only [Act.put, List.setIfInBounds_toArray, List.set_cons_zero, List.set_cons_succ, i64_w, i32_w]
                   rfl
                 refine done_ (done_of HT_.out (by kernel_rfl)) ?_; clear HT_ HW_ hHeld; clear CUTJ WJ; have hJ_ := HJ.out; subst hJ_; clear HJ
                 (try dsimp only)
                 have ho6 := HO6.out; rw [innP, if_neg HV9.out] at ho6
                 have hR := HRx.out; rw [<- ho6] at hR
                 clear HRx HO6 ho6 HXs HXd HV9; have HRx := Aside0.mk hR; clear hR
                 generalize w45 = wz at HRx HB |-)
            have wh : wrap64 ((hd' : Int) + 2) = (h2 : Int) := by have := HN.out; have := HH2.out; unfold wrap64; omega
            have cR := CUTR.out h2 (by have := HN.out; have := HH2.out; omega)
            go_wp2_with fail
            have WH := Aside0.mk wh; have CR := Aside0.mk cR; have CH := Aside0.mk (CUTR.out hd' (by have := HN.out; omega)); clear wh cR; refine (put2_row HRx HB (h2) (n - h2) (cx - h2) 0 (by have := HN.out; have := HH2.out; omega) (by have := HN.out; have := HH2.out; omega)).mono ?_; rintro ev w81 ⟨rfl, hr_, hb_, hk_⟩; replace HRx := hr_; replace HB := hb_; clear hr_ hb_ hk_
            (try dsimp only)
            go_upto_region 25 with (fail)
            refine start_ (n := 9) (S := fun _ => True) (ds := []) #[false, false, false, false, false, false, false, false, false] (by kernel_rfl) rfl rfl trivial (fun hHeld => ?_); refine with_tabW Inner.R25.tab Inner.R25.bits (fun HT_ HW_ => ?_); have hb_ := below_drew1 (Below.refl w81.heap.size w81); replace HB := mB HB hb_; replace HRx := mR HRx hb_; clear hb_; generalize w81.drew = w82 at HB HRx hHeld |-
            refine pure_ (i := 0) (N := some 132) (v := ?_) (a' := ?_) #[true, false, false, false, false, false, false, false, false] rfl rfl (any_of HT_.out (by kernel_rfl)) (fun _ _ _ h => h) (Or.inl ⟨by rfl, ?_⟩) ?_ ?_
            rotate_left
            · intro w'
              go_simp
              with_reducible rfl
            rotate_left
            · simp only [Act.put, List.setIfInBounds_toArray, List.set_cons_zero, List.set_cons_succ, i64_w, i32_w]
              rfl
            refine pure_ (i := 1) (N := some 133) (v := ?_) (a' := ?_) #[true, true, false, false, false, false, false, false, false] rfl rfl (any_of HT_.out (by kernel_rfl)) (fun _ _ _ h => h) (Or.inl ⟨by rfl, ?_⟩) ?_ ?_
            rotate_left
            · intro w'
              go_simp
              with_reducible rfl
            rotate_left
            · simp only [Act.put, List.setIfInBounds_toArray, List.set_cons_zero, List.set_cons_succ, i64_w, i32_w]
              rfl
            refine pure_ (i := 2) (N := some 134) (v := (.int .i64 (h2 : Int))) #[true, true, true, false, false, false, false, false, false] rfl rfl (any_of HT_.out (by kernel_rfl)) (fun _ _ _ h => h) (Or.inl ⟨by rfl, fun w' => ?_⟩) rfl ?_
            · have z_ := WH.out
              first | (go_simp; done) | (go_simp; rfl) | (go_simp; rw [z_]; rfl) | (go_simp; simp only [i64_w]; exact z_)
            refine norm_ (a' := ?_) ?_ ?_
            rotate_left
            · show Act.put _ (some 134) _ = _
              simp only [Act.put, List.setIfInBounds_toArray, List.set_cons_zero, List.set_cons_succ, i64_w, i32_w]
              rfl
            refine pure_ (i := 3) (N := some 135) (v := (.slice (some ⟨g, h2, none⟩) (n - h2) (cx - h2))) #[true, true, true, true, false, false, false, false, false] rfl rfl (any_of HT_.out (by kernel_rfl)) (fun _ _ _ h => h) (Or.inl ⟨by rfl, fun w' => ?_⟩) rfl ?_
            · exact rw_slice_l (vx := .slice (some ⟨g, 0, none⟩) n cx) (vl := .int .i64 (h2 : Int)) Try.underlying23 (by rfl) (by rfl) (by rfl) (CR.out w')
            refine norm_ (a' := ?_) ?_ ?_
            rotate_left
            · show Act.put _ (some 135) _ = _
              simp only [Act.put, List.setIfInBounds_toArray, List.set_cons_zero, List.set_cons_succ, i64_w, i32_w]
              rfl
            refine pure_ (i := 4) (N := some 136) (v := ?_) (a' := ?_) #[true, true, true, true, true, false, false, false, false] rfl rfl (any_of HT_.out (by kernel_rfl)) (fun _ _ _ h => h) (Or.inl ⟨by rfl, ?_⟩) ?_ ?_
            rotate_left
            · intro w'
              go_simp
              with_reducible rfl
            rotate_left
            · simp only [Act.put, List.setIfInBounds_toArray, List.set_cons_zero, List.set_cons_succ, i64_w, i32_w]
              rfl
            refine pure_ (i := 5) (N := some 137) (v := ?_) (a' := ?_) #[true, true, true, true, true, true, false, false, false] rfl rfl (any_of HT_.out (by kernel_rfl)) (fun _ _ _ h => h) (Or.inl ⟨by rfl, ?_⟩) ?_ ?_
            rotate_left
            · intro w'
              go_simp
              with_reducible rfl
            rotate_left
            · simp only [Act.put, List.setIfInBounds_toArray, List.set_cons_zero, List.set_cons_succ, i64_w, i32_w]
              rfl
            refine pure_ (i := 6) (N := some 138) (v := (.slice (some ⟨g, hd', none⟩) (n - hd') (cx - hd'))) #[true, true, true, true, true, true, true, false, false] rfl rfl (any_of HT_.out (by kernel_rfl)) (fun _ _ _ h => h) (Or.inl ⟨by rfl, fun w' => ?_⟩) rfl ?_
            · exact rw_slice_l (vx := .slice (some ⟨g, 0, none⟩) n cx) (vl := .int .i64 (hd' : Int)) Try.underlying23 (by rfl) (by rfl) (by rfl) (CH.out w')
            refine norm_ (a' := ?_) ?_ ?_
            rotate_left
            · show Act.put _ (some 138) _ = _
              simp only [Act.put, List.setIfInBounds_toArray, List.set_cons_zero, List.set_cons_succ, i64_w, i32_w]
              rfl
            refine one_ (i := 7) (N := some 139) #[true, true, true, true, true, true, true, true, false] rfl rfl (one_of HT_.out (by kernel_rfl)) (by decide) (fun K hK => ?_); refine goes_ Try.func90 (by kernel_rfl) rfl #[.slice (some ⟨g, hd', none⟩) (n - hd') (cx - hd')] (by rfl) rfl rfl (by first | rfl | (go_simp; done) | (go_simp; rfl) | (go_simp; decide)) ?_; refine (of_row HRx k hd' (n - hd') (cx - hd') sF (by have := HN.out; omega) (by have := HN.out; omega) (by have := HN.out; omega) HSS.out).mono ?_; rintro ev w83 ⟨rfl, hb⟩; have hb_ := hb; replace HB := mB HB hb_; replace HRx := mR HRx hb_; clear hb_; clear hb; refine ⟨_, rfl, ?_⟩; refine hK.out _ _ trivial (fun hHeld => ?_); clear hK K; refine norm_ (a' := ?_) ?_ ?_
            rotate_left
            · show Act.put _ (some 139) _ = _
              simp only [Act.put, List.setIfInBounds_toArray, List.set_cons_zero, List.set_cons_succ, i64_w, i32_w]
              rfl
            refine one_ (i := 8) (N := some 140) #[true, true, true, true, true, true, true, true, true] rfl rfl (one_of HT_.out (by kernel_rfl)) (by decide) (fun K hK => ?_); refine goes_ Try.func89 (by kernel_rfl) rfl #[.slice (some ⟨g, h2, none⟩) (n - h2) (cx - h2), .int .u16 sF] (by rfl) rfl rfl (by first | rfl | (go_simp; done) | (go_simp; rfl) | (go_simp; decide)) ?_; refine (put2_row HRx HB h2 (n - h2) (cx - h2) sF (by have := HN.out; have := HH2.out; omega) (by have := HN.out; have := HH2.out; omega)).mono ?_; rintro ev w84 ⟨rfl, hr_, hb_, hk_⟩; replace HRx := hr_; replace HB := hb_; clear hr_ hb_ hk_; refine ⟨_, rfl, ?_⟩; refine hK.out _ _ trivial (fun hHeld => ?_); clear hK K; refine norm_ (a' := ?_) ?_ ?_
            rotate_left
            · show Act.put _ (some 140) _ = _
              simp only [Act.put, List.setIfInBounds_toArray, List.set_cons_zero, List.set_cons_succ, i64_w, i32_w]
              rfl
            refine done_ (done_of HT_.out (by kernel_rfl)) ?_; clear HT_ HW_ hHeld
            (try dsimp only)
            go_wp2
            (try simp only [Exit.inBlock, Exit.then])
            go_ret2
            have hR := HRx.out; rw [HRB.out] at hR
            exact ⟨_, rfl, hR, HB.out⟩
  · have ce1 : (e_ == 0) = false := beq_eq_false_iff_ne.2 ce
    have ce2 : (e_ != 0) = true := bne_iff_ne.2 ce; rw [if_neg ce] at H
    have HCE := Aside0.mk ce; clear ce; clear HG; simp only [Option.some.injEq, Prod.mk.injEq] at H
    obtain ⟨rfl, rfl⟩ := H
    (try dsimp only)
    go_wp2
    (try simp only [Exit.inBlock, Exit.then])
    go_ret2
    exact ⟨_, rfl, Kd.R_nil _ _ _ _ _, HB.out⟩
attribute [local go_sem] max2_int min2_int max_two min_two max_three min_three max_four min_four
def lychref1_Put16.f (l0 : List Int) (a1 : Int) : Option (List Int) := (some (([(a1 / 256) % 256, (a1) % 256] : List Int) : List Int)).bind fun y282 => (if l0.length + y282.length < 140737488355328 then (some (l0 ++ y282)) else (none))
theorem lychref1_Put16.calls (P0_ : Nat -> Prop) (u9000_ : Value) (l0 : List Int) (a1 : Int) (r : List Int) (w0 w : World) (hB : Below w0.heap.size w0 w) (ho0 : Kd.R (Kd.int .u8) 5 w w0.heap.size P0_ u9000_ l0) (h : lychref1_Put16.f l0 a1 = some r) :
  Calls Try.prog 83 #[u9000_, .int .u16 a1] w fun e w' => ∃ v0_ : Value, e = .returned (v0_) /\ Kd.R (Kd.int .u8) 5 w' w0.heap.size (fun k_ => (P0_ k_ \/ w.heap.size <= k_)) v0_ r /\ Below w0.heap.size w0 w' /\ Kept w w' (fun k_ => P0_ k_) := by
 have HO0 := Aside0.mk (show Kd.R (Kd.int .u8) 5 w w0.heap.size (fun k_ => (P0_ k_ \/ w.heap.size <= k_)) u9000_ l0 from Kd.R_mono ho0 (fun k_ hk => (.inl hk))); have HK := Aside0.mk (Kept.refl w (fun k_ => P0_ k_)); have HW0 := Aside0.mk hB.size; have HB := Aside0.mk hB; clear hB; have H : ((some (([(a1 / 256) % 256, (a1) % 256] : List Int) : List Int)).bind fun y282 => (if l0.length + y282.length < 140737488355328 then (some (l0 ++ y282)) else (none))) = some r := h; clear h; obtain ⟨y282, hy282⟩ : ∃ y_ : List Int, y_ = (([(a1 / 256) % 256, (a1) % 256] : List Int)) := ⟨_, rfl⟩
 replace H : (if l0.length + y282.length < 140737488355328 then (some (l0 ++ y282)) else (none)) = some r := by first | (rw [hy282]; with_reducible exact H) | (have H2_ := (Option.bind_some _ _).symm.trans H; rw [hy282]; with_reducible exact H2_) | (have H2_ := (Option.bind_some _ _).symm.trans H; with_reducible exact H2_) | with_reducible exact H | (rw [hy282]; exact H) | exact H
 have Ny282 := Aside0.mk hy282; clear hy282
 by_cases c3 : l0.length + y282.length < 140737488355328
 ·rw [if_pos c3] at H
  have LMc3 := Aside0.mk c3; clear c3; obtain ⟨y285, hy285⟩ : ∃ y_ : List Int, y_ = (l0 ++ y282) := ⟨_, rfl⟩
  replace H : (some y285) = some r := by first | (rw [hy285]; with_reducible exact H) | (have H2_ := (Option.bind_some _ _).symm.trans H; rw [hy285]; with_reducible exact H2_) | (have H2_ := (Option.bind_some _ _).symm.trans H; with_reducible exact H2_) | with_reducible exact H | (rw [hy285]; exact H) | exact H
  have Ny285 := Aside0.mk hy285; clear hy285; obtain rfl := Option.some.inj H
  go_enter Try.func83, Try.ntmps83
  go_wp2_with (first | ((with_reducible refine gate_dst (N := 11) rfl ?_); refine Kd.R_lit (Kd.int .u8) _ 5 ?hg (N := 11) ?hd (xs := ([(a1 / 256) % 256, (a1) % 256] : List Int)) (inner := [.int .u8 ((a1 / 256) % 256), .int .u8 ((a1) % 256)]) (ok := fun _ => True) (okp := fun _ => True) ?hr ?hp (fun _ hk => hk) trivial (Below.refl _ _) (Nat.le_refl _) (by simp) ?_; (case hd => rfl); (case hg => rfl); (case hr => first | (go_simp; done) | (go_simp; simp only [IntKind.wrap_u8, IntKind.wrap_u16, IntKind.wrap_u32]; done) | (go_simp; rfl)); (case hp => exact (Reps.one (show Kd.M (Kd.int .u8) _ _ _ ((a1 / 256) % 256) [.int .u8 ((a1 / 256) % 256)] from rfl) (Reps.one (show Kd.M (Kd.int .u8) _ _ _ ((a1) % 256) [.int .u8 ((a1) % 256)] from rfl) (Reps.none _ _)))); intro v283 w4 ho5 hb hg_ hnew_; clear hg_ hnew_; (first | rw [<- Ny282.out] at ho5 | (simp only [Int.reduceToNat] at ho5; rw [<- Ny282.out] at ho5)); have n0_ := Aside0.mk (Kd.R_elder' (Kd.rz HO0) (Kd.R_base ho5) hb); have n1_ := Aside0.mk (Kd.R_lower (Kd.R_new' (Kd.R_newM (M := fun k_ => (P0_ k_ \/ w.heap.size <= k_)) ho5 (by first | exact HK.out.1 | exact (show Kept w _ (fun k_ => P0_ k_) from by repeat (first | (with_reducible first | exact HK.out | apply Kept.alloc | apply Kept.drewN | apply Kept.drew) | exact HK.out)).1) (fun k_ h_ => .inr h_)) (Kd.R_lt (Kd.rz HO0))) (below_size (bz HB))); have n2_ := Aside0.mk (Kept.below (S := (fun k_ => P0_ k_)) (by repeat (first | (with_reducible first | exact HK.out | apply Kept.alloc | apply Kept.drewN | apply Kept.drew) | exact HK.out)) hb); have n3_ := Aside0.mk (below_step (bz HB) hb); clear HO0; clear HK; clear HB; have HO0 := n0_; have HO284 := n1_; have HK := n2_; have HB := n3_; clear n0_ n1_ n2_ n3_; clear hb ho5; obtain ⟨Ao7, co7, eo7⟩ := Kd.R_slice HO284.out; subst eo7) | ((with_reducible refine gate_builtin (b := .append) (xs := #[.tmp 5, .tmp 11]) rfl ?_); at_builtin; refine Kd.R_append_rows (Kd.int .u8) (w0 := w0) w0.heap.size rfl (.tmp 5) (.tmp 11) 23 5 (.int .u8 0) 1 rfl Try.underlying23 info5 rfl (by decide) (by omega) u9000_ l0 y282 _ _ _ (fun k_ => (P0_ k_ \/ w.heap.size <= k_) /\ some k_ ≠ (.slice Ao7 y282.length co7 : Value).ownBlock) (fun _ => False) rfl rfl ?aO ?aR (fun _ _ h => h) (fun _ h => h.elim) ?aF ?aB ?aS ?aL ?_; (case aR => repeat (first | exact (Kd.R_reads' HO284.out).2.2 | (with_reducible refine Kd.C_alloc ?_ _) | (with_reducible refine Kd.C_drewN ?_ _) | (with_reducible refine Kd.C_drew ?_))); (case aB => exact bz HB); (case aF => exact (fun k_ hk => ⟨(.inr (Nat.le_trans (by first | exact HK.out.1 | exact (show Kept w _ (fun k_ => P0_ k_) from by repeat (first | (with_reducible first | exact HK.out | apply Kept.alloc | apply Kept.drewN | apply Kept.drew) | exact HK.out)).1) hk)), Kd.fresh' (Kd.R_lt (Kd.rz HO284)) k_ hk⟩)); (case aO => exact (Kd.rz HO0)); (case aS => exact (below_size (bz HB))); (case aL => have := LMc3.out; omega); intro v286 w6 ho hb hg hat; rw [<- Ny285.out] at ho; have n0_ := Aside0.mk (Kd.R_after (ok := (fun k_ => (P0_ k_ \/ w.heap.size <= k_))) (by (with_reducible repeat (first | apply Kd.R_alloc | apply Kd.R_drewN | apply Kd.R_drew)); exact Kd.R_mono HO284.out (fun _ hk => ⟨hk.1.1, hk.2⟩)) hg hat); have n1_ := Aside0.mk (hb); have n2_ := Aside0.mk (Kept.of_grown (S := (fun k_ => P0_ k_)) hg (by repeat (first | (with_reducible first | exact HK.out | apply Kept.alloc | apply Kept.drewN | apply Kept.drew) | exact HK.out)) (fun k_ e_ => (HO0.out.1 k_ e_).1)); have n3_ := Aside0.mk (ho); clear HO284; clear HB; clear HK; clear HO0; have HO284 := n0_; have HB := n1_; have HK := n2_; have HO287 := n3_; clear n0_ n1_ n2_ n3_; clear ho hb hg hat))
  go_ret
  exact ⟨_, by first | rfl | (simp [errW_none, errW_some] <;> rfl) | (simp [*, errW_none, errW_some] <;> rfl), by (with_reducible repeat (first | apply Kd.R_alloc | apply Kd.R_drewN | apply Kd.R_drew)); exact Kd.R_mono HO287.out (fun _ hk => hk.1), bz HB, by repeat (first | (with_reducible first | exact HK.out | apply Kept.alloc | apply Kept.drewN | apply Kept.drew) | exact HK.out)⟩
 ·rw [if_neg c3] at H
  exact absurd H (by simp)
def lychref1_Put32.f (l0 : List Int) (a1 : Int) : Option (List Int) := (some (([(a1 / 16777216) % 256, (a1 / 65536) % 256, (a1 / 256) % 256, (a1) % 256] : List Int) : List Int)).bind fun y288 => (if l0.length + y288.length < 140737488355328 then (some (l0 ++ y288)) else (none))
theorem lychref1_Put32.calls (P0_ : Nat -> Prop) (u9000_ : Value) (l0 : List Int) (a1 : Int) (r : List Int) (w0 w : World) (hB : Below w0.heap.size w0 w) (ho0 : Kd.R (Kd.int .u8) 5 w w0.heap.size P0_ u9000_ l0) (h : lychref1_Put32.f l0 a1 = some r) :
  Calls Try.prog 84 #[u9000_, .int .u32 a1] w fun e w' => ∃ v0_ : Value, e = .returned (v0_) /\ Kd.R (Kd.int .u8) 5 w' w0.heap.size (fun k_ => (P0_ k_ \/ w.heap.size <= k_)) v0_ r /\ Below w0.heap.size w0 w' /\ Kept w w' (fun k_ => P0_ k_) := by
 have HO0 := Aside0.mk (show Kd.R (Kd.int .u8) 5 w w0.heap.size (fun k_ => (P0_ k_ \/ w.heap.size <= k_)) u9000_ l0 from Kd.R_mono ho0 (fun k_ hk => (.inl hk))); have HK := Aside0.mk (Kept.refl w (fun k_ => P0_ k_)); have HW0 := Aside0.mk hB.size; have HB := Aside0.mk hB; clear hB; have H : ((some (([(a1 / 16777216) % 256, (a1 / 65536) % 256, (a1 / 256) % 256, (a1) % 256] : List Int) : List Int)).bind fun y288 => (if l0.length + y288.length < 140737488355328 then (some (l0 ++ y288)) else (none))) = some r := h; clear h; obtain ⟨y288, hy288⟩ : ∃ y_ : List Int, y_ = (([(a1 / 16777216) % 256, (a1 / 65536) % 256, (a1 / 256) % 256, (a1) % 256] : List Int)) := ⟨_, rfl⟩
 replace H : (if l0.length + y288.length < 140737488355328 then (some (l0 ++ y288)) else (none)) = some r := by first | (rw [hy288]; with_reducible exact H) | (have H2_ := (Option.bind_some _ _).symm.trans H; rw [hy288]; with_reducible exact H2_) | (have H2_ := (Option.bind_some _ _).symm.trans H; with_reducible exact H2_) | with_reducible exact H | (rw [hy288]; exact H) | exact H
 have Ny288 := Aside0.mk hy288; clear hy288
 by_cases c3 : l0.length + y288.length < 140737488355328
 ·rw [if_pos c3] at H
  have LMc3 := Aside0.mk c3; clear c3; obtain ⟨y291, hy291⟩ : ∃ y_ : List Int, y_ = (l0 ++ y288) := ⟨_, rfl⟩
  replace H : (some y291) = some r := by first | (rw [hy291]; with_reducible exact H) | (have H2_ := (Option.bind_some _ _).symm.trans H; rw [hy291]; with_reducible exact H2_) | (have H2_ := (Option.bind_some _ _).symm.trans H; with_reducible exact H2_) | with_reducible exact H | (rw [hy291]; exact H) | exact H
  have Ny291 := Aside0.mk hy291; clear hy291; obtain rfl := Option.some.inj H
  go_enter Try.func84, Try.ntmps84
  go_wp2_with (first | ((with_reducible refine gate_dst (N := 17) rfl ?_); refine Kd.R_lit (Kd.int .u8) _ 5 ?hg (N := 17) ?hd (xs := ([(a1 / 16777216) % 256, (a1 / 65536) % 256, (a1 / 256) % 256, (a1) % 256] : List Int)) (inner := [.int .u8 ((a1 / 16777216) % 256), .int .u8 ((a1 / 65536) % 256), .int .u8 ((a1 / 256) % 256), .int .u8 ((a1) % 256)]) (ok := fun _ => True) (okp := fun _ => True) ?hr ?hp (fun _ hk => hk) trivial (Below.refl _ _) (Nat.le_refl _) (by simp) ?_; (case hd => rfl); (case hg => rfl); (case hr => first | (go_simp; done) | (go_simp; simp only [IntKind.wrap_u8, IntKind.wrap_u16, IntKind.wrap_u32]; done) | (go_simp; rfl)); (case hp => exact (Reps.one (show Kd.M (Kd.int .u8) _ _ _ ((a1 / 16777216) % 256) [.int .u8 ((a1 / 16777216) % 256)] from rfl) (Reps.one (show Kd.M (Kd.int .u8) _ _ _ ((a1 / 65536) % 256) [.int .u8 ((a1 / 65536) % 256)] from rfl) (Reps.one (show Kd.M (Kd.int .u8) _ _ _ ((a1 / 256) % 256) [.int .u8 ((a1 / 256) % 256)] from rfl) (Reps.one (show Kd.M (Kd.int .u8) _ _ _ ((a1) % 256) [.int .u8 ((a1) % 256)] from rfl) (Reps.none _ _)))))); intro v289 w4 ho5 hb hg_ hnew_; clear hg_ hnew_; (first | rw [<- Ny288.out] at ho5 | (simp only [Int.reduceToNat] at ho5; rw [<- Ny288.out] at ho5)); have n0_ := Aside0.mk (Kd.R_elder' (Kd.rz HO0) (Kd.R_base ho5) hb); have n1_ := Aside0.mk (Kd.R_lower (Kd.R_new' (Kd.R_newM (M := fun k_ => (P0_ k_ \/ w.heap.size <= k_)) ho5 (by first | exact HK.out.1 | exact (show Kept w _ (fun k_ => P0_ k_) from by repeat (first | (with_reducible first | exact HK.out | apply Kept.alloc | apply Kept.drewN | apply Kept.drew) | exact HK.out)).1) (fun k_ h_ => .inr h_)) (Kd.R_lt (Kd.rz HO0))) (below_size (bz HB))); have n2_ := Aside0.mk (Kept.below (S := (fun k_ => P0_ k_)) (by repeat (first | (with_reducible first | exact HK.out | apply Kept.alloc | apply Kept.drewN | apply Kept.drew) | exact HK.out)) hb); have n3_ := Aside0.mk (below_step (bz HB) hb); clear HO0; clear HK; clear HB; have HO0 := n0_; have HO290 := n1_; have HK := n2_; have HB := n3_; clear n0_ n1_ n2_ n3_; clear hb ho5; obtain ⟨Ao7, co7, eo7⟩ := Kd.R_slice HO290.out; subst eo7) | ((with_reducible refine gate_builtin (b := .append) (xs := #[.tmp 5, .tmp 17]) rfl ?_); at_builtin; refine Kd.R_append_rows (Kd.int .u8) (w0 := w0) w0.heap.size rfl (.tmp 5) (.tmp 17) 23 5 (.int .u8 0) 1 rfl Try.underlying23 info5 rfl (by decide) (by omega) u9000_ l0 y288 _ _ _ (fun k_ => (P0_ k_ \/ w.heap.size <= k_) /\ some k_ ≠ (.slice Ao7 y288.length co7 : Value).ownBlock) (fun _ => False) rfl rfl ?aO ?aR (fun _ _ h => h) (fun _ h => h.elim) ?aF ?aB ?aS ?aL ?_; (case aR => repeat (first | exact (Kd.R_reads' HO290.out).2.2 | (with_reducible refine Kd.C_alloc ?_ _) | (with_reducible refine Kd.C_drewN ?_ _) | (with_reducible refine Kd.C_drew ?_))); (case aB => exact bz HB); (case aF => exact (fun k_ hk => ⟨(.inr (Nat.le_trans (by first | exact HK.out.1 | exact (show Kept w _ (fun k_ => P0_ k_) from by repeat (first | (with_reducible first | exact HK.out | apply Kept.alloc | apply Kept.drewN | apply Kept.drew) | exact HK.out)).1) hk)), Kd.fresh' (Kd.R_lt (Kd.rz HO290)) k_ hk⟩)); (case aO => exact (Kd.rz HO0)); (case aS => exact (below_size (bz HB))); (case aL => have := LMc3.out; omega); intro v292 w6 ho hb hg hat; rw [<- Ny291.out] at ho; have n0_ := Aside0.mk (Kd.R_after (ok := (fun k_ => (P0_ k_ \/ w.heap.size <= k_))) (by (with_reducible repeat (first | apply Kd.R_alloc | apply Kd.R_drewN | apply Kd.R_drew)); exact Kd.R_mono HO290.out (fun _ hk => ⟨hk.1.1, hk.2⟩)) hg hat); have n1_ := Aside0.mk (hb); have n2_ := Aside0.mk (Kept.of_grown (S := (fun k_ => P0_ k_)) hg (by repeat (first | (with_reducible first | exact HK.out | apply Kept.alloc | apply Kept.drewN | apply Kept.drew) | exact HK.out)) (fun k_ e_ => (HO0.out.1 k_ e_).1)); have n3_ := Aside0.mk (ho); clear HO290; clear HB; clear HK; clear HO0; have HO290 := n0_; have HB := n1_; have HK := n2_; have HO293 := n3_; clear n0_ n1_ n2_ n3_; clear ho hb hg hat))
  go_ret
  exact ⟨_, by first | rfl | (simp [errW_none, errW_some] <;> rfl) | (simp [*, errW_none, errW_some] <;> rfl), by (with_reducible repeat (first | apply Kd.R_alloc | apply Kd.R_drewN | apply Kd.R_drew)); exact Kd.R_mono HO293.out (fun _ hk => hk.1), bz HB, by repeat (first | (with_reducible first | exact HK.out | apply Kept.alloc | apply Kept.drewN | apply Kept.drew) | exact HK.out)⟩
 ·rw [if_neg c3] at H
  exact absurd H (by simp)
def lychref1_Fold.l0 : Nat -> Int -> Option (Int)
 | 0, _ => none
 | k + 1, x0 => if (x0 / 65536) = 0 then (some (IntKind.u16.wrap (x0))) else (lychref1_Fold.l0 k (((x0 / 65536) + (Go.bits .and .u32 x0 65535)) % 4294967296))
def lychref1_Fold.f (k : Nat) (a0 : Int) : Option (Int) := lychref1_Fold.l0 k a0
theorem lychref1_Fold.calls (k : Nat) (a0 : Int) (r : Int) (w : World) (h : lychref1_Fold.f k a0 = some r) :
  Calls Try.prog 79 #[.int .u32 a0] w fun e w' => e = .returned (.int .u16 r) /\ Drawn0 w w' := by
 have H : (lychref1_Fold.l0 k a0) = some r := h; clear h; have H' := Aside0.mk H; clear H
 go_enter Try.func79, Try.ntmps79
 go_wp2
 go_loopg [0] k (fun kq v0 w' => ∃ (x0_1 : Int), v0 = .int .u32 x0_1 /\ Aside0 (lychref1_Fold.l0 kq x0_1 = some r) /\ Aside0 (kq <= k) /\ Drawn0 w w')
 case atStart => exact ⟨(a0), (by first | rfl | (simp; done) | (simp [*]; done)), H', ⟨Nat.le_refl _⟩, by repeat (first | exact Drawn0.refl _ | apply Drawn0.step)⟩
 case round =>
  clear H'; obtain ⟨x0_1, rfl, HA, HK1, ⟨m1, rfl⟩⟩ := hrel
  cases gk with
  | zero => exact absurd HA.out (by simp [lychref1_Fold.l0])
  | succ k1 =>
   have H := HA.out; clear HA; simp only [lychref1_Fold.l0] at H
   by_cases c2 : (x0_1 / 65536) = 0
   ·rw [if_pos c2] at H
    have c2b0 : ((x0_1 / 65536) == 0) = true := beq_iff_eq.mpr c2; have c2b1 : ((x0_1 / 65536) != 0) = false := bne_eq_false_iff_eq.mpr c2; clear c2; obtain rfl := Option.some.inj H
    go_wp2
    go_ret
    exact ⟨by first | rfl | (simp; done) | (simp [*]; done), by repeat (first | exact Drawn0.refl _ | apply Drawn0.step)⟩
   ·rw [if_neg c2] at H
    have c2b0 : ((x0_1 / 65536) == 0) = false := beq_eq_false_iff_ne.mpr c2; have c2b1 : ((x0_1 / 65536) != 0) = true := bne_iff_ne.mpr c2; have H' := Aside0.mk H; clear H
    go_wp2
    go_roundg k1
    case measure => have := HK1.out; omega
    case rel => exact ⟨(((x0_1 / 65536) + (Go.bits .and .u32 x0_1 65535)) % 4294967296), (by first | rfl | (simp; done) | (simp [*]; done)), H', ⟨by have := HK1.out; omega⟩, by repeat (first | exact Drawn0.refl _ | apply Drawn0.step)⟩
def lychref1_Words.l0 : Nat -> List Int -> List Int -> Int -> Option (List Int)
 | 0, _, _, _ => none
 | k + 1, x0, x3, x4 => if x4 < (x0.length : Int) then (if 0 <= x4 then (if (wrap64 (x4 + 1)) < (x0.length : Int) then (if 0 <= (wrap64 (x4 + 1)) then (if x3.length < 70368744177664 then (lychref1_Words.l0 k x0 (x3 ++ [Go.bits .or .u16 (IntKind.u16.wrap ((IntKind.u16.wrap (rd x0 x4)) * 256)) (IntKind.u16.wrap (rd x0 (wrap64 (x4 + 1))))]) (wrap64 (x4 + 2))) else (none)) else (none)) else (if x3.length < 70368744177664 then (lychref1_Words.l0 k x0 (x3 ++ [IntKind.u16.wrap ((IntKind.u16.wrap (rd x0 x4)) * 256)]) (wrap64 (x4 + 2))) else (none))) else (none)) else (some x3)
def lychref1_Words.f (k : Nat) (l0 : List Int) : Option (List Int) := lychref1_Words.l0 k l0 ([] : List Int) 0
theorem lychref1_Words.calls (k : Nat) (A0 : Option Addr) (c0 : Nat) (l0 : List Int) (r : List Int) (w : World) (hr0 : Kd.C (Kd.int .u8) w A0 l0.length l0) (hc0 : l0.length <= c0) (h : lychref1_Words.f k l0 = some r) :
  Calls Try.prog 113 #[.slice A0 l0.length c0] w fun e w' => ∃ v0_ : Value, e = .returned (v0_) /\ Kd.R (Kd.int .u16) 45 w' w.heap.size (fun _ => True) v0_ r /\ Below w.heap.size w w' := by
 have HR0 := Aside0.mk hr0; have HC0 := Aside0.mk hc0; clear hr0 hc0; have HB := Aside0.mk (Below.refl w.heap.size w); have H : (lychref1_Words.l0 k l0 ([] : List Int) 0) = some r := h; clear h; have H' := Aside0.mk H; clear H
 go_enter Try.func113, Try.ntmps113
 go_wp2
 go_loopg [3, 4] k (fun kq v3 v4 w' => ∃ (x3_1 : List Int) (x4_1 : Int), v4 = .int .i64 x4_1 /\ Aside0 (lychref1_Words.l0 kq l0 x3_1 x4_1 = some r) /\ Aside0 (kq <= k) /\ Aside0 (Kd.R (Kd.int .u16) 45 w' w.heap.size (fun _ => True) v3 x3_1) /\ Aside0 (Below w.heap.size w w'))
 case atStart => exact ⟨(([] : List Int)), (0), (by first | rfl | (simp; done) | (simp [*]; done)), H', ⟨Nat.le_refl _⟩, ⟨by first | exact Kd.R_nil _ _ _ _ _ | exact Kd.N_nil _ _ _ _ _ | exact Kd.V_nil _ _ _ _ _ | exact Kd.Q_nil _ _ _ _ _ | exact Kd.S_nil _ _ _ _ _⟩, ⟨bz HB⟩⟩
 case round =>
  clear H'; obtain ⟨x3_1, x4_1, rfl, HA, HK1, HO_3, HB⟩ := hrel
  cases gk with
  | zero => exact absurd HA.out (by simp [lychref1_Words.l0])
  | succ k1 =>
   have H := HA.out; clear HA; simp only [lychref1_Words.l0] at H
   by_cases c2 : x4_1 < (l0.length : Int)
   ·rw [if_pos c2] at H
    have c2b0 : decide (x4_1 < (l0.length : Int)) = true := decide_eq_true c2; clear c2
    by_cases c3 : 0 <= x4_1
    ·rw [if_pos c3] at H
     have c3b0 : decide (0 <= x4_1) = true := decide_eq_true c3; clear c3
     by_cases c4 : (wrap64 (x4_1 + 1)) < (l0.length : Int)
     ·rw [if_pos c4] at H
      have c4b0 : decide ((wrap64 (x4_1 + 1)) < (l0.length : Int)) = true := decide_eq_true c4; clear c4; obtain ⟨ji5, hji5⟩ : ∃ j_ : Int, (wrap64 (x4_1 + 1)) = j_ := ⟨_, rfl⟩
      replace H : (if 0 <= (ji5) then (if x3_1.length < 70368744177664 then (lychref1_Words.l0 k1 l0 (x3_1 ++ [Go.bits .or .u16 (IntKind.u16.wrap ((IntKind.u16.wrap (rd l0 x4_1)) * 256)) (IntKind.u16.wrap (rd l0 (ji5)))]) (wrap64 (x4_1 + 2))) else (none)) else (none)) = some r := by first | (rw [hji5] at H; exact H) | (simp only [hji5] at H |-; exact H)
      (try rw [hji5] at c4b0)
      have hji5w : (IntKind.i64.wrap (x4_1 + 1)) = ji5 := (i64_w _).trans hji5
      by_cases c6 : 0 <= (ji5)
      ·rw [if_pos c6] at H
       have c6b0 : decide (0 <= (ji5)) = true := decide_eq_true c6; clear c6
       by_cases c7 : x3_1.length < 70368744177664
       ·rw [if_pos c7] at H
        have LMc7 := Aside0.mk c7; clear c7; obtain ⟨y296, hy296⟩ : ∃ y_ : List Int, y_ = (x3_1 ++ [Go.bits .or .u16 (IntKind.u16.wrap ((IntKind.u16.wrap (rd l0 x4_1)) * 256)) (IntKind.u16.wrap (rd l0 (ji5)))]) := ⟨_, rfl⟩
        rw [<- hy296] at H
        have Ny296 := Aside0.mk hy296; clear hy296; have H' := Aside0.mk H; clear H; have p294 : 0 <= (x4_1 : Int) := odt; have q294 : x4_1 < (l0.length : Int) := odt; obtain ⟨ad294, e294, hx294_0⟩ := Kd.at_int HR0.out x4_1 p294 q294
        cases e294
        replace hx294_0 := (HB.out.cell (World.block_lt_of_cell? w _ hx294_0)).trans hx294_0; replace p294 := eq_true p294; replace q294 := eq_true q294; have p295 : 0 <= ((ji5) : Int) := odt; have q295 : (ji5) < (l0.length : Int) := odt; obtain ⟨ad295, e295, hx295_0⟩ := Kd.at_int HR0.out (ji5) p295 q295; obtain rfl : ad294 = ad295 := (by injection e295)
        replace hx295_0 := (HB.out.cell (World.block_lt_of_cell? w _ hx295_0)).trans hx295_0; replace p295 := eq_true p295; replace q295 := eq_true q295
        go_wp2_with (first | ((with_reducible refine gate_builtin (b := .append) (xs := #[.tmp 31, .tmp 33]) rfl ?_); at_builtin; refine Kd.R_append (Kd.int .u16) (w0 := w) w.heap.size rfl (.tmp 31) (.tmp 33) 22 45 (.int .u16 0) 2 rfl Try.underlying22 info45 rfl (by decide) (by omega) u3 x3_1 (Go.bits .or .u16 (IntKind.u16.wrap ((IntKind.u16.wrap (rd l0 x4_1)) * 256)) (IntKind.u16.wrap (rd l0 (ji5)))) [.int .u16 (Go.bits .or .u16 (IntKind.u16.wrap ((IntKind.u16.wrap (rd l0 x4_1)) * 256)) (IntKind.u16.wrap (rd l0 (ji5))))] (fun _ => True) (fun _ => False) rfl rfl ?aP (fun _ hk => hk.elim) ?aF ?aO ?aB ?aS ?aL ?_; (case aP => exact rfl); (case aB => exact bz HB); (case aF => exact (fun _ _ => trivial)); (case aO => exact (Kd.rz HO_3)); (case aS => exact (below_size (bz HB))); (case aL => have := LMc7.out; omega); intro v297 w8 ho hb hg hat; rw [<- Ny296.out] at ho; have n0_ := Aside0.mk (hb); have n1_ := Aside0.mk (ho); clear HB; clear HO_3; have HB := n0_; have HO298 := n1_; clear n0_ n1_; clear ho hb hg hat))
        go_roundg k1
        case measure => have := HK1.out; omega
        case rel => exact ⟨(y296), (wrap64 (x4_1 + 2)), (by first | rfl | (simp; done) | (simp [*]; done)), H', ⟨by have := HK1.out; omega⟩, ⟨Kd.rz HO298⟩, ⟨bz HB⟩⟩
       ·rw [if_neg c7] at H
        exact absurd H (by simp)
      ·rw [if_neg c6] at H
       exact absurd H (by simp)
     ·rw [if_neg c4] at H
      have c4b0 : decide ((wrap64 (x4_1 + 1)) < (l0.length : Int)) = false := decide_eq_false c4; clear c4
      by_cases c9 : x3_1.length < 70368744177664
      ·rw [if_pos c9] at H
       have LMc9 := Aside0.mk c9; clear c9; obtain ⟨y299, hy299⟩ : ∃ y_ : List Int, y_ = (x3_1 ++ [IntKind.u16.wrap ((IntKind.u16.wrap (rd l0 x4_1)) * 256)]) := ⟨_, rfl⟩
       rw [<- hy299] at H
       have Ny299 := Aside0.mk hy299; clear hy299; have H' := Aside0.mk H; clear H; have p294 : 0 <= (x4_1 : Int) := odt; have q294 : x4_1 < (l0.length : Int) := odt; obtain ⟨ad294, e294, hx294_0⟩ := Kd.at_int HR0.out x4_1 p294 q294
       cases e294
       replace hx294_0 := (HB.out.cell (World.block_lt_of_cell? w _ hx294_0)).trans hx294_0; replace p294 := eq_true p294; replace q294 := eq_true q294
       go_wp2_with (first | ((with_reducible refine gate_builtin (b := .append) (xs := #[.tmp 31, .tmp 33]) rfl ?_); at_builtin; refine Kd.R_append (Kd.int .u16) (w0 := w) w.heap.size rfl (.tmp 31) (.tmp 33) 22 45 (.int .u16 0) 2 rfl Try.underlying22 info45 rfl (by decide) (by omega) u3 x3_1 (IntKind.u16.wrap ((IntKind.u16.wrap (rd l0 x4_1)) * 256)) [.int .u16 (IntKind.u16.wrap ((IntKind.u16.wrap (rd l0 x4_1)) * 256))] (fun _ => True) (fun _ => False) rfl rfl ?aP (fun _ hk => hk.elim) ?aF ?aO ?aB ?aS ?aL ?_; (case aP => exact rfl); (case aB => exact bz HB); (case aF => exact (fun _ _ => trivial)); (case aO => exact (Kd.rz HO_3)); (case aS => exact (below_size (bz HB))); (case aL => have := LMc9.out; omega); intro v300 w10 ho hb hg hat; rw [<- Ny299.out] at ho; have n0_ := Aside0.mk (hb); have n1_ := Aside0.mk (ho); clear HB; clear HO_3; have HB := n0_; have HO301 := n1_; clear n0_ n1_; clear ho hb hg hat))
       go_roundg k1
       case measure => have := HK1.out; omega
       case rel => exact ⟨(y299), (wrap64 (x4_1 + 2)), (by first | rfl | (simp; done) | (simp [*]; done)), H', ⟨by have := HK1.out; omega⟩, ⟨Kd.rz HO301⟩, ⟨bz HB⟩⟩
      ·rw [if_neg c9] at H
       exact absurd H (by simp)
    ·rw [if_neg c3] at H
     exact absurd H (by simp)
   ·rw [if_neg c2] at H
    have c2b0 : decide (x4_1 < (l0.length : Int)) = false := decide_eq_false c2; clear c2; obtain rfl := Option.some.inj H
    go_wp2
    go_ret
    exact ⟨_, by first | rfl | (simp [errW_none, errW_some] <;> rfl) | (simp [*, errW_none, errW_some] <;> rfl), by (with_reducible repeat (first | apply Kd.R_alloc | apply Kd.R_drewN | apply Kd.R_drew)); exact HO_3.out, bz HB⟩
def lychref1_Add.l0 : Nat -> Int -> List Int -> Int -> Option (Int)
 | 0, _, _, _ => none
 | k + 1, x5, x6, x7 => if x7 < (x6.length : Int) then (if 0 <= x7 then (if (IntKind.u64.wrap (x5 + (IntKind.u64.wrap (rd x6 x7)))) > 4294967295 then (lychref1_Add.l0 k (IntKind.u64.wrap ((IntKind.u64.wrap ((IntKind.u64.wrap (x5 + (IntKind.u64.wrap (rd x6 x7)))) - 4294967296)) + 1)) x6 (wrap64 (x7 + 1))) else (lychref1_Add.l0 k (IntKind.u64.wrap (x5 + (IntKind.u64.wrap (rd x6 x7)))) x6 (wrap64 (x7 + 1)))) else (none)) else (some ((x5) % 4294967296))
def lychref1_Add.f (k : Nat) (a0 : Int) (l1 : List Int) : Option (Int) := (lychref1_Words.f k l1).bind fun t302 => (lychref1_Add.l0 k (IntKind.u64.wrap (a0)) t302 0)
theorem lychref1_Add.calls (k : Nat) (a0 : Int) (A1 : Option Addr) (c1 : Nat) (l1 : List Int) (r : Int) (w : World) (hr1 : Kd.C (Kd.int .u8) w A1 l1.length l1) (hc1 : l1.length <= c1) (h : lychref1_Add.f k a0 l1 = some r) :
  Calls Try.prog 80 #[.int .u32 a0, .slice A1 l1.length c1] w fun e w' => e = .returned (.int .u32 r) /\ Below w.heap.size w w' := by
 have HR1 := Aside0.mk hr1; have HC1 := Aside0.mk hc1; clear hr1 hc1; have HB := Aside0.mk (Below.refl w.heap.size w); have H : ((lychref1_Words.f k l1).bind fun t302 => (lychref1_Add.l0 k (IntKind.u64.wrap (a0)) t302 0)) = some r := h; clear h; replace H := Option.bind_eq_some_iff.mp H; obtain ⟨t302, A30, H⟩ := H
 (try dsimp -simprocs only at H)
 have A3 := Aside0.mk A30; clear A30; have H' := Aside0.mk H; clear H
 go_enter Try.func80, Try.ntmps80
 go_wp2_with (first | ((with_reducible refine gate_callee (f := 113) rfl ?_); refine gL 11 Try.func113 #[.slice A1 l1.length c1] ?_; (with_reducible refine (lychref1_Words.calls k _ _ l1 t302 _ ?side1 ?side2 A3.out).mono ?_); (case side1 => repeat (first | exact HR1.out | (with_reducible refine Kd.C_alloc ?_ _) | (with_reducible refine Kd.C_drewN ?_ _) | (with_reducible refine Kd.C_drew ?_))); (case side2 => exact HC1.out); rintro e w4 ⟨v303, rfl, ho0, hb⟩; refine ⟨_, rfl, ?_⟩; have n0_ := Aside0.mk (Kd.R_lower ho0 (below_size (bz HB))); have n1_ := Aside0.mk (below_step (bz HB) hb); clear HB; have HO304 := n0_; have HB := n1_; clear n0_ n1_; (try clear hb); (try clear hb2); (try clear hk); (try clear hi); (try clear ho0)))
 go_loopg [5, 7] k (fun kq v5 v7 w' => ∃ (x5_1 : Int) (x7_1 : Int), v5 = .int .u64 x5_1 /\ v7 = .int .i64 x7_1 /\ Aside0 (lychref1_Add.l0 kq x5_1 t302 x7_1 = some r) /\ Aside0 (kq <= k) /\ Aside0 (Kd.R (Kd.int .u16) 45 w' w.heap.size (fun _ => True) v303 t302) /\ Aside0 (Below w.heap.size w w'))
 case atStart => exact ⟨(IntKind.u64.wrap (a0)), (0), (by first | rfl | (simp; done) | (simp [*]; done)), (by first | rfl | (simp; done) | (simp [*]; done)), H', ⟨Nat.le_refl _⟩, ⟨Kd.rz HO304⟩, ⟨bz HB⟩⟩
 case round =>
  clear H'
  try clear c1
  obtain ⟨x5_1, x7_1, rfl, rfl, HA, HK1, HO_6, HB⟩ := hrel
  cases gk with
  | zero => exact absurd HA.out (by simp [lychref1_Add.l0])
  | succ k1 =>
   have H := HA.out; clear HA; simp only [lychref1_Add.l0] at H
   by_cases c5 : x7_1 < (t302.length : Int)
   ·rw [if_pos c5] at H
    have c5b0 : decide (x7_1 < (t302.length : Int)) = true := decide_eq_true c5; clear c5
    by_cases c6 : 0 <= x7_1
    ·rw [if_pos c6] at H
     have c6b0 : decide (0 <= x7_1) = true := decide_eq_true c6; clear c6
     by_cases c7 : (IntKind.u64.wrap (x5_1 + (IntKind.u64.wrap (rd t302 x7_1)))) > 4294967295
     ·rw [if_pos c7] at H
      have c7b0 : decide (4294967295 < (IntKind.u64.wrap (x5_1 + (IntKind.u64.wrap (rd t302 x7_1))))) = true := decide_eq_true c7; clear c7; have H' := Aside0.mk H; clear H; obtain ⟨Ao8, co8, eo8⟩ := Kd.R_slice HO_6.out; subst eo8; have p305 : 0 <= (x7_1 : Int) := odt; have q305 : x7_1 < (t302.length : Int) := odt; obtain ⟨ad305, e305, hx305_0⟩ := Kd.at_int (Kd.R_reads' HO_6.out).2.2 x7_1 p305 q305
      cases e305
      replace p305 := eq_true p305; replace q305 := eq_true q305
      go_wp2
      go_roundg k1
      case measure => have := HK1.out; omega
      case rel => exact ⟨(IntKind.u64.wrap ((IntKind.u64.wrap ((IntKind.u64.wrap (x5_1 + (IntKind.u64.wrap (rd t302 x7_1)))) - 4294967296)) + 1)), (wrap64 (x7_1 + 1)), (by first | rfl | (simp; done) | (simp [*]; done)), (by first | rfl | (simp; done) | (simp [*]; done)), H', ⟨by have := HK1.out; omega⟩, ⟨Kd.rz HO_6⟩, ⟨bz HB⟩⟩
     ·rw [if_neg c7] at H
      have c7b0 : decide (4294967295 < (IntKind.u64.wrap (x5_1 + (IntKind.u64.wrap (rd t302 x7_1))))) = false := decide_eq_false c7; clear c7; have H' := Aside0.mk H; clear H; obtain ⟨Ao9, co9, eo9⟩ := Kd.R_slice HO_6.out; subst eo9; have p305 : 0 <= (x7_1 : Int) := odt; have q305 : x7_1 < (t302.length : Int) := odt; obtain ⟨ad305, e305, hx305_0⟩ := Kd.at_int (Kd.R_reads' HO_6.out).2.2 x7_1 p305 q305
      cases e305
      replace p305 := eq_true p305; replace q305 := eq_true q305
      go_wp2
      go_roundg k1
      case measure => have := HK1.out; omega
      case rel => exact ⟨(IntKind.u64.wrap (x5_1 + (IntKind.u64.wrap (rd t302 x7_1)))), (wrap64 (x7_1 + 1)), (by first | rfl | (simp; done) | (simp [*]; done)), (by first | rfl | (simp; done) | (simp [*]; done)), H', ⟨by have := HK1.out; omega⟩, ⟨Kd.rz HO_6⟩, ⟨bz HB⟩⟩
    ·rw [if_neg c6] at H
     exact absurd H (by simp)
   ·rw [if_neg c5] at H
    have c5b0 : decide (x7_1 < (t302.length : Int)) = false := decide_eq_false c5; clear c5; obtain rfl := Option.some.inj H; obtain ⟨Ao10, co10, eo10⟩ := Kd.R_slice HO_6.out; subst eo10
    go_wp2
    go_ret
    exact ⟨by first | rfl | (simp [errW_none, errW_some] <;> rfl) | (simp [*, errW_none, errW_some] <;> rfl), bz HB⟩
def lychref1_Of.f (k : Nat) (l0 : List Int) : Option (Int) := (lychref1_Add.f k 0 l0).bind fun t306 => ((lychref1_Fold.f k t306).bind fun t307 => (some (Go.bits .xor .u16 IntKind.u16.max t307)))
theorem lychref1_Of.calls (k : Nat) (A0 : Option Addr) (c0 : Nat) (l0 : List Int) (r : Int) (w : World) (hr0 : Kd.C (Kd.int .u8) w A0 l0.length l0) (hc0 : l0.length <= c0) (h : lychref1_Of.f k l0 = some r) :
  Calls Try.prog 85 #[.slice A0 l0.length c0] w fun e w' => e = .returned (.int .u16 r) /\ Below w.heap.size w w' := by
 have hsg_u16 : IntKind.u16.signed = false := rfl; have HR0 := Aside0.mk hr0; have HC0 := Aside0.mk hc0; clear hr0 hc0; have HB := Aside0.mk (Below.refl w.heap.size w); have H : ((lychref1_Add.f k 0 l0).bind fun t306 => ((lychref1_Fold.f k t306).bind fun t307 => (some (Go.bits .xor .u16 IntKind.u16.max t307)))) = some r := h; clear h; replace H := Option.bind_eq_some_iff.mp H; obtain ⟨t306, A20, H⟩ := H
 (try dsimp -simprocs only at H)
 have A2 := Aside0.mk A20; clear A20; replace H := Option.bind_eq_some_iff.mp H; obtain ⟨t307, A30, H⟩ := H
 (try dsimp -simprocs only at H)
 have A3 := Aside0.mk A30; clear A30; obtain rfl := Option.some.inj H
 go_enter Try.func85, Try.ntmps85
 go_wp2_with (first | ((with_reducible refine gate_callee (f := 80) rfl ?_); refine gL 4 Try.func80 #[.int .u32 0, .slice A0 l0.length c0] ?_; (with_reducible refine (lychref1_Add.calls k 0 _ _ l0 t306 _ ?side1 ?side2 A2.out).mono ?_); (case side1 => repeat (first | exact HR0.out | (with_reducible refine Kd.C_alloc ?_ _) | (with_reducible refine Kd.C_drewN ?_ _) | (with_reducible refine Kd.C_drew ?_))); (case side2 => exact HC0.out); rintro e w4 ⟨rfl, hb⟩; refine ⟨_, rfl, ?_⟩; have n0_ := Aside0.mk (below_step (bz HB) hb); clear HB; have HB := n0_; clear n0_; (try clear hb); (try clear hb2); (try clear hk); (try clear hi)) | ((with_reducible refine gate_callee (f := 79) rfl ?_); refine gL 5 Try.func79 #[.int .u32 t306] ?_; (with_reducible refine (lychref1_Fold.calls k t306 t307 _ A3.out).mono ?_); rintro e w' ⟨rfl, ⟨nd, rfl⟩⟩; refine ⟨_, rfl, ?_⟩))
 go_ret
 exact ⟨by first | rfl | (simp [errW_none, errW_some] <;> rfl) | (simp [*, errW_none, errW_some] <;> rfl), bz HB⟩
attribute [local go_sem] max2_int min2_int max_two min_two max_three min_three max_four min_four
def lychref1_UdpBytes.f (a0_0 : Int) (a0_1 : Int) (a0_2 : Int) (l0_3 : List Int) : Option (List Int × Int) := if (l0_3.length : Int) > 65527 then (some (([] : List Int), 23)) else ((lychref1_Put16.f ([] : List Int) a0_0).bind fun t352 => ((lychref1_Put16.f t352 a0_1).bind fun t355 => ((lychref1_Put16.f t355 (IntKind.u16.wrap (wrap64 (8 + (l0_3.length : Int))))).bind fun t358 => ((lychref1_Put16.f t358 a0_2).bind fun t361 => (if t361.length + l0_3.length < 140737488355328 then (some ((t361 ++ l0_3), 0)) else (none))))))
def lychref1_UdpBytes.T4 : Bool × List (List Nat × List Nat) := (true, [([], []), ([], []), ([1], [1]), ([2], [2]), ([3], [3]), ([4], [4]), ([0, 5], [0, 5]), ([], []), ([7], [7]), ([6, 8, 6], [6, 8]), ([9, 9, 0, 1, 2, 3, 4, 5, 6, 7, 8, 9], [0, 9])])
def lychref1_UdpBytes.B4 : List Nat := [0, 0, 2, 6, 14, 30, 63, 0, 128, 511, 1023]
theorem lychref1_UdpBytes.tab4 : rtab .any (opsOf Try.f48 4) = lychref1_UdpBytes.T4 := by kernel_rfl
theorem lychref1_UdpBytes.bits4 : waitsOk lychref1_UdpBytes.T4.2 lychref1_UdpBytes.B4 = true := by kernel_rfl
theorem lychref1_UdpBytes.calls (a0_0 : Int) (a0_1 : Int) (a0_2 : Int) (A0_3 : Option Addr) (c0_3 : Nat) (l0_3 : List Int) (r1 : List Int) (r2 : Int) (w : World) (hr0_3 : Kd.C (Kd.int .u8) w A0_3 l0_3.length l0_3) (hc0_3 : l0_3.length <= c0_3) (h : lychref1_UdpBytes.f a0_0 a0_1 a0_2 l0_3 = some (r1, r2)) :
  Calls Try.prog 48 #[.agg #[.int .u16 a0_0, .int .u16 a0_1, .int .u16 a0_2, .slice A0_3 l0_3.length c0_3]] w fun e w' => ∃ v0_ : Value, e = .returned (.tuple #[v0_, .int .i64 r2]) /\ Kd.R (Kd.int .u8) 5 w' w.heap.size (fun _ => True) v0_ r1 /\ Below w.heap.size w w' := by
 have hu83 := Try.underlying83; have HR0_3 := Aside0.mk hr0_3; have HC0_3 := Aside0.mk hc0_3; clear hr0_3 hc0_3; have HB := Aside0.mk (Below.refl w.heap.size w); have H : (if (l0_3.length : Int) > 65527 then (some (([] : List Int), 23)) else ((lychref1_Put16.f ([] : List Int) a0_0).bind fun t352 => ((lychref1_Put16.f t352 a0_1).bind fun t355 => ((lychref1_Put16.f t355 (IntKind.u16.wrap (wrap64 (8 + (l0_3.length : Int))))).bind fun t358 => ((lychref1_Put16.f t358 a0_2).bind fun t361 => (if t361.length + l0_3.length < 140737488355328 then (some ((t361 ++ l0_3), 0)) else (none))))))) = some (r1, r2) := h; clear h
 by_cases c2 : (l0_3.length : Int) > 65527
 ·rw [if_pos c2] at H
  have c2b0 : decide (65527 < (l0_3.length : Int)) = true := decide_eq_true c2; have c2b1 : decide (65527 < l0_3.length) = true := decide_eq_true (by omega); clear c2; simp only [Option.some.injEq, Prod.mk.injEq] at H
  obtain ⟨rfl, rfl⟩ := H
  go_enter Try.func48, Try.ntmps48
  go_wp2_with (first | ((with_reducible refine gate_dst (N := 1) rfl ?_); refine box_event ?hg (N := 1) ?hd (cs := #[.int .u16 a0_0, .int .u16 a0_1, .int .u16 a0_2, .slice A0_3 l0_3.length c0_3]) (t := 83) ?hr ?_; (case hd => rfl); (case hg => rfl); (case hr => first | (go_simp; done) | (go_simp; rfl)); intro gb351 hg w3 hbox hb; have n0_ := Aside0.mk (below_step (bz HB) hb); have n1_ := Aside0.mk (hbox); have n2_ := Aside0.mk ((by rw [hg]; exact (below_size (bz HB)) : w.heap.size <= gb351)); have n3_ := Aside0.mk ((by rw [hg]; exact (below_size (bz HB)) : w.heap.size <= gb351)); clear HB; have HB := n0_; have BK351 := n1_; have GW351 := n2_; have GE351 := n3_; clear n0_ n1_ n2_ n3_; clear hb hbox hg; have hcz4_0 : w3.cell? ⟨gb351, 0, none⟩ = some (.int .u16 a0_0) := cz BK351.out 0 rfl; have hcz4_1 : w3.cell? ⟨gb351, 1, none⟩ = some (.int .u16 a0_1) := cz BK351.out 1 rfl; have hcz4_2 : w3.cell? ⟨gb351, 2, none⟩ = some (.int .u16 a0_2) := cz BK351.out 2 rfl; have hcz4_3 : w3.cell? ⟨gb351, 3, none⟩ = some (.slice A0_3 l0_3.length c0_3) := cz BK351.out 3 rfl; have hfz4_0 := blk_frozen BK351.out 0; have hfz4_1 := blk_frozen BK351.out 1; have hfz4_2 := blk_frozen BK351.out 2; have hfz4_3 := blk_frozen BK351.out 3))
  go_ret2
  exact ⟨_, by first | rfl | (simp [errW_none, errW_some] <;> rfl) | (simp [*, errW_none, errW_some] <;> rfl), by first | exact Kd.R_nil _ _ _ _ _ | exact Kd.N_nil _ _ _ _ _ | exact Kd.V_nil _ _ _ _ _ | exact Kd.Q_nil _ _ _ _ _ | exact Kd.S_nil _ _ _ _ _, bz HB⟩
 ·rw [if_neg c2] at H
  have c2b0 : decide (65527 < (l0_3.length : Int)) = false := decide_eq_false c2; have c2b1 : decide (65527 < l0_3.length) = false := decide_eq_false (by omega); clear c2; replace H := Option.bind_eq_some_iff.mp H; obtain ⟨t352, A50, H⟩ := H
  (try dsimp -simprocs only at H)
  have A5 := Aside0.mk A50; clear A50; replace H := Option.bind_eq_some_iff.mp H; obtain ⟨t355, A60, H⟩ := H
  (try dsimp -simprocs only at H)
  have A6 := Aside0.mk A60; clear A60; replace H := Option.bind_eq_some_iff.mp H; obtain ⟨t358, A70, H⟩ := H
  (try dsimp -simprocs only at H)
  have A7 := Aside0.mk A70; clear A70; replace H := Option.bind_eq_some_iff.mp H; obtain ⟨t361, A80, H⟩ := H
  (try dsimp -simprocs only at H)
  have A8 := Aside0.mk A80; clear A80
  by_cases c9 : t361.length + l0_3.length < 140737488355328
  ·rw [if_pos c9] at H
   have LMc9 := Aside0.mk c9; clear c9; obtain ⟨y364, hy364⟩ : ∃ y_ : List Int, y_ = (t361 ++ l0_3) := ⟨_, rfl⟩
   rw [<- hy364] at H
   have Ny364 := Aside0.mk hy364; clear hy364; simp only [Option.some.injEq, Prod.mk.injEq] at H
   obtain ⟨rfl, rfl⟩ := H
   go_enter Try.func48, Try.ntmps48
   try go_wp2_with (first | ((with_reducible refine gate_dst (N := 1) rfl ?_); refine box_event ?hg (N := 1) ?hd (cs := #[.int .u16 a0_0, .int .u16 a0_1, .int .u16 a0_2, .slice A0_3 l0_3.length c0_3]) (t := 83) ?hr ?_; (case hd => rfl); (case hg => rfl); (case hr => first | (go_simp; done) | (go_simp; rfl)); intro gb351 hg w10 hbox hb; have n0_ := Aside0.mk (below_step (bz HB) hb); have n1_ := Aside0.mk (hbox); have n2_ := Aside0.mk ((by rw [hg]; exact (below_size (bz HB)) : w.heap.size <= gb351)); have n3_ := Aside0.mk ((by rw [hg]; exact (below_size (bz HB)) : w.heap.size <= gb351)); clear HB; have HB := n0_; have BK351 := n1_; have GW351 := n2_; have GE351 := n3_; clear n0_ n1_ n2_ n3_; clear hb hbox hg; have hcz11_0 : w10.cell? ⟨gb351, 0, none⟩ = some (.int .u16 a0_0) := cz BK351.out 0 rfl; have hcz11_1 : w10.cell? ⟨gb351, 1, none⟩ = some (.int .u16 a0_1) := cz BK351.out 1 rfl; have hcz11_2 : w10.cell? ⟨gb351, 2, none⟩ = some (.int .u16 a0_2) := cz BK351.out 2 rfl; have hcz11_3 : w10.cell? ⟨gb351, 3, none⟩ = some (.slice A0_3 l0_3.length c0_3) := cz BK351.out 3 rfl; have hfz11_0 := blk_frozen BK351.out 0; have hfz11_1 := blk_frozen BK351.out 1; have hfz11_2 := blk_frozen BK351.out 2; have hfz11_3 := blk_frozen BK351.out 3))
   have n0_ := Aside0.mk (blk_drew BK351.out); have n1_ := Aside0.mk (below_drew1 HB.out); clear BK351; clear HB; have BK351 := n0_; have HB := n1_; clear n0_ n1_; refine start_ (n := 7) (S := fun w' => w'.cell? ⟨gb351, 0, none⟩ = some (.int .u16 a0_0) /\ w'.cell? ⟨gb351, 1, none⟩ = some (.int .u16 a0_1) /\ w'.cell? ⟨gb351, 2, none⟩ = some (.int .u16 a0_2) /\ w'.cell? ⟨gb351, 3, none⟩ = some (.slice A0_3 l0_3.length c0_3)) (ds := []) #[false, false, false, false, false, false, false] (by kernel_rfl) rfl rfl ⟨cz BK351.out 0 rfl, cz BK351.out 1 rfl, cz BK351.out 2 rfl, cz BK351.out 3 rfl⟩ (fun hHeld => ?_); generalize w10.drew = w12 at BK351 HB hHeld |-
   refine pure_ (i := 0) (N := some 9) (v := ?_) (a' := ?_) #[true, false, false, false, false, false, false] rfl rfl (by kernel_rfl) (fun _ _ _ h => h) (Or.inl ⟨by rfl, ?_⟩) ?_ ?_
   rotate_left
   ·intro w'
    go_simp
    with_reducible rfl
   rotate_left
   ·simp only [ps_]
    rfl
   refine pure_ (i := 3) (N := some 12) (v := ?_) (a' := ?_) #[true, false, false, true, false, false, false] rfl rfl (by kernel_rfl) (fun _ _ _ h => h) (Or.inl ⟨by rfl, ?_⟩) ?_ ?_
   rotate_left
   ·intro w'
    go_simp
    with_reducible rfl
   rotate_left
   ·simp only [ps_]
    rfl
   refine take_ (i := 1) (N := some 10) (v := ?_) (a' := ?_) #[true, true, false, true, false, false, false] rfl rfl (by kernel_rfl) (fun _ _ _ h => h) (Or.inl ⟨by rfl, ?_⟩) hHeld ?_ ?_
   rotate_left
   ·rintro w' ⟨s0, s1, s2, s3⟩
    go_simp
    with_reducible rfl
   rotate_left
   ·simp only [ps_]
    rfl
   refine take_ (i := 4) (N := some 13) (v := ?_) (a' := ?_) #[true, true, false, true, true, false, false] rfl rfl (by kernel_rfl) (fun _ _ _ h => h) (Or.inl ⟨by rfl, ?_⟩) hHeld ?_ ?_
   rotate_left
   ·rintro w' ⟨s0, s1, s2, s3⟩
    go_simp
    with_reducible rfl
   rotate_left
   ·simp only [ps_]
    rfl
   refine one_ (i := 2) (N := some 11) #[true, true, true, true, true, false, false] rfl rfl (by kernel_rfl) (by decide) (fun K hK => ?_); refine gG Try.func83 #[.slice none 0 0, .int .u16 a0_0] ?_; refine (lychref1_Put16.calls (fun k_ => some k_ = (.slice none 0 0 : Value).ownBlock) (.slice none 0 0) ([] : List Int) a0_0 t352 w _ ?side1 ?side2 A5.out).mono ?_
   (case side1 => exact bz HB)
   (case side2 => exact Kd.R_nil _ _ _ _ _)
   rintro e w13 ⟨v353, rfl, ho0, hb, hkp⟩; refine ⟨_, rfl, ?_⟩; have n0_ := Aside0.mk (blk_kept (kz BK351) hkp (fun hs_ => (fun e_ => by simp [Value.ownBlock] at e_) hs_)); have n1_ := Aside0.mk (Kd.R_mono (ok' := fun k_ => True) ho0 (fun k_ hk_ => trivial)); have n2_ := Aside0.mk (hb); clear BK351; clear HB; have BK351 := n0_; have HO354 := n1_; have HB := n2_; clear n0_ n1_ n2_
   (try clear hb)
   (try clear hkp)
   (try clear ho0)
   obtain ⟨Ao14, co14, eo14⟩ := Kd.R_slice HO354.out
   (first | subst eo14 | (injection eo14 with f1_ f2_ f3_; have f4_ := f1_.symm; have f5_ := f3_.symm; clear f1_ f2_ f3_; subst f4_; subst f5_))
   refine hK.out _ _ ⟨cz BK351.out 0 rfl, cz BK351.out 1 rfl, cz BK351.out 2 rfl, cz BK351.out 3 rfl⟩ (fun hHeld => ?_); clear hK K; refine nz 11 ?_; refine one_ (i := 5) (N := some 14) #[true, true, true, true, true, true, false] rfl rfl (by kernel_rfl) (by decide) (fun K hK => ?_); refine gG Try.func83 #[.slice Ao14 t352.length co14, .int .u16 a0_1] ?_
   with_reducible refine (lychref1_Put16.calls (fun k_ => some k_ = (.slice Ao14 t352.length co14 : Value).ownBlock) (.slice Ao14 t352.length co14) t352 a0_1 t355 w _ ?side1 ?side2 A6.out).mono ?_
   (case side1 => exact bz HB)
   (case side2 => exact Kd.R_tight rfl HO354.out)
   rintro e w15 ⟨v356, rfl, ho0, hb, hkp⟩; refine ⟨_, rfl, ?_⟩; have n0_ := Aside0.mk (blk_kept (kz BK351) hkp (fun hs_ => (fun e_ => (Kd.R_ne HO354.out BK351.out (by decide)) e_) hs_)); have n1_ := Aside0.mk (Kd.R_mono (ok' := fun k_ => True) ho0 (fun k_ hk_ => trivial)); have n2_ := Aside0.mk (hb); clear BK351; clear HB; clear HO354; have BK351 := n0_; have HO357 := n1_; have HB := n2_; clear n0_ n1_ n2_
   (try clear hb)
   (try clear hkp)
   (try clear ho0)
   refine hK.out _ _ ⟨cz BK351.out 0 rfl, cz BK351.out 1 rfl, cz BK351.out 2 rfl, cz BK351.out 3 rfl⟩ (fun hHeld => ?_); clear hK K; refine nz 14 ?_; refine pure_ (i := 6) (N := some 4) (v := ?_) (a' := ?_) #[true, true, true, true, true, true, true] rfl rfl (by kernel_rfl) (fun _ _ _ h => h) (Or.inl ⟨by rfl, ?_⟩) ?_ ?_
   rotate_left
   ·intro w'
    go_simp
    with_reducible rfl
   rotate_left
   ·simp only [ps_]
    rfl
   refine done_ (by kernel_rfl) ?_
   try go_wp2
   have n0_ := Aside0.mk (Kd.R_drew HO357.out); have n1_ := Aside0.mk (blk_drew BK351.out); have n2_ := Aside0.mk (below_drew1 HB.out); clear HO357; clear BK351; clear HB; have HO357 := n0_; have BK351 := n1_; have HB := n2_; clear n0_ n1_ n2_; obtain ⟨Ao17, co17, eo17⟩ := Kd.R_slice HO357.out
   (first | subst eo17 | (injection eo17 with f1_ f2_ f3_; have f4_ := f1_.symm; have f5_ := f3_.symm; clear f1_ f2_ f3_; subst f4_; subst f5_))
   refine start_ (n := 11) (S := fun w' => w'.cell? ⟨gb351, 0, none⟩ = some (.int .u16 a0_0) /\ w'.cell? ⟨gb351, 1, none⟩ = some (.int .u16 a0_1) /\ w'.cell? ⟨gb351, 2, none⟩ = some (.int .u16 a0_2) /\ w'.cell? ⟨gb351, 3, none⟩ = some (.slice A0_3 l0_3.length c0_3)) (ds := []) #[false, false, false, false, false, false, false, false, false, false, false] (by kernel_rfl) rfl rfl ⟨cz BK351.out 0 rfl, cz BK351.out 1 rfl, cz BK351.out 2 rfl, cz BK351.out 3 rfl⟩ (fun hHeld => ?_); refine with_tabW lychref1_UdpBytes.tab4 lychref1_UdpBytes.bits4 (fun HT_ HW_ => ?_); generalize w15.drew = w16 at HO357 BK351 HB hHeld |-
   refine pz 0 15 HT_ ?_; refine pz 1 16 HT_ ?_; refine pz 7 22 HT_ ?_; refine take_ (i := 2) (N := some 17) (v := ?_) (a' := ?_) #[true, true, true, false, false, false, false, true, false, false, false] rfl rfl (take_ofW HT_.out HW_.out (by kernel_rfl)) (fun _ _ _ h => h) (Or.inl ⟨by rfl, ?_⟩) hHeld ?_ ?_
   rotate_left
   ·rintro w' ⟨s0, s1, s2, s3⟩
    go_simp
    with_reducible rfl
   rotate_left
   ·simp only [ps_]
    rfl
   refine pz 3 18 HT_ ?_; refine pz 4 19 HT_ ?_; refine pz 5 20 HT_ ?_; refine take_ (i := 8) (N := some 23) (v := ?_) (a' := ?_) #[true, true, true, true, true, true, false, true, true, false, false] rfl rfl (take_ofW HT_.out HW_.out (by kernel_rfl)) (fun _ _ _ h => h) (Or.inl ⟨by rfl, ?_⟩) hHeld ?_ ?_
   rotate_left
   ·rintro w' ⟨s0, s1, s2, s3⟩
    go_simp
    with_reducible rfl
   rotate_left
   ·simp only [ps_]
    rfl
   refine oz 6 (some 21) HT_ (fun K hK => ?_); refine gG Try.func83 #[.slice Ao17 t355.length co17, .int .u16 (IntKind.u16.wrap (wrap64 (8 + (l0_3.length : Int))))] ?_
   with_reducible refine (lychref1_Put16.calls (fun k_ => some k_ = (.slice Ao17 t355.length co17 : Value).ownBlock) (.slice Ao17 t355.length co17) t355 (IntKind.u16.wrap (wrap64 (8 + (l0_3.length : Int)))) t358 w _ ?side1 ?side2 A7.out).mono ?_
   (case side1 => exact bz HB)
   (case side2 => exact Kd.R_tight rfl HO357.out)
   rintro e w18 ⟨v359, rfl, ho0, hb, hkp⟩; refine ⟨_, rfl, ?_⟩; have n0_ := Aside0.mk (blk_kept (kz BK351) hkp (fun hs_ => (fun e_ => (Kd.R_ne HO357.out BK351.out (by decide)) e_) hs_)); have n1_ := Aside0.mk (Kd.R_mono (ok' := fun k_ => True) ho0 (fun k_ hk_ => trivial)); have n2_ := Aside0.mk (hb); clear BK351; clear HB; clear HO357; have BK351 := n0_; have HO360 := n1_; have HB := n2_; clear n0_ n1_ n2_
   (try clear hb)
   (try clear hkp)
   (try clear ho0)
   obtain ⟨Ao19, co19, eo19⟩ := Kd.R_slice HO360.out
   (first | subst eo19 | (injection eo19 with f1_ f2_ f3_; have f4_ := f1_.symm; have f5_ := f3_.symm; clear f1_ f2_ f3_; subst f4_; subst f5_))
   refine hK.out _ _ ⟨cz BK351.out 0 rfl, cz BK351.out 1 rfl, cz BK351.out 2 rfl, cz BK351.out 3 rfl⟩ (fun hHeld => ?_); clear hK K; refine nz 21 ?_; refine oz 9 (some 24) HT_ (fun K hK => ?_); refine gG Try.func83 #[.slice Ao19 t358.length co19, .int .u16 a0_2] ?_
   with_reducible refine (lychref1_Put16.calls (fun k_ => some k_ = (.slice Ao19 t358.length co19 : Value).ownBlock) (.slice Ao19 t358.length co19) t358 a0_2 t361 w _ ?side1 ?side2 A8.out).mono ?_
   (case side1 => exact bz HB)
   (case side2 => exact Kd.R_tight rfl HO360.out)
   rintro e w20 ⟨v362, rfl, ho0, hb, hkp⟩; refine ⟨_, rfl, ?_⟩; have n0_ := Aside0.mk (blk_kept (kz BK351) hkp (fun hs_ => (fun e_ => (Kd.R_ne HO360.out BK351.out (by decide)) e_) hs_)); have n1_ := Aside0.mk (Kd.R_mono (ok' := fun k_ => True) ho0 (fun k_ hk_ => trivial)); have n2_ := Aside0.mk (hb); clear BK351; clear HB; clear HO360; have BK351 := n0_; have HO363 := n1_; have HB := n2_; clear n0_ n1_ n2_
   (try clear hb)
   (try clear hkp)
   (try clear ho0)
   refine hK.out _ _ ⟨cz BK351.out 0 rfl, cz BK351.out 1 rfl, cz BK351.out 2 rfl, cz BK351.out 3 rfl⟩ (fun hHeld => ?_); clear hK K; refine nz 24 ?_; refine pz 10 4 HT_ ?_; refine dz HT_ ?_; have hcz21_0_ := cs4 BK351.out; have hfz21_0_ := blk_frozen BK351.out
   try go_wp2_with (first | ((with_reducible refine gate_builtin (b := .append) (xs := #[.tmp 25, .tmp 27]) rfl ?_); at_builtin; refine Kd.R_append_rows (Kd.int .u8) (w0 := w) w.heap.size rfl (.tmp 25) (.tmp 27) 23 5 (.int .u8 0) 1 rfl Try.underlying23 info5 rfl (by decide) (by omega) v362 t361 l0_3 _ _ _ (fun _ => True) (fun _ => False) rfl rfl ?aO ?aR (fun _ _ h => h) (fun _ h => h.elim) ?aF ?aB ?aS ?aL ?_; (case aR => exact Kd.C_below HR0_3.out (bz HB)); (case aB => exact bz HB); (case aF => exact (fun _ _ => trivial)); (case aO => exact (Kd.rz HO363)); (case aS => exact (below_size (bz HB))); (case aL => have := LMc9.out; omega); intro v365 w22 ho hb hg hat; rw [<- Ny364.out] at ho; have n0_ := Aside0.mk (blk_grown (kz BK351) hg (Kd.R_ne HO363.out BK351.out (by decide))); have n1_ := Aside0.mk (hb); have n2_ := Aside0.mk (ho); clear BK351; clear HB; clear HO363; have BK351 := n0_; have HB := n1_; have HO366 := n2_; clear n0_ n1_ n2_; clear ho hb hg hat))
   go_ret2
   exact ⟨_, by first | rfl | (simp [errW_none, errW_some] <;> rfl) | (simp [*, errW_none, errW_some] <;> rfl), by (with_reducible repeat (first | apply Kd.R_alloc | apply Kd.R_drewN | apply Kd.R_drew)); exact HO366.out, bz HB⟩
  ·rw [if_neg c9] at H
   exact absurd H (by simp)
attribute [local go_sem] max2_int min2_int max_two min_two max_three min_three max_four min_four
def lychseat_Addr.f (a0 : Int) (a1 : Int) (a2 : Int) (a3 : Int) : Option (Int) := some (Go.bits .or .u32 (Go.bits .or .u32 (Go.bits .or .u32 ((((a0) % 4294967296) * 16777216) % 4294967296) ((((a1) % 4294967296) * 65536) % 4294967296)) ((((a2) % 4294967296) * 256) % 4294967296)) ((a3) % 4294967296))
theorem lychseat_Addr.calls (a0 : Int) (a1 : Int) (a2 : Int) (a3 : Int) (r : Int) (w : World) (h : lychseat_Addr.f a0 a1 a2 a3 = some r) :
  Calls Try.prog 44 #[.int .u8 a0, .int .u8 a1, .int .u8 a2, .int .u8 a3] w fun e w' => e = .returned (.int .u32 r) /\ Drawn0 w w' := by
 have H : (some (Go.bits .or .u32 (Go.bits .or .u32 (Go.bits .or .u32 ((((a0) % 4294967296) * 16777216) % 4294967296) ((((a1) % 4294967296) * 65536) % 4294967296)) ((((a2) % 4294967296) * 256) % 4294967296)) ((a3) % 4294967296))) = some r := h; clear h; obtain rfl := Option.some.inj H
 go_enter Try.func44, Try.ntmps44
 go_wp2
 go_ret
 exact ⟨by first | rfl | (simp; done) | (simp [*]; done), by repeat (first | exact Drawn0.refl _ | apply Drawn0.step)⟩
attribute [local go_sem] max2_int min2_int max_two min_two max_three min_three max_four min_four
def lychref1_Pseudo.f (k : Nat) (a0 : Int) (a1 : Int) (a2 : Int) (a3 : Int) : Option (Int) := (lychref1_Fold.f k (((a0 / 65536) + (Go.bits .and .u32 a0 65535) + (a1 / 65536) + (Go.bits .and .u32 a1 65535) + (a2) + (Go.bits .and .u64 (IntKind.u64.wrap (a3)) 65535)) % 4294967296)).bind fun t395 => (some ((t395) % 4294967296))
theorem lychref1_Pseudo.calls (k : Nat) (a0 : Int) (a1 : Int) (a2 : Int) (a3 : Int) (r : Int) (w : World) (h : lychref1_Pseudo.f k a0 a1 a2 a3 = some r) :
  Calls Try.prog 82 #[.int .u32 a0, .int .u32 a1, .int .u8 a2, .int .i64 a3] w fun e w' => e = .returned (.int .u32 r) /\ Drawn0 w w' := by
 have H : ((lychref1_Fold.f k (((a0 / 65536) + (Go.bits .and .u32 a0 65535) + (a1 / 65536) + (Go.bits .and .u32 a1 65535) + (a2) + (Go.bits .and .u64 (IntKind.u64.wrap (a3)) 65535)) % 4294967296)).bind fun t395 => (some ((t395) % 4294967296))) = some r := h; clear h; replace H := Option.bind_eq_some_iff.mp H; obtain ⟨t395, A50, H⟩ := H; replace H : (some ((t395) % 4294967296)) = some r := H; have A5 := Aside0.mk A50; clear A50; obtain rfl := Option.some.inj H
 go_enter Try.func82, Try.ntmps82
 go_wp2_with (first | ((with_reducible refine gate_callee (f := 79) rfl ?_); refine gL 30 Try.func79 #[.int .u32 (((a0 / 65536) + (Go.bits .and .u32 a0 65535) + (a1 / 65536) + (Go.bits .and .u32 a1 65535) + (a2) + (Go.bits .and .u64 (IntKind.u64.wrap (a3)) 65535)) % 4294967296)] ?_; (with_reducible refine (lychref1_Fold.calls k (((a0 / 65536) + (Go.bits .and .u32 a0 65535) + (a1 / 65536) + (Go.bits .and .u32 a1 65535) + (a2) + (Go.bits .and .u64 (IntKind.u64.wrap (a3)) 65535)) % 4294967296) t395 _ A5.out).mono ?_); rintro e w' ⟨rfl, ⟨nd, rfl⟩⟩; refine ⟨_, rfl, ?_⟩))
 go_ret
 exact ⟨by first | rfl | (simp; done) | (simp [*]; done), by repeat (first | exact Drawn0.refl _ | apply Drawn0.step)⟩
attribute [local go_sem] max2_int min2_int max_two min_two max_three min_three max_four min_four
def lychseat_inside.f (a0 : Int) : Option (Int) := if (Int.tmod a0 6) = 5 then ((lychseat_Addr.f 10 0 0 9).bind fun t425 => (some t425)) else ((lychseat_Addr.f 10 0 0 ((1 + (Int.tmod a0 3)) % 256)).bind fun t426 => (some t426))
theorem lychseat_inside.calls (a0 : Int) (r : Int) (w : World) (h : lychseat_inside.f a0 = some r) :
  Calls Try.prog 49 #[.int .u8 a0] w fun e w' => e = .returned (.int .u32 r) /\ Drawn0 w w' := by
 have H : (if (Int.tmod a0 6) = 5 then ((lychseat_Addr.f 10 0 0 9).bind fun t425 => (some t425)) else ((lychseat_Addr.f 10 0 0 ((1 + (Int.tmod a0 3)) % 256)).bind fun t426 => (some t426))) = some r := h; clear h
 by_cases c2 : (Int.tmod a0 6) = 5
 ·rw [if_pos c2] at H
  have c2b0 : ((Int.tmod a0 6) == 5) = true := beq_iff_eq.mpr c2; have c2b1 : ((Int.tmod a0 6) != 5) = false := bne_eq_false_iff_eq.mpr c2; clear c2; replace H := Option.bind_eq_some_iff.mp H; obtain ⟨t425, A30, H⟩ := H
  (try dsimp -simprocs only at H)
  have A3 := Aside0.mk A30; clear A30; obtain rfl := Option.some.inj H
  go_enter Try.func49, Try.ntmps49
  go_wp2_with (first | ((with_reducible refine gate_callee (f := 44) rfl ?_); refine gL 6 Try.func44 #[.int .u8 10, .int .u8 0, .int .u8 0, .int .u8 9] ?_; (with_reducible refine (lychseat_Addr.calls 10 0 0 9 t425 _ A3.out).mono ?_); rintro e w' ⟨rfl, ⟨nd, rfl⟩⟩; refine ⟨_, rfl, ?_⟩))
  go_ret
  exact ⟨by first | rfl | (simp; done) | (simp [*]; done), by repeat (first | exact Drawn0.refl _ | apply Drawn0.step)⟩
 ·rw [if_neg c2] at H
  have c2b0 : ((Int.tmod a0 6) == 5) = false := beq_eq_false_iff_ne.mpr c2; have c2b1 : ((Int.tmod a0 6) != 5) = true := bne_iff_ne.mpr c2; replace H := Option.bind_eq_some_iff.mp H; obtain ⟨t426, A40, H⟩ := H
  (try dsimp -simprocs only at H)
  have A4 := Aside0.mk A40; clear A40; obtain rfl := Option.some.inj H
  go_enter Try.func49, Try.ntmps49
  go_wp2_with (first | ((with_reducible refine gate_callee (f := 44) rfl ?_); refine gL 10 Try.func44 #[.int .u8 10, .int .u8 0, .int .u8 0, .int .u8 ((1 + (Int.tmod a0 3)) % 256)] ?_; (with_reducible refine (lychseat_Addr.calls 10 0 0 ((1 + (Int.tmod a0 3)) % 256) t426 _ A4.out).mono ?_); rintro e w' ⟨rfl, ⟨nd, rfl⟩⟩; refine ⟨_, rfl, ?_⟩))
  go_ret
  exact ⟨by first | rfl | (simp; done) | (simp [*]; done), by repeat (first | exact Drawn0.refl _ | apply Drawn0.step)⟩
mutual
def lychseat_outside.j0 : Nat -> Int -> Int -> Bool -> Option (Int)
 | 0, _, _, _ => none
 | k + 1, x1, x6, x7 => if x7 = true then ((lychseat_Addr.f 8 8 8 8).bind fun t427 => (some t427)) else (if x6 = 2 then ((lychseat_Addr.f 8 8 4 4).bind fun t428 => (some t428)) else (if x6 = 3 then ((lychseat_Addr.f 192 168 0 5).bind fun t429 => (some t429)) else (if x6 = 4 then ((lychseat_Addr.f 192 168 0 6).bind fun t430 => (some t430)) else (if x6 = 5 then (lychseat_outside.j1 k x1 x6 (x6 == 5)) else (lychseat_outside.j1 k x1 x6 (x6 == 6))))))
def lychseat_outside.j1 : Nat -> Int -> Int -> Bool -> Option (Int)
 | 0, _, _, _ => none
 | k + 1, x1, x6, x20 => if x20 = true then ((lychseat_Addr.f 5 5 x1 1).bind fun t431 => (some t431)) else (if x6 = 7 then ((lychseat_Addr.f 5 6 x1 9).bind fun t432 => (some t432)) else ((lychseat_Addr.f 5 5 (Go.bits .xor .u8 x1 1) 1).bind fun t433 => (some t433)))
end
def lychseat_outside.f (k : Nat) (a0 : Int) (a1 : Int) : Option (Int) := if (Int.tmod a0 9) = 0 then (lychseat_outside.j0 k a1 (Int.tmod a0 9) ((Int.tmod a0 9) == 0)) else (lychseat_outside.j0 k a1 (Int.tmod a0 9) ((Int.tmod a0 9) == 1))
theorem lychseat_outside.calls (k : Nat) (a0 : Int) (a1 : Int) (r : Int) (w : World) (h : lychseat_outside.f k a0 a1 = some r) :
  Calls Try.prog 50 #[.int .u8 a0, .int .u8 a1] w fun e w' => e = .returned (.int .u32 r) /\ Drawn0 w w' := by
 have H : (if (Int.tmod a0 9) = 0 then (lychseat_outside.j0 k a1 (Int.tmod a0 9) ((Int.tmod a0 9) == 0)) else (lychseat_outside.j0 k a1 (Int.tmod a0 9) ((Int.tmod a0 9) == 1))) = some r := h; clear h; have HC3 := Aside0.mk H; clear H
 go_enter Try.func50, Try.ntmps50
 go_upto_if 7 with (fail)
 go_cut [7] (fun v7 wc => ∃ (kq : Nat) (x7_2 : Bool), v7 = .bool x7_2 /\ Aside0 (lychseat_outside.j0 kq a1 (Int.tmod a0 9) x7_2 = some r) /\ Aside0 (kq <= k) /\ Drawn0 w wc)
 case first =>
  have H := HC3.out; clear HC3
  by_cases c4 : (Int.tmod a0 9) = 0
  ·rw [if_pos c4] at H
   have c4b0 : ((Int.tmod a0 9) == 0) = true := beq_iff_eq.mpr c4; have c4b1 : ((Int.tmod a0 9) != 0) = false := bne_eq_false_iff_eq.mpr c4; clear c4
   (first | rw [c4b0] | (simp only [i64_w, i32_w]; rw [c4b0]) | skip)
   have H' := Aside0.mk H; clear H
   go_wp2
   go_meet
   case rel => exact ⟨_, (((Int.tmod a0 9) == 0)), (by first | rfl | (simp; done) | (simp [*]; done)), H', ⟨by first | omega | exact Nat.le_refl _⟩, by repeat (first | exact Drawn0.refl _ | apply Drawn0.step)⟩
  ·rw [if_neg c4] at H
   have c4b0 : ((Int.tmod a0 9) == 0) = false := beq_eq_false_iff_ne.mpr c4; have c4b1 : ((Int.tmod a0 9) != 0) = true := bne_iff_ne.mpr c4
   (first | rw [c4b0] | (simp only [i64_w, i32_w]; rw [c4b0]) | skip)
   have H' := Aside0.mk H; clear H
   go_wp2
   go_meet
   case rel => exact ⟨_, (((Int.tmod a0 9) == 1)), (by first | rfl | (simp; done) | (simp [*]; done)), H', ⟨by first | omega | exact Nat.le_refl _⟩, by repeat (first | exact Drawn0.refl _ | apply Drawn0.step)⟩
 case rest =>
  clear HC3; obtain ⟨kq, x7_2, rfl, HA, HJ2, ⟨mc2, rfl⟩⟩ := hcut
  cases kq with
  | zero => exact absurd HA.out (by simp [lychseat_outside.j0])
  | succ kj2 =>
   have H := HA.out; clear HA; simp only [lychseat_outside.j0] at H
   by_cases c5 : x7_2 = true
   ·subst c5
    have H1 : ((lychseat_Addr.f 8 8 8 8).bind fun t427 => (some t427)) = some r := by rw [if_pos rfl] at H; exact H
    clear H; have H := H1; clear H1; replace H := Option.bind_eq_some_iff.mp H; obtain ⟨t427, A60, H⟩ := H
    (try dsimp -simprocs only at H)
    have A6 := Aside0.mk A60; clear A60; obtain rfl := Option.some.inj H
    go_wp2_with (first | ((with_reducible refine gate_callee (f := 44) rfl ?_); refine gL 10 Try.func44 #[.int .u8 8, .int .u8 8, .int .u8 8, .int .u8 8] ?_; (with_reducible refine (lychseat_Addr.calls 8 8 8 8 t427 _ A6.out).mono ?_); rintro e w' ⟨rfl, ⟨nd, rfl⟩⟩; refine ⟨_, rfl, ?_⟩))
    go_ret
    exact ⟨by first | rfl | (simp; done) | (simp [*]; done), by repeat (first | exact Drawn0.refl _ | apply Drawn0.step)⟩
   ·replace c5 := Bool.eq_false_iff.mpr c5
    subst c5; have H1 : (if (Int.tmod a0 9) = 2 then ((lychseat_Addr.f 8 8 4 4).bind fun t428 => (some t428)) else (if (Int.tmod a0 9) = 3 then ((lychseat_Addr.f 192 168 0 5).bind fun t429 => (some t429)) else (if (Int.tmod a0 9) = 4 then ((lychseat_Addr.f 192 168 0 6).bind fun t430 => (some t430)) else (if (Int.tmod a0 9) = 5 then (lychseat_outside.j1 kj2 a1 (Int.tmod a0 9) ((Int.tmod a0 9) == 5)) else (lychseat_outside.j1 kj2 a1 (Int.tmod a0 9) ((Int.tmod a0 9) == 6)))))) = some r := by rw [if_neg (show ¬ (false = true) by decide)] at H; exact H
    clear H; have H := H1; clear H1
    by_cases c7 : (Int.tmod a0 9) = 2
    ·rw [if_pos c7] at H
     have c7b0 : ((Int.tmod a0 9) == 2) = true := beq_iff_eq.mpr c7; have c7b1 : ((Int.tmod a0 9) != 2) = false := bne_eq_false_iff_eq.mpr c7; clear c7; replace H := Option.bind_eq_some_iff.mp H; obtain ⟨t428, A80, H⟩ := H
     (try dsimp -simprocs only at H)
     have A8 := Aside0.mk A80; clear A80; obtain rfl := Option.some.inj H
     go_wp2_with (first | ((with_reducible refine gate_callee (f := 44) rfl ?_); refine gL 13 Try.func44 #[.int .u8 8, .int .u8 8, .int .u8 4, .int .u8 4] ?_; (with_reducible refine (lychseat_Addr.calls 8 8 4 4 t428 _ A8.out).mono ?_); rintro e w' ⟨rfl, ⟨nd, rfl⟩⟩; refine ⟨_, rfl, ?_⟩))
     go_ret
     exact ⟨by first | rfl | (simp; done) | (simp [*]; done), by repeat (first | exact Drawn0.refl _ | apply Drawn0.step)⟩
    ·rw [if_neg c7] at H
     have c7b0 : ((Int.tmod a0 9) == 2) = false := beq_eq_false_iff_ne.mpr c7; have c7b1 : ((Int.tmod a0 9) != 2) = true := bne_iff_ne.mpr c7
     by_cases c9 : (Int.tmod a0 9) = 3
     ·rw [if_pos c9] at H
      have c9b0 : ((Int.tmod a0 9) == 3) = true := beq_iff_eq.mpr c9; have c9b1 : ((Int.tmod a0 9) != 3) = false := bne_eq_false_iff_eq.mpr c9; clear c9; replace H := Option.bind_eq_some_iff.mp H; obtain ⟨t429, A100, H⟩ := H
      (try dsimp -simprocs only at H)
      have A10 := Aside0.mk A100; clear A100; obtain rfl := Option.some.inj H
      go_wp2_with (first | ((with_reducible refine gate_callee (f := 44) rfl ?_); refine gL 16 Try.func44 #[.int .u8 192, .int .u8 168, .int .u8 0, .int .u8 5] ?_; (with_reducible refine (lychseat_Addr.calls 192 168 0 5 t429 _ A10.out).mono ?_); rintro e w' ⟨rfl, ⟨nd, rfl⟩⟩; refine ⟨_, rfl, ?_⟩))
      go_ret
      exact ⟨by first | rfl | (simp; done) | (simp [*]; done), by repeat (first | exact Drawn0.refl _ | apply Drawn0.step)⟩
     ·rw [if_neg c9] at H
      have c9b0 : ((Int.tmod a0 9) == 3) = false := beq_eq_false_iff_ne.mpr c9; have c9b1 : ((Int.tmod a0 9) != 3) = true := bne_iff_ne.mpr c9
      by_cases c11 : (Int.tmod a0 9) = 4
      ·rw [if_pos c11] at H
       have c11b0 : ((Int.tmod a0 9) == 4) = true := beq_iff_eq.mpr c11; have c11b1 : ((Int.tmod a0 9) != 4) = false := bne_eq_false_iff_eq.mpr c11; clear c11; replace H := Option.bind_eq_some_iff.mp H; obtain ⟨t430, A120, H⟩ := H
       (try dsimp -simprocs only at H)
       have A12 := Aside0.mk A120; clear A120; obtain rfl := Option.some.inj H
       go_wp2_with (first | ((with_reducible refine gate_callee (f := 44) rfl ?_); refine gL 19 Try.func44 #[.int .u8 192, .int .u8 168, .int .u8 0, .int .u8 6] ?_; (with_reducible refine (lychseat_Addr.calls 192 168 0 6 t430 _ A12.out).mono ?_); rintro e w' ⟨rfl, ⟨nd, rfl⟩⟩; refine ⟨_, rfl, ?_⟩))
       go_ret
       exact ⟨by first | rfl | (simp; done) | (simp [*]; done), by repeat (first | exact Drawn0.refl _ | apply Drawn0.step)⟩
      ·rw [if_neg c11] at H
       have c11b0 : ((Int.tmod a0 9) == 4) = false := beq_eq_false_iff_ne.mpr c11; have c11b1 : ((Int.tmod a0 9) != 4) = true := bne_iff_ne.mpr c11; have HC13 := Aside0.mk H; clear H
       go_upto_if 20 with (fail)
       go_cut [20] (fun v20 wc => ∃ (kq : Nat) (x20_12 : Bool), v20 = .bool x20_12 /\ Aside0 (lychseat_outside.j1 kq a1 (Int.tmod a0 9) x20_12 = some r) /\ Aside0 (kq <= kj2) /\ Drawn0 w wc)
       case first =>
        have H := HC13.out; clear HC13
        by_cases c14 : (Int.tmod a0 9) = 5
        ·rw [if_pos c14] at H
         have c14b0 : ((Int.tmod a0 9) == 5) = true := beq_iff_eq.mpr c14; have c14b1 : ((Int.tmod a0 9) != 5) = false := bne_eq_false_iff_eq.mpr c14; clear c14
         (first | rw [c14b0] | (simp only [i64_w, i32_w]; rw [c14b0]) | skip)
         have H' := Aside0.mk H; clear H
         go_wp2
         go_meet
         case rel => exact ⟨_, (((Int.tmod a0 9) == 5)), (by first | rfl | (simp; done) | (simp [*]; done)), H', ⟨by have := HJ2.out; first | omega | exact Nat.le_refl _⟩, by repeat (first | exact Drawn0.refl _ | apply Drawn0.step)⟩
        ·rw [if_neg c14] at H
         have c14b0 : ((Int.tmod a0 9) == 5) = false := beq_eq_false_iff_ne.mpr c14; have c14b1 : ((Int.tmod a0 9) != 5) = true := bne_iff_ne.mpr c14
         (first | rw [c14b0] | (simp only [i64_w, i32_w]; rw [c14b0]) | skip)
         have H' := Aside0.mk H; clear H
         go_wp2
         go_meet
         case rel => exact ⟨_, (((Int.tmod a0 9) == 6)), (by first | rfl | (simp; done) | (simp [*]; done)), H', ⟨by have := HJ2.out; first | omega | exact Nat.le_refl _⟩, by repeat (first | exact Drawn0.refl _ | apply Drawn0.step)⟩
       case rest =>
        clear HC13
        try clear c5
        try clear c7
        try clear c7b0
        try clear c7b1
        try clear c9
        try clear c9b0
        try clear c9b1
        try clear c11
        try clear c11b0
        try clear c11b1
        obtain ⟨kq, x20_12, rfl, HA, HJ12, ⟨mc12, rfl⟩⟩ := hcut
        cases kq with
        | zero => exact absurd HA.out (by simp [lychseat_outside.j1])
        | succ kj12 =>
         have H := HA.out; clear HA; simp only [lychseat_outside.j1] at H
         by_cases c15 : x20_12 = true
         ·subst c15
          have H1 : ((lychseat_Addr.f 5 5 a1 1).bind fun t431 => (some t431)) = some r := by rw [if_pos rfl] at H; exact H
          clear H; have H := H1; clear H1; replace H := Option.bind_eq_some_iff.mp H; obtain ⟨t431, A160, H⟩ := H
          (try dsimp -simprocs only at H)
          have A16 := Aside0.mk A160; clear A160; obtain rfl := Option.some.inj H
          go_wp2_with (first | ((with_reducible refine gate_callee (f := 44) rfl ?_); refine gL 24 Try.func44 #[.int .u8 5, .int .u8 5, .int .u8 a1, .int .u8 1] ?_; (with_reducible refine (lychseat_Addr.calls 5 5 a1 1 t431 _ A16.out).mono ?_); rintro e w' ⟨rfl, ⟨nd, rfl⟩⟩; refine ⟨_, rfl, ?_⟩))
          go_ret
          exact ⟨by first | rfl | (simp; done) | (simp [*]; done), by repeat (first | exact Drawn0.refl _ | apply Drawn0.step)⟩
         ·replace c15 := Bool.eq_false_iff.mpr c15
          subst c15; have H1 : (if (Int.tmod a0 9) = 7 then ((lychseat_Addr.f 5 6 a1 9).bind fun t432 => (some t432)) else ((lychseat_Addr.f 5 5 (Go.bits .xor .u8 a1 1) 1).bind fun t433 => (some t433))) = some r := by rw [if_neg (show ¬ (false = true) by decide)] at H; exact H
          clear H; have H := H1; clear H1
          by_cases c17 : (Int.tmod a0 9) = 7
          ·rw [if_pos c17] at H
           have c17b0 : ((Int.tmod a0 9) == 7) = true := beq_iff_eq.mpr c17; have c17b1 : ((Int.tmod a0 9) != 7) = false := bne_eq_false_iff_eq.mpr c17; clear c17; replace H := Option.bind_eq_some_iff.mp H; obtain ⟨t432, A180, H⟩ := H
           (try dsimp -simprocs only at H)
           have A18 := Aside0.mk A180; clear A180; obtain rfl := Option.some.inj H
           go_wp2_with (first | ((with_reducible refine gate_callee (f := 44) rfl ?_); refine gL 28 Try.func44 #[.int .u8 5, .int .u8 6, .int .u8 a1, .int .u8 9] ?_; (with_reducible refine (lychseat_Addr.calls 5 6 a1 9 t432 _ A18.out).mono ?_); rintro e w' ⟨rfl, ⟨nd, rfl⟩⟩; refine ⟨_, rfl, ?_⟩))
           go_ret
           exact ⟨by first | rfl | (simp; done) | (simp [*]; done), by repeat (first | exact Drawn0.refl _ | apply Drawn0.step)⟩
          ·rw [if_neg c17] at H
           have c17b0 : ((Int.tmod a0 9) == 7) = false := beq_eq_false_iff_ne.mpr c17; have c17b1 : ((Int.tmod a0 9) != 7) = true := bne_iff_ne.mpr c17; replace H := Option.bind_eq_some_iff.mp H; obtain ⟨t433, A190, H⟩ := H
           (try dsimp -simprocs only at H)
           have A19 := Aside0.mk A190; clear A190; obtain rfl := Option.some.inj H
           go_wp2_with (first | ((with_reducible refine gate_callee (f := 44) rfl ?_); refine gL 31 Try.func44 #[.int .u8 5, .int .u8 5, .int .u8 (Go.bits .xor .u8 a1 1), .int .u8 1] ?_; (with_reducible refine (lychseat_Addr.calls 5 5 (Go.bits .xor .u8 a1 1) 1 t433 _ A19.out).mono ?_); rintro e w' ⟨rfl, ⟨nd, rfl⟩⟩; refine ⟨_, rfl, ?_⟩))
           go_ret
           exact ⟨by first | rfl | (simp; done) | (simp [*]; done), by repeat (first | exact Drawn0.refl _ | apply Drawn0.step)⟩
def lychseat_proto.f (a0 : Int) : Option (Int) := (some (([17, 6, 1, 17] : List Int) : List Int)).bind fun y434 => (if 0 <= (Int.tmod a0 4) then (if (Int.tmod a0 4) < (y434.length : Int) then (some (rd y434 (Int.tmod a0 4))) else (none)) else (none))
theorem lychseat_proto.calls (a0 : Int) (r : Int) (w : World) (h : lychseat_proto.f a0 = some r) :
  Calls Try.prog 51 #[.int .u8 a0] w fun e w' => e = .returned (.int .u8 r) /\ Below w.heap.size w w' := by
 have HB := Aside0.mk (Below.refl w.heap.size w); have H : ((some (([17, 6, 1, 17] : List Int) : List Int)).bind fun y434 => (if 0 <= (Int.tmod a0 4) then (if (Int.tmod a0 4) < (y434.length : Int) then (some (rd y434 (Int.tmod a0 4))) else (none)) else (none))) = some r := h; clear h; obtain ⟨y434, hy434⟩ : ∃ y_ : List Int, y_ = (([17, 6, 1, 17] : List Int)) := ⟨_, rfl⟩
 rw [<- hy434] at H
 have Ny434 := Aside0.mk hy434; clear hy434; obtain ⟨ji2, hji2⟩ : ∃ j_ : Int, (Int.tmod a0 4) = j_ := ⟨_, rfl⟩
 replace H : (if 0 <= (ji2) then (if (ji2) < (y434.length : Int) then (some (rd y434 (ji2))) else (none)) else (none)) = some r := by first | (rw [hji2] at H; exact H) | (simp only [hji2] at H |-; exact H)
 by_cases c3 : 0 <= (ji2)
 ·rw [if_pos c3] at H
  have c3b0 : decide (0 <= (ji2)) = true := decide_eq_true c3; clear c3
  by_cases c4 : (ji2) < (y434.length : Int)
  ·rw [if_pos c4] at H
   have c4b0 : decide ((ji2) < (y434.length : Int)) = true := decide_eq_true c4; clear c4; obtain rfl := Option.some.inj H
   go_enter Try.func51, Try.ntmps51
   go_wp2_with (first | ((with_reducible refine gate_dst (N := 3) rfl ?_); refine Kd.R_lit (Kd.int .u8) _ 5 ?hg (N := 3) ?hd (xs := ([17, 6, 1, 17] : List Int)) (inner := [.int .u8 17, .int .u8 6, .int .u8 1, .int .u8 17]) (ok := fun _ => True) (okp := fun _ => True) ?hr ?hp (fun _ hk => hk) trivial (Below.refl _ _) (Nat.le_refl _) (by simp) ?_; (case hd => rfl); (case hg => rfl); (case hr => first | (go_simp; done) | (go_simp; rfl)); (case hp => exact (Reps.one (show Kd.M (Kd.int .u8) _ _ _ 17 [.int .u8 17] from rfl) (Reps.one (show Kd.M (Kd.int .u8) _ _ _ 6 [.int .u8 6] from rfl) (Reps.one (show Kd.M (Kd.int .u8) _ _ _ 1 [.int .u8 1] from rfl) (Reps.one (show Kd.M (Kd.int .u8) _ _ _ 17 [.int .u8 17] from rfl) (Reps.none _ _)))))); intro v435 w5 ho6 hb hg_ hnew_; clear hg_ hnew_; (first | rw [<- Ny434.out] at ho6 | (simp only [Int.reduceToNat] at ho6; rw [<- Ny434.out] at ho6)); have n0_ := Aside0.mk (Kd.R_lower ho6 (below_size (bz HB))); have n1_ := Aside0.mk (below_step (bz HB) hb); clear HB; have HO436 := n0_; have HB := n1_; clear n0_ n1_; clear hb ho6; obtain ⟨Ao7, co7, eo7⟩ := Kd.R_slice HO436.out; subst eo7; have p437 : 0 <= ((ji2) : Int) := odt; have q437 : (ji2) < (y434.length : Int) := odt; obtain ⟨ad437, e437, hx437_0⟩ := Kd.at_int (Kd.R_reads' HO436.out).2.2 (ji2) p437 q437; cases e437; replace p437 := eq_true p437; replace q437 := eq_true q437))
   go_ret
   exact ⟨by first | rfl | (simp [errW_none, errW_some] <;> rfl) | (simp only [<- hji2]; first | rfl | (simp [errW_none, errW_some] <;> rfl)) | (simp [*, errW_none, errW_some] <;> rfl), bz HB⟩
  ·rw [if_neg c4] at H
   exact absurd H (by simp)
 ·rw [if_neg c3] at H
  exact absurd H (by simp)
def lychseat_port.f (a0 : Int) : Option (Int) := if (Int.tmod a0 5) = 0 then (some (IntKind.u16.wrap (1000 + (IntKind.u16.wrap (a0 / 16))))) else (if (Int.tmod a0 5) = 1 then (some 53) else (some (IntKind.u16.wrap (1020 + (IntKind.u16.wrap (a0 / 8))))))
theorem lychseat_port.calls (a0 : Int) (r : Int) (w : World) (h : lychseat_port.f a0 = some r) :
  Calls Try.prog 52 #[.int .u8 a0] w fun e w' => e = .returned (.int .u16 r) /\ Drawn0 w w' := by
 have H : (if (Int.tmod a0 5) = 0 then (some (IntKind.u16.wrap (1000 + (IntKind.u16.wrap (a0 / 16))))) else (if (Int.tmod a0 5) = 1 then (some 53) else (some (IntKind.u16.wrap (1020 + (IntKind.u16.wrap (a0 / 8))))))) = some r := h; clear h
 by_cases c2 : (Int.tmod a0 5) = 0
 ·rw [if_pos c2] at H
  have c2b0 : ((Int.tmod a0 5) == 0) = true := beq_iff_eq.mpr c2; have c2b1 : ((Int.tmod a0 5) != 0) = false := bne_eq_false_iff_eq.mpr c2; clear c2; obtain rfl := Option.some.inj H
  go_enter Try.func52, Try.ntmps52
  go_wp2
  go_ret
  exact ⟨by first | rfl | (simp; done) | (simp [*]; done), by repeat (first | exact Drawn0.refl _ | apply Drawn0.step)⟩
 ·rw [if_neg c2] at H
  have c2b0 : ((Int.tmod a0 5) == 0) = false := beq_eq_false_iff_ne.mpr c2; have c2b1 : ((Int.tmod a0 5) != 0) = true := bne_iff_ne.mpr c2
  by_cases c3 : (Int.tmod a0 5) = 1
  ·rw [if_pos c3] at H
   have c3b0 : ((Int.tmod a0 5) == 1) = true := beq_iff_eq.mpr c3; have c3b1 : ((Int.tmod a0 5) != 1) = false := bne_eq_false_iff_eq.mpr c3; clear c3; obtain rfl := Option.some.inj H
   go_enter Try.func52, Try.ntmps52
   go_wp2
   go_ret
   exact ⟨by first | rfl | (simp; done) | (simp [*]; done), by repeat (first | exact Drawn0.refl _ | apply Drawn0.step)⟩
  ·rw [if_neg c3] at H
   have c3b0 : ((Int.tmod a0 5) == 1) = false := beq_eq_false_iff_ne.mpr c3; have c3b1 : ((Int.tmod a0 5) != 1) = true := bne_iff_ne.mpr c3; obtain rfl := Option.some.inj H
   go_enter Try.func52, Try.ntmps52
   go_wp2
   go_ret
   exact ⟨by first | rfl | (simp; done) | (simp [*]; done), by repeat (first | exact Drawn0.refl _ | apply Drawn0.step)⟩
def lychref1_IcmpBytes.f (a0_0 : Int) (a0_1 : Int) (a0_2 : Int) (a0_3 : Int) (l0_4 : List Int) : Option (List Int × Int) := if (l0_4.length : Int) > 65507 then (some (([] : List Int), 23)) else ((lychref1_Put16.f (([a0_0, a0_1] : List Int)) a0_2).bind fun t442 => ((lychref1_Put32.f t442 a0_3).bind fun t445 => (if t445.length + l0_4.length < 140737488355328 then (some ((t445 ++ l0_4), 0)) else (none))))
def lychref1_IcmpBytes.T3 : Bool × List (List Nat × List Nat) := (true, [([], []), ([0], [0]), ([], []), ([2], [2]), ([1, 3], [1, 3]), ([], []), ([5], [5]), ([4, 6], [4, 6]), ([], []), ([8], [8]), ([7, 9, 7], [7, 9]), ([], []), ([11], [11]), ([10, 12, 10], [10, 12]), ([13, 13, 0, 1, 2, 3, 4, 5, 6, 7, 8, 9, 10, 11, 12, 13], [13]), ([14, 0, 1, 2, 3, 4, 5, 6, 7, 8, 9, 10, 11, 12, 13, 14], [])])
def lychref1_IcmpBytes.B3 : List Nat := [0, 1, 0, 4, 15, 0, 32, 127, 0, 256, 1023, 0, 2048, 8191, 16383, 32767]
theorem lychref1_IcmpBytes.tab3 : rtab .any (opsOf Try.f55 3) = lychref1_IcmpBytes.T3 := by kernel_rfl
theorem lychref1_IcmpBytes.bits3 : waitsOk lychref1_IcmpBytes.T3.2 lychref1_IcmpBytes.B3 = true := by kernel_rfl
theorem lychref1_IcmpBytes.calls (a0_0 : Int) (a0_1 : Int) (a0_2 : Int) (a0_3 : Int) (A0_4 : Option Addr) (c0_4 : Nat) (l0_4 : List Int) (r1 : List Int) (r2 : Int) (w : World) (hr0_4 : Kd.C (Kd.int .u8) w A0_4 l0_4.length l0_4) (hc0_4 : l0_4.length <= c0_4) (h : lychref1_IcmpBytes.f a0_0 a0_1 a0_2 a0_3 l0_4 = some (r1, r2)) :
  Calls Try.prog 55 #[.agg #[.int .u8 a0_0, .int .u8 a0_1, .int .u16 a0_2, .int .u32 a0_3, .slice A0_4 l0_4.length c0_4]] w fun e w' => ∃ v0_ : Value, e = .returned (.tuple #[v0_, .int .i64 r2]) /\ Kd.R (Kd.int .u8) 5 w' w.heap.size (fun _ => True) v0_ r1 /\ Below w.heap.size w w' := by
 have hu101 := Try.underlying101; have HR0_4 := Aside0.mk hr0_4; have HC0_4 := Aside0.mk hc0_4; clear hr0_4 hc0_4; have HB := Aside0.mk (Below.refl w.heap.size w); have H : (if (l0_4.length : Int) > 65507 then (some (([] : List Int), 23)) else ((lychref1_Put16.f (([a0_0, a0_1] : List Int)) a0_2).bind fun t442 => ((lychref1_Put32.f t442 a0_3).bind fun t445 => (if t445.length + l0_4.length < 140737488355328 then (some ((t445 ++ l0_4), 0)) else (none))))) = some (r1, r2) := h; clear h
 by_cases c2 : (l0_4.length : Int) > 65507
 ·rw [if_pos c2] at H
  have c2b0 : decide (65507 < (l0_4.length : Int)) = true := decide_eq_true c2; have c2b1 : decide (65507 < l0_4.length) = true := decide_eq_true (by omega); clear c2; simp only [Option.some.injEq, Prod.mk.injEq] at H
  obtain ⟨rfl, rfl⟩ := H
  go_enter Try.func55, Try.ntmps55
  go_wp2_with (first | ((with_reducible refine gate_dst (N := 1) rfl ?_); refine box_event ?hg (N := 1) ?hd (cs := #[.int .u8 a0_0, .int .u8 a0_1, .int .u16 a0_2, .int .u32 a0_3, .slice A0_4 l0_4.length c0_4]) (t := 101) ?hr ?_; (case hd => rfl); (case hg => rfl); (case hr => first | (go_simp; done) | (go_simp; rfl)); intro gb438 hg w3 hbox hb; have n0_ := Aside0.mk (below_step (bz HB) hb); have n1_ := Aside0.mk (hbox); have n2_ := Aside0.mk ((by rw [hg]; exact (below_size (bz HB)) : w.heap.size <= gb438)); have n3_ := Aside0.mk ((by rw [hg]; exact (below_size (bz HB)) : w.heap.size <= gb438)); clear HB; have HB := n0_; have BK438 := n1_; have GW438 := n2_; have GE438 := n3_; clear n0_ n1_ n2_ n3_; clear hb hbox hg; have hcz4_0 : w3.cell? ⟨gb438, 0, none⟩ = some (.int .u8 a0_0) := cz BK438.out 0 rfl; have hcz4_1 : w3.cell? ⟨gb438, 1, none⟩ = some (.int .u8 a0_1) := cz BK438.out 1 rfl; have hcz4_2 : w3.cell? ⟨gb438, 2, none⟩ = some (.int .u16 a0_2) := cz BK438.out 2 rfl; have hcz4_3 : w3.cell? ⟨gb438, 3, none⟩ = some (.int .u32 a0_3) := cz BK438.out 3 rfl; have hcz4_4 : w3.cell? ⟨gb438, 4, none⟩ = some (.slice A0_4 l0_4.length c0_4) := cz BK438.out 4 rfl; have hfz4_0 := blk_frozen BK438.out 0; have hfz4_1 := blk_frozen BK438.out 1; have hfz4_2 := blk_frozen BK438.out 2; have hfz4_3 := blk_frozen BK438.out 3; have hfz4_4 := blk_frozen BK438.out 4))
  go_ret2
  exact ⟨_, by first | rfl | (simp [errW_none, errW_some] <;> rfl) | (simp [*, errW_none, errW_some] <;> rfl), by first | exact Kd.R_nil _ _ _ _ _ | exact Kd.N_nil _ _ _ _ _ | exact Kd.V_nil _ _ _ _ _ | exact Kd.Q_nil _ _ _ _ _ | exact Kd.S_nil _ _ _ _ _, bz HB⟩
 ·rw [if_neg c2] at H
  have c2b0 : decide (65507 < (l0_4.length : Int)) = false := decide_eq_false c2; have c2b1 : decide (65507 < l0_4.length) = false := decide_eq_false (by omega); clear c2; obtain ⟨y439, hy439⟩ : ∃ y_ : List Int, y_ = (([a0_0, a0_1] : List Int)) := ⟨_, rfl⟩
  rw [<- hy439] at H
  have Ny439 := Aside0.mk hy439; clear hy439; replace H := Option.bind_eq_some_iff.mp H; obtain ⟨t442, A50, H⟩ := H
  (try dsimp -simprocs only at H)
  have A5 := Aside0.mk A50; clear A50; replace H := Option.bind_eq_some_iff.mp H; obtain ⟨t445, A60, H⟩ := H
  (try dsimp -simprocs only at H)
  have A6 := Aside0.mk A60; clear A60
  by_cases c7 : t445.length + l0_4.length < 140737488355328
  ·rw [if_pos c7] at H
   have LMc7 := Aside0.mk c7; clear c7; obtain ⟨y448, hy448⟩ : ∃ y_ : List Int, y_ = (t445 ++ l0_4) := ⟨_, rfl⟩
   rw [<- hy448] at H
   have Ny448 := Aside0.mk hy448; clear hy448; simp only [Option.some.injEq, Prod.mk.injEq] at H
   obtain ⟨rfl, rfl⟩ := H
   go_enter Try.func55, Try.ntmps55
   try go_wp2_with (first | ((with_reducible refine gate_dst (N := 1) rfl ?_); refine box_event ?hg (N := 1) ?hd (cs := #[.int .u8 a0_0, .int .u8 a0_1, .int .u16 a0_2, .int .u32 a0_3, .slice A0_4 l0_4.length c0_4]) (t := 101) ?hr ?_; (case hd => rfl); (case hg => rfl); (case hr => first | (go_simp; done) | (go_simp; rfl)); intro gb438 hg w8 hbox hb; have n0_ := Aside0.mk (below_step (bz HB) hb); have n1_ := Aside0.mk (hbox); have n2_ := Aside0.mk ((by rw [hg]; exact (below_size (bz HB)) : w.heap.size <= gb438)); have n3_ := Aside0.mk ((by rw [hg]; exact (below_size (bz HB)) : w.heap.size <= gb438)); clear HB; have HB := n0_; have BK438 := n1_; have GW438 := n2_; have GE438 := n3_; clear n0_ n1_ n2_ n3_; clear hb hbox hg; have hcz9_0 : w8.cell? ⟨gb438, 0, none⟩ = some (.int .u8 a0_0) := cz BK438.out 0 rfl; have hcz9_1 : w8.cell? ⟨gb438, 1, none⟩ = some (.int .u8 a0_1) := cz BK438.out 1 rfl; have hcz9_2 : w8.cell? ⟨gb438, 2, none⟩ = some (.int .u16 a0_2) := cz BK438.out 2 rfl; have hcz9_3 : w8.cell? ⟨gb438, 3, none⟩ = some (.int .u32 a0_3) := cz BK438.out 3 rfl; have hcz9_4 : w8.cell? ⟨gb438, 4, none⟩ = some (.slice A0_4 l0_4.length c0_4) := cz BK438.out 4 rfl; have hfz9_0 := blk_frozen BK438.out 0; have hfz9_1 := blk_frozen BK438.out 1; have hfz9_2 := blk_frozen BK438.out 2; have hfz9_3 := blk_frozen BK438.out 3; have hfz9_4 := blk_frozen BK438.out 4))
   have n0_ := Aside0.mk (blk_drew BK438.out); have n1_ := Aside0.mk (below_drew1 HB.out); clear BK438; clear HB; have BK438 := n0_; have HB := n1_; clear n0_ n1_; refine start_ (n := 16) (S := fun w' => w'.cell? ⟨gb438, 0, none⟩ = some (.int .u8 a0_0) /\ w'.cell? ⟨gb438, 1, none⟩ = some (.int .u8 a0_1) /\ w'.cell? ⟨gb438, 2, none⟩ = some (.int .u16 a0_2) /\ w'.cell? ⟨gb438, 3, none⟩ = some (.int .u32 a0_3) /\ w'.cell? ⟨gb438, 4, none⟩ = some (.slice A0_4 l0_4.length c0_4)) (ds := []) #[false, false, false, false, false, false, false, false, false, false, false, false, false, false, false, false] (by kernel_rfl) rfl rfl ⟨cz BK438.out 0 rfl, cz BK438.out 1 rfl, cz BK438.out 2 rfl, cz BK438.out 3 rfl, cz BK438.out 4 rfl⟩ (fun hHeld => ?_); refine with_tabW lychref1_IcmpBytes.tab3 lychref1_IcmpBytes.bits3 (fun HT_ HW_ => ?_); generalize w8.drew = w10 at BK438 HB hHeld |-
   refine pz 0 8 HT_ ?_; refine pz 2 10 HT_ ?_; refine pz 5 13 HT_ ?_; refine pz 8 16 HT_ ?_; refine pz 11 19 HT_ ?_; refine take_ (i := 1) (N := some 9) (v := ?_) (a' := ?_) #[true, true, true, false, false, true, false, false, true, false, false, true, false, false, false, false] rfl rfl (take_ofW HT_.out HW_.out (by kernel_rfl)) (fun _ _ _ h => h) (Or.inl ⟨by rfl, ?_⟩) hHeld ?_ ?_
   rotate_left
   ·rintro w' ⟨s0, s1, s2, s3, s4⟩
    go_simp
    with_reducible rfl
   rotate_left
   ·simp only [ps_]
    rfl
   refine take_ (i := 3) (N := some 11) (v := ?_) (a' := ?_) #[true, true, true, true, false, true, false, false, true, false, false, true, false, false, false, false] rfl rfl (take_ofW HT_.out HW_.out (by kernel_rfl)) (fun _ _ _ h => h) (Or.inl ⟨by rfl, ?_⟩) hHeld ?_ ?_
   rotate_left
   ·rintro w' ⟨s0, s1, s2, s3, s4⟩
    go_simp
    with_reducible rfl
   rotate_left
   ·simp only [ps_]
    rfl
   refine take_ (i := 6) (N := some 14) (v := ?_) (a' := ?_) #[true, true, true, true, false, true, true, false, true, false, false, true, false, false, false, false] rfl rfl (take_ofW HT_.out HW_.out (by kernel_rfl)) (fun _ _ _ h => h) (Or.inl ⟨by rfl, ?_⟩) hHeld ?_ ?_
   rotate_left
   ·rintro w' ⟨s0, s1, s2, s3, s4⟩
    go_simp
    with_reducible rfl
   rotate_left
   ·simp only [ps_]
    rfl
   refine take_ (i := 9) (N := some 17) (v := ?_) (a' := ?_) #[true, true, true, true, false, true, true, false, true, true, false, true, false, false, false, false] rfl rfl (take_ofW HT_.out HW_.out (by kernel_rfl)) (fun _ _ _ h => h) (Or.inl ⟨by rfl, ?_⟩) hHeld ?_ ?_
   rotate_left
   ·rintro w' ⟨s0, s1, s2, s3, s4⟩
    go_simp
    with_reducible rfl
   rotate_left
   ·simp only [ps_]
    rfl
   refine take_ (i := 12) (N := some 20) (v := ?_) (a' := ?_) #[true, true, true, true, false, true, true, false, true, true, false, true, true, false, false, false] rfl rfl (take_ofW HT_.out HW_.out (by kernel_rfl)) (fun _ _ _ h => h) (Or.inl ⟨by rfl, ?_⟩) hHeld ?_ ?_
   rotate_left
   ·rintro w' ⟨s0, s1, s2, s3, s4⟩
    go_simp
    with_reducible rfl
   rotate_left
   ·simp only [ps_]
    rfl
   refine oz 4 (some 12) HT_ (fun K hK => ?_); refine Kd.R_lit_step (Kd.int .u8) _ 5 ?hg (N := 12) ?hd (xs := ([a0_0, a0_1] : List Int)) (inner := [.int .u8 a0_0, .int .u8 a0_1]) (ok := fun _ => True) (okp := fun _ => True) ?hr ?hp (fun _ hk => hk) trivial (Below.refl _ _) (Nat.le_refl _) (by simp) ?_; (case hd => rfl); (case hg => rfl); (case hr => first | (go_simp; done) | (go_simp; rfl)); (case hp => exact (Reps.one (show Kd.M (Kd.int .u8) _ _ _ a0_0 [.int .u8 a0_0] from rfl) (Reps.one (show Kd.M (Kd.int .u8) _ _ _ a0_1 [.int .u8 a0_1] from rfl) (Reps.none _ _)))); intro v440 w11 ho12 hb hg_ hnew_; clear hg_ hnew_
   (first | rw [<- Ny439.out] at ho12 | (simp only [Int.reduceToNat] at ho12; rw [<- Ny439.out] at ho12))
   have n0_ := Aside0.mk (Kd.R_lower ho12 (below_size (bz HB))); have n1_ := Aside0.mk (blk_below (kz BK438) hb); have n2_ := Aside0.mk (below_step (bz HB) hb); clear BK438; clear HB; have HO441 := n0_; have BK438 := n1_; have HB := n2_; clear n0_ n1_ n2_; clear hb ho12; obtain ⟨Ao13, co13, eo13⟩ := Kd.R_slice HO441.out
   (first | subst eo13 | (injection eo13 with f1_ f2_ f3_; have f4_ := f1_.symm; have f5_ := f3_.symm; clear f1_ f2_ f3_; subst f4_; subst f5_))
   refine hK.out _ _ ⟨cz BK438.out 0 rfl, cz BK438.out 1 rfl, cz BK438.out 2 rfl, cz BK438.out 3 rfl, cz BK438.out 4 rfl⟩ (fun hHeld => ?_); clear hK K; refine nz 12 ?_; refine oz 7 (some 15) HT_ (fun K hK => ?_); refine gG Try.func83 #[.slice Ao13 y439.length co13, .int .u16 a0_2] ?_
   with_reducible refine (lychref1_Put16.calls (fun k_ => some k_ = (.slice Ao13 y439.length co13 : Value).ownBlock) (.slice Ao13 y439.length co13) y439 a0_2 t442 w _ ?side1 ?side2 A5.out).mono ?_
   (case side1 => exact bz HB)
   (case side2 => exact Kd.R_tight rfl HO441.out)
   rintro e w14 ⟨v443, rfl, ho0, hb, hkp⟩; refine ⟨_, rfl, ?_⟩; have n0_ := Aside0.mk (blk_kept (kz BK438) hkp (fun hs_ => (fun e_ => (Kd.R_ne HO441.out BK438.out (by decide)) e_) hs_)); have n1_ := Aside0.mk (Kd.R_mono (ok' := fun k_ => True) ho0 (fun k_ hk_ => trivial)); have n2_ := Aside0.mk (hb); clear BK438; clear HB; clear HO441; have BK438 := n0_; have HO444 := n1_; have HB := n2_; clear n0_ n1_ n2_
   (try clear hb)
   (try clear hkp)
   (try clear ho0)
   obtain ⟨Ao15, co15, eo15⟩ := Kd.R_slice HO444.out
   (first | subst eo15 | (injection eo15 with f1_ f2_ f3_; have f4_ := f1_.symm; have f5_ := f3_.symm; clear f1_ f2_ f3_; subst f4_; subst f5_))
   refine hK.out _ _ ⟨cz BK438.out 0 rfl, cz BK438.out 1 rfl, cz BK438.out 2 rfl, cz BK438.out 3 rfl, cz BK438.out 4 rfl⟩ (fun hHeld => ?_); clear hK K; refine nz 15 ?_; refine oz 10 (some 18) HT_ (fun K hK => ?_); refine gG Try.func84 #[.slice Ao15 t442.length co15, .int .u32 a0_3] ?_
   with_reducible refine (lychref1_Put32.calls (fun k_ => some k_ = (.slice Ao15 t442.length co15 : Value).ownBlock) (.slice Ao15 t442.length co15) t442 a0_3 t445 w _ ?side1 ?side2 A6.out).mono ?_
   (case side1 => exact bz HB)
   (case side2 => exact Kd.R_tight rfl HO444.out)
   rintro e w16 ⟨v446, rfl, ho0, hb, hkp⟩; refine ⟨_, rfl, ?_⟩; have n0_ := Aside0.mk (blk_kept (kz BK438) hkp (fun hs_ => (fun e_ => (Kd.R_ne HO444.out BK438.out (by decide)) e_) hs_)); have n1_ := Aside0.mk (Kd.R_mono (ok' := fun k_ => True) ho0 (fun k_ hk_ => trivial)); have n2_ := Aside0.mk (hb); clear BK438; clear HB; clear HO444; have BK438 := n0_; have HO447 := n1_; have HB := n2_; clear n0_ n1_ n2_
   (try clear hb)
   (try clear hkp)
   (try clear ho0)
   refine hK.out _ _ ⟨cz BK438.out 0 rfl, cz BK438.out 1 rfl, cz BK438.out 2 rfl, cz BK438.out 3 rfl, cz BK438.out 4 rfl⟩ (fun hHeld => ?_); clear hK K; refine nz 18 ?_; refine oz 13 (some 21) HT_ (fun K hK => ?_); refine Kd.R_append_rows_step (Kd.int .u8) (w0 := w) w.heap.size (by rfl) (.tmp 18) (.tmp 20) 23 5 (.int .u8 0) 1 rfl Try.underlying23 info5 rfl (by decide) (by omega) v446 t445 l0_4 _ _ _ (fun _ => True) (fun _ => False) rfl rfl ?aO ?aR (fun _ _ h => h) (fun _ h => h.elim) ?aF ?aB ?aS ?aL ?_
   (case aR => exact Kd.C_below HR0_4.out (bz HB))
   (case aB => exact bz HB)
   (case aF => exact (fun _ _ => trivial))
   (case aO => exact (Kd.rz HO447))
   (case aS => exact (below_size (bz HB)))
   (case aL => have := LMc7.out; omega)
   intro v449 w17 ho hb hg hat; rw [<- Ny448.out] at ho
   have n0_ := Aside0.mk (blk_grown (kz BK438) hg (Kd.R_ne HO447.out BK438.out (by decide))); have n1_ := Aside0.mk (hb); have n2_ := Aside0.mk (ho); clear BK438; clear HB; clear HO447; have BK438 := n0_; have HB := n1_; have HO450 := n2_; clear n0_ n1_ n2_; clear ho hb hg hat; refine hK.out _ _ ⟨cz BK438.out 0 rfl, cz BK438.out 1 rfl, cz BK438.out 2 rfl, cz BK438.out 3 rfl, cz BK438.out 4 rfl⟩ (fun hHeld => ?_); clear hK K; refine nz 21 ?_; refine pz 14 2 HT_ ?_; refine pz 15 3 HT_ ?_; refine dz HT_ ?_
   try go_wp2
   go_ret2
   exact ⟨_, by first | rfl | (simp [errW_none, errW_some] <;> rfl) | (simp [*, errW_none, errW_some] <;> rfl), by (with_reducible repeat (first | apply Kd.R_alloc | apply Kd.R_drewN | apply Kd.R_drew)); exact HO450.out, bz HB⟩
  ·rw [if_neg c7] at H
   exact absurd H (by simp)
def lychref1_IcmpSum.f (k : Nat) (a0_0 : Int) (a0_1 : Int) (a0_2 : Int) (a0_3 : Int) (l0_4 : List Int) : Option (Int) := (lychref1_IcmpBytes.f a0_0 a0_1 0 a0_3 l0_4).bind fun bt452 => (if bt452.2 = 0 then ((lychref1_Of.f k bt452.1).bind fun t456 => (some t456)) else (some 0))
theorem lychref1_IcmpSum.calls (k : Nat) (a0_0 : Int) (a0_1 : Int) (a0_2 : Int) (a0_3 : Int) (A0_4 : Option Addr) (c0_4 : Nat) (l0_4 : List Int) (r : Int) (w : World) (hr0_4 : Kd.C (Kd.int .u8) w A0_4 l0_4.length l0_4) (hc0_4 : l0_4.length <= c0_4) (h : lychref1_IcmpSum.f k a0_0 a0_1 a0_2 a0_3 l0_4 = some r) :
  Calls Try.prog 54 #[.agg #[.int .u8 a0_0, .int .u8 a0_1, .int .u16 a0_2, .int .u32 a0_3, .slice A0_4 l0_4.length c0_4]] w fun e w' => e = .returned (.int .u16 r) /\ Below w.heap.size w w' := by
 have hu101 := Try.underlying101; have HR0_4 := Aside0.mk hr0_4; have HC0_4 := Aside0.mk hc0_4; clear hr0_4 hc0_4; have HB := Aside0.mk (Below.refl w.heap.size w); have H : ((lychref1_IcmpBytes.f a0_0 a0_1 0 a0_3 l0_4).bind fun bt452 => (if bt452.2 = 0 then ((lychref1_Of.f k bt452.1).bind fun t456 => (some t456)) else (some 0))) = some r := h; clear h; replace H := Option.bind_eq_some_iff.mp H; obtain ⟨⟨t452, t455⟩, A20, H⟩ := H
 (try dsimp -simprocs only at H)
 have A2 := Aside0.mk A20; clear A20
 by_cases c3 : t455 = 0
 ·rw [if_pos c3] at H
  have c3b0 : (t455 == 0) = true := beq_iff_eq.mpr c3; have c3b1 : (t455 != 0) = false := bne_eq_false_iff_eq.mpr c3; clear c3; replace H := Option.bind_eq_some_iff.mp H; obtain ⟨t456, A40, H⟩ := H
  (try dsimp -simprocs only at H)
  have A4 := Aside0.mk A40; clear A40; obtain rfl := Option.some.inj H
  go_enter Try.func54, Try.ntmps54
  go_wp2_with (first | ((with_reducible refine gate_dst (N := 1) rfl ?_); refine box_event ?hg (N := 1) ?hd (cs := #[.int .u8 a0_0, .int .u8 a0_1, .int .u16 a0_2, .int .u32 a0_3, .slice A0_4 l0_4.length c0_4]) (t := 101) ?hr ?_; (case hd => rfl); (case hg => rfl); (case hr => first | (go_simp; done) | (go_simp; rfl)); intro gb451 hg w5 hbox hb; have n0_ := Aside0.mk (below_step (bz HB) hb); have n1_ := Aside0.mk (hbox); have n2_ := Aside0.mk ((by rw [hg]; exact (below_size (bz HB)) : w.heap.size <= gb451)); have n3_ := Aside0.mk ((by rw [hg]; exact (below_size (bz HB)) : w.heap.size <= gb451)); clear HB; have HB := n0_; have BK451 := n1_; have GW451 := n2_; have GE451 := n3_; clear n0_ n1_ n2_ n3_; clear hb hbox hg; have hcz6_0 : w5.cell? ⟨gb451, 0, none⟩ = some (.int .u8 a0_0) := cz BK451.out 0 rfl; have hcz6_1 : w5.cell? ⟨gb451, 1, none⟩ = some (.int .u8 a0_1) := cz BK451.out 1 rfl; have hcz6_2 : w5.cell? ⟨gb451, 2, none⟩ = some (.int .u16 a0_2) := cz BK451.out 2 rfl; have hcz6_3 : w5.cell? ⟨gb451, 3, none⟩ = some (.int .u32 a0_3) := cz BK451.out 3 rfl; have hcz6_4 : w5.cell? ⟨gb451, 4, none⟩ = some (.slice A0_4 l0_4.length c0_4) := cz BK451.out 4 rfl; have hfz6_0 := blk_frozen BK451.out 0; have hfz6_1 := blk_frozen BK451.out 1; have hfz6_2 := blk_frozen BK451.out 2; have hfz6_3 := blk_frozen BK451.out 3; have hfz6_4 := blk_frozen BK451.out 4) | ((with_reducible refine gate_callee (f := 55) rfl ?_); refine gL 8 Try.func55 #[.agg #[.int .u8 a0_0, .int .u8 a0_1, .int .u16 0, .int .u32 a0_3, .slice A0_4 l0_4.length c0_4]] ?_; (with_reducible refine (lychref1_IcmpBytes.calls a0_0 a0_1 0 a0_3 _ _ l0_4 t452 t455 _ ?side1 ?side2 A2.out).mono ?_); (case side1 => exact Kd.C_below HR0_4.out (bz HB)); (case side2 => exact HC0_4.out); rintro e w7 ⟨v453, rfl, ho0, hb⟩; refine ⟨_, rfl, ?_⟩; have n0_ := Aside0.mk (Kd.R_lower ho0 (below_size (bz HB))); have n1_ := Aside0.mk (blk_below (g := gb451) (o := .cells #[.int .u8 a0_0, .int .u8 a0_1, .int .u16 0, .int .u32 a0_3, .slice A0_4 l0_4.length c0_4] 101 (0, 0)) (by (with_reducible repeat (first | refine blk_drewN ?_ _ | refine blk_drew ?_ | refine blk_alloc ?_ _)); refine blk_put (cs := #[.int .u8 a0_0, .int .u8 a0_1, .int .u16 a0_2, .int .u32 a0_3, .slice A0_4 l0_4.length c0_4]) ?_ 2 _ rfl; (with_reducible repeat (first | refine blk_drewN ?_ _ | refine blk_drew ?_ | refine blk_alloc ?_ _)); exact BK451.out) hb); have n2_ := Aside0.mk (below_step (bz HB) hb); clear BK451; clear HB; have HO454 := n0_; have BK451 := n1_; have HB := n2_; clear n0_ n1_ n2_; (try clear hb); (try clear hb2); (try clear hk); (try clear hi); (try clear ho0); obtain ⟨Ao8, co8, eo8⟩ := Kd.R_slice HO454.out; subst eo8) | ((with_reducible refine gate_callee (f := 85) rfl ?_); refine gL 14 Try.func85 #[.slice Ao8 t452.length co8] ?_; (with_reducible refine (lychref1_Of.calls k _ _ t452 t456 _ ?side1 ?side2 A4.out).mono ?_); (case side1 => repeat (first | exact (Kd.R_reads' HO454.out).2.2 | (with_reducible refine Kd.C_alloc ?_ _) | (with_reducible refine Kd.C_drewN ?_ _) | (with_reducible refine Kd.C_drew ?_))); (case side2 => exact (Kd.R_reads' HO454.out).2.1); rintro e w9 ⟨rfl, hb⟩; refine ⟨_, rfl, ?_⟩; have n0_ := Aside0.mk (Kd.R_below (Kd.rz HO454) hb); have n1_ := Aside0.mk (blk_below (kz BK451) hb); have n2_ := Aside0.mk (below_step (bz HB) hb); clear HO454; clear BK451; clear HB; have HO454 := n0_; have BK451 := n1_; have HB := n2_; clear n0_ n1_ n2_; (try clear hb); (try clear hb2); (try clear hk); (try clear hi)))
  go_ret
  exact ⟨by first | rfl | (simp [errW_none, errW_some] <;> rfl) | (simp [*, errW_none, errW_some] <;> rfl), bz HB⟩
 ·rw [if_neg c3] at H
  have c3b0 : (t455 == 0) = false := beq_eq_false_iff_ne.mpr c3; have c3b1 : (t455 != 0) = true := bne_iff_ne.mpr c3; obtain rfl := Option.some.inj H
  go_enter Try.func54, Try.ntmps54
  go_wp2_with (first | ((with_reducible refine gate_dst (N := 1) rfl ?_); refine box_event ?hg (N := 1) ?hd (cs := #[.int .u8 a0_0, .int .u8 a0_1, .int .u16 a0_2, .int .u32 a0_3, .slice A0_4 l0_4.length c0_4]) (t := 101) ?hr ?_; (case hd => rfl); (case hg => rfl); (case hr => first | (go_simp; done) | (go_simp; rfl)); intro gb451 hg w10 hbox hb; have n0_ := Aside0.mk (below_step (bz HB) hb); have n1_ := Aside0.mk (hbox); have n2_ := Aside0.mk ((by rw [hg]; exact (below_size (bz HB)) : w.heap.size <= gb451)); have n3_ := Aside0.mk ((by rw [hg]; exact (below_size (bz HB)) : w.heap.size <= gb451)); clear HB; have HB := n0_; have BK451 := n1_; have GW451 := n2_; have GE451 := n3_; clear n0_ n1_ n2_ n3_; clear hb hbox hg; have hcz11_0 : w10.cell? ⟨gb451, 0, none⟩ = some (.int .u8 a0_0) := cz BK451.out 0 rfl; have hcz11_1 : w10.cell? ⟨gb451, 1, none⟩ = some (.int .u8 a0_1) := cz BK451.out 1 rfl; have hcz11_2 : w10.cell? ⟨gb451, 2, none⟩ = some (.int .u16 a0_2) := cz BK451.out 2 rfl; have hcz11_3 : w10.cell? ⟨gb451, 3, none⟩ = some (.int .u32 a0_3) := cz BK451.out 3 rfl; have hcz11_4 : w10.cell? ⟨gb451, 4, none⟩ = some (.slice A0_4 l0_4.length c0_4) := cz BK451.out 4 rfl; have hfz11_0 := blk_frozen BK451.out 0; have hfz11_1 := blk_frozen BK451.out 1; have hfz11_2 := blk_frozen BK451.out 2; have hfz11_3 := blk_frozen BK451.out 3; have hfz11_4 := blk_frozen BK451.out 4) | ((with_reducible refine gate_callee (f := 55) rfl ?_); refine gL 8 Try.func55 #[.agg #[.int .u8 a0_0, .int .u8 a0_1, .int .u16 0, .int .u32 a0_3, .slice A0_4 l0_4.length c0_4]] ?_; (with_reducible refine (lychref1_IcmpBytes.calls a0_0 a0_1 0 a0_3 _ _ l0_4 t452 t455 _ ?side1 ?side2 A2.out).mono ?_); (case side1 => exact Kd.C_below HR0_4.out (bz HB)); (case side2 => exact HC0_4.out); rintro e w12 ⟨v453, rfl, ho0, hb⟩; refine ⟨_, rfl, ?_⟩; have n0_ := Aside0.mk (Kd.R_lower ho0 (below_size (bz HB))); have n1_ := Aside0.mk (blk_below (g := gb451) (o := .cells #[.int .u8 a0_0, .int .u8 a0_1, .int .u16 0, .int .u32 a0_3, .slice A0_4 l0_4.length c0_4] 101 (0, 0)) (by (with_reducible repeat (first | refine blk_drewN ?_ _ | refine blk_drew ?_ | refine blk_alloc ?_ _)); refine blk_put (cs := #[.int .u8 a0_0, .int .u8 a0_1, .int .u16 a0_2, .int .u32 a0_3, .slice A0_4 l0_4.length c0_4]) ?_ 2 _ rfl; (with_reducible repeat (first | refine blk_drewN ?_ _ | refine blk_drew ?_ | refine blk_alloc ?_ _)); exact BK451.out) hb); have n2_ := Aside0.mk (below_step (bz HB) hb); clear BK451; clear HB; have HO454 := n0_; have BK451 := n1_; have HB := n2_; clear n0_ n1_ n2_; (try clear hb); (try clear hb2); (try clear hk); (try clear hi); (try clear ho0)))
  go_ret
  exact ⟨by first | rfl | (simp [errW_none, errW_some] <;> rfl) | (simp [*, errW_none, errW_some] <;> rfl), bz HB⟩
def lychref1_UdpSum.f (k : Nat) (a0 : Int) (a1 : Int) (a2_0 : Int) (a2_1 : Int) (a2_2 : Int) (l2_3 : List Int) : Option (Int) := (lychref1_UdpBytes.f a2_0 a2_1 0 l2_3).bind fun bt458 => (if bt458.2 = 0 then ((lychref1_Pseudo.f k a0 a1 17 (bt458.1.length : Int)).bind fun t462 => ((lychref1_Add.f k t462 bt458.1).bind fun t463 => ((lychref1_Fold.f k t463).bind fun t464 => (if (Go.bits .xor .u16 IntKind.u16.max t464) = 0 then (some 65535) else (some (Go.bits .xor .u16 IntKind.u16.max t464)))))) else (some 0))
theorem lychref1_UdpSum.calls (k : Nat) (a0 : Int) (a1 : Int) (a2_0 : Int) (a2_1 : Int) (a2_2 : Int) (A2_3 : Option Addr) (c2_3 : Nat) (l2_3 : List Int) (r : Int) (w : World) (hr2_3 : Kd.C (Kd.int .u8) w A2_3 l2_3.length l2_3) (hc2_3 : l2_3.length <= c2_3) (h : lychref1_UdpSum.f k a0 a1 a2_0 a2_1 a2_2 l2_3 = some r) :
  Calls Try.prog 72 #[.int .u32 a0, .int .u32 a1, .agg #[.int .u16 a2_0, .int .u16 a2_1, .int .u16 a2_2, .slice A2_3 l2_3.length c2_3]] w fun e w' => e = .returned (.int .u16 r) /\ Below w.heap.size w w' := by
 have hu83 := Try.underlying83; have hsg_u16 : IntKind.u16.signed = false := rfl; have HR2_3 := Aside0.mk hr2_3; have HC2_3 := Aside0.mk hc2_3; clear hr2_3 hc2_3; have HB := Aside0.mk (Below.refl w.heap.size w); have H : ((lychref1_UdpBytes.f a2_0 a2_1 0 l2_3).bind fun bt458 => (if bt458.2 = 0 then ((lychref1_Pseudo.f k a0 a1 17 (bt458.1.length : Int)).bind fun t462 => ((lychref1_Add.f k t462 bt458.1).bind fun t463 => ((lychref1_Fold.f k t463).bind fun t464 => (if (Go.bits .xor .u16 IntKind.u16.max t464) = 0 then (some 65535) else (some (Go.bits .xor .u16 IntKind.u16.max t464)))))) else (some 0))) = some r := h; clear h; replace H := Option.bind_eq_some_iff.mp H; obtain ⟨⟨t458, t461⟩, A40, H⟩ := H
 (try dsimp -simprocs only at H)
 have A4 := Aside0.mk A40; clear A40
 by_cases c5 : t461 = 0
 ·rw [if_pos c5] at H
  have c5b0 : (t461 == 0) = true := beq_iff_eq.mpr c5; have c5b1 : (t461 != 0) = false := bne_eq_false_iff_eq.mpr c5; clear c5; replace H := Option.bind_eq_some_iff.mp H; obtain ⟨t462, A60, H⟩ := H
  (try dsimp -simprocs only at H)
  have A6 := Aside0.mk A60; clear A60; replace H := Option.bind_eq_some_iff.mp H; obtain ⟨t463, A70, H⟩ := H
  (try dsimp -simprocs only at H)
  have A7 := Aside0.mk A70; clear A70; replace H := Option.bind_eq_some_iff.mp H; obtain ⟨t464, A80, H⟩ := H
  (try dsimp -simprocs only at H)
  have A8 := Aside0.mk A80; clear A80
  by_cases c9 : (Go.bits .xor .u16 IntKind.u16.max t464) = 0
  ·rw [if_pos c9] at H
   have c9b0 : ((Go.bits .xor .u16 IntKind.u16.max t464) == 0) = true := beq_iff_eq.mpr c9; have c9b1 : ((Go.bits .xor .u16 IntKind.u16.max t464) != 0) = false := bne_eq_false_iff_eq.mpr c9; clear c9; obtain rfl := Option.some.inj H
   go_enter Try.func72, Try.ntmps72
   go_wp2_with (first | ((with_reducible refine gate_dst (N := 5) rfl ?_); refine box_event ?hg (N := 5) ?hd (cs := #[.int .u16 a2_0, .int .u16 a2_1, .int .u16 a2_2, .slice A2_3 l2_3.length c2_3]) (t := 83) ?hr ?_; (case hd => rfl); (case hg => rfl); (case hr => first | (go_simp; done) | (go_simp; rfl)); intro gb457 hg w10 hbox hb; have n0_ := Aside0.mk (below_step (bz HB) hb); have n1_ := Aside0.mk (hbox); have n2_ := Aside0.mk ((by rw [hg]; exact (below_size (bz HB)) : w.heap.size <= gb457)); have n3_ := Aside0.mk ((by rw [hg]; exact (below_size (bz HB)) : w.heap.size <= gb457)); clear HB; have HB := n0_; have BK457 := n1_; have GW457 := n2_; have GE457 := n3_; clear n0_ n1_ n2_ n3_; clear hb hbox hg; have hcz11_0 : w10.cell? ⟨gb457, 0, none⟩ = some (.int .u16 a2_0) := cz BK457.out 0 rfl; have hcz11_1 : w10.cell? ⟨gb457, 1, none⟩ = some (.int .u16 a2_1) := cz BK457.out 1 rfl; have hcz11_2 : w10.cell? ⟨gb457, 2, none⟩ = some (.int .u16 a2_2) := cz BK457.out 2 rfl; have hcz11_3 : w10.cell? ⟨gb457, 3, none⟩ = some (.slice A2_3 l2_3.length c2_3) := cz BK457.out 3 rfl; have hfz11_0 := blk_frozen BK457.out 0; have hfz11_1 := blk_frozen BK457.out 1; have hfz11_2 := blk_frozen BK457.out 2; have hfz11_3 := blk_frozen BK457.out 3) | ((with_reducible refine gate_callee (f := 48) rfl ?_); refine gL 13 Try.func48 #[.agg #[.int .u16 a2_0, .int .u16 a2_1, .int .u16 0, .slice A2_3 l2_3.length c2_3]] ?_; (with_reducible refine (lychref1_UdpBytes.calls a2_0 a2_1 0 _ _ l2_3 t458 t461 _ ?side1 ?side2 A4.out).mono ?_); (case side1 => exact Kd.C_below HR2_3.out (bz HB)); (case side2 => exact HC2_3.out); rintro e w12 ⟨v459, rfl, ho0, hb⟩; refine ⟨_, rfl, ?_⟩; have n0_ := Aside0.mk (Kd.R_lower ho0 (below_size (bz HB))); have n1_ := Aside0.mk (blk_below (g := gb457) (o := .cells #[.int .u16 a2_0, .int .u16 a2_1, .int .u16 0, .slice A2_3 l2_3.length c2_3] 83 (0, 0)) (by (with_reducible repeat (first | refine blk_drewN ?_ _ | refine blk_drew ?_ | refine blk_alloc ?_ _)); refine blk_put (cs := #[.int .u16 a2_0, .int .u16 a2_1, .int .u16 a2_2, .slice A2_3 l2_3.length c2_3]) ?_ 2 _ rfl; (with_reducible repeat (first | refine blk_drewN ?_ _ | refine blk_drew ?_ | refine blk_alloc ?_ _)); exact BK457.out) hb); have n2_ := Aside0.mk (below_step (bz HB) hb); clear BK457; clear HB; have HO460 := n0_; have BK457 := n1_; have HB := n2_; clear n0_ n1_ n2_; (try clear hb); (try clear hb2); (try clear hk); (try clear hi); (try clear ho0); obtain ⟨Ao13, co13, eo13⟩ := Kd.R_slice HO460.out; subst eo13) | ((with_reducible refine gate_callee (f := 82) rfl ?_); refine gL 22 Try.func82 #[.int .u32 a0, .int .u32 a1, .int .u8 17, .int .i64 (t458.length : Int)] ?_; (with_reducible refine (lychref1_Pseudo.calls k a0 a1 17 (t458.length : Int) t462 _ A6.out).mono ?_); rintro e w' ⟨rfl, ⟨nd, rfl⟩⟩; refine ⟨_, rfl, ?_⟩) | ((with_reducible refine gate_callee (f := 80) rfl ?_); refine gL 24 Try.func80 #[.int .u32 t462, .slice Ao13 t458.length co13] ?_; (with_reducible refine (lychref1_Add.calls k t462 _ _ t458 t463 _ ?side1 ?side2 A7.out).mono ?_); (case side1 => repeat (first | exact (Kd.R_reads' HO460.out).2.2 | (with_reducible refine Kd.C_alloc ?_ _) | (with_reducible refine Kd.C_drewN ?_ _) | (with_reducible refine Kd.C_drew ?_))); (case side2 => exact (Kd.R_reads' HO460.out).2.1); rintro e w14 ⟨rfl, hb⟩; refine ⟨_, rfl, ?_⟩; have n0_ := Aside0.mk (Kd.R_below (Kd.rz HO460) hb); have n1_ := Aside0.mk (blk_below (kz BK457) hb); have n2_ := Aside0.mk (below_step (bz HB) hb); clear HO460; clear BK457; clear HB; have HO460 := n0_; have BK457 := n1_; have HB := n2_; clear n0_ n1_ n2_; (try clear hb); (try clear hb2); (try clear hk); (try clear hi)) | ((with_reducible refine gate_callee (f := 79) rfl ?_); refine gL 25 Try.func79 #[.int .u32 t463] ?_; (with_reducible refine (lychref1_Fold.calls k t463 t464 _ A8.out).mono ?_); rintro e w' ⟨rfl, ⟨nd, rfl⟩⟩; refine ⟨_, rfl, ?_⟩))
   go_ret
   exact ⟨by first | rfl | (simp [errW_none, errW_some] <;> rfl) | (simp [*, errW_none, errW_some] <;> rfl), bz HB⟩
  ·rw [if_neg c9] at H
   have c9b0 : ((Go.bits .xor .u16 IntKind.u16.max t464) == 0) = false := beq_eq_false_iff_ne.mpr c9; have c9b1 : ((Go.bits .xor .u16 IntKind.u16.max t464) != 0) = true := bne_iff_ne.mpr c9; obtain rfl := Option.some.inj H
   go_enter Try.func72, Try.ntmps72
   go_wp2_with (first | ((with_reducible refine gate_dst (N := 5) rfl ?_); refine box_event ?hg (N := 5) ?hd (cs := #[.int .u16 a2_0, .int .u16 a2_1, .int .u16 a2_2, .slice A2_3 l2_3.length c2_3]) (t := 83) ?hr ?_; (case hd => rfl); (case hg => rfl); (case hr => first | (go_simp; done) | (go_simp; rfl)); intro gb457 hg w15 hbox hb; have n0_ := Aside0.mk (below_step (bz HB) hb); have n1_ := Aside0.mk (hbox); have n2_ := Aside0.mk ((by rw [hg]; exact (below_size (bz HB)) : w.heap.size <= gb457)); have n3_ := Aside0.mk ((by rw [hg]; exact (below_size (bz HB)) : w.heap.size <= gb457)); clear HB; have HB := n0_; have BK457 := n1_; have GW457 := n2_; have GE457 := n3_; clear n0_ n1_ n2_ n3_; clear hb hbox hg; have hcz16_0 : w15.cell? ⟨gb457, 0, none⟩ = some (.int .u16 a2_0) := cz BK457.out 0 rfl; have hcz16_1 : w15.cell? ⟨gb457, 1, none⟩ = some (.int .u16 a2_1) := cz BK457.out 1 rfl; have hcz16_2 : w15.cell? ⟨gb457, 2, none⟩ = some (.int .u16 a2_2) := cz BK457.out 2 rfl; have hcz16_3 : w15.cell? ⟨gb457, 3, none⟩ = some (.slice A2_3 l2_3.length c2_3) := cz BK457.out 3 rfl; have hfz16_0 := blk_frozen BK457.out 0; have hfz16_1 := blk_frozen BK457.out 1; have hfz16_2 := blk_frozen BK457.out 2; have hfz16_3 := blk_frozen BK457.out 3) | ((with_reducible refine gate_callee (f := 48) rfl ?_); refine gL 13 Try.func48 #[.agg #[.int .u16 a2_0, .int .u16 a2_1, .int .u16 0, .slice A2_3 l2_3.length c2_3]] ?_; (with_reducible refine (lychref1_UdpBytes.calls a2_0 a2_1 0 _ _ l2_3 t458 t461 _ ?side1 ?side2 A4.out).mono ?_); (case side1 => exact Kd.C_below HR2_3.out (bz HB)); (case side2 => exact HC2_3.out); rintro e w17 ⟨v459, rfl, ho0, hb⟩; refine ⟨_, rfl, ?_⟩; have n0_ := Aside0.mk (Kd.R_lower ho0 (below_size (bz HB))); have n1_ := Aside0.mk (blk_below (g := gb457) (o := .cells #[.int .u16 a2_0, .int .u16 a2_1, .int .u16 0, .slice A2_3 l2_3.length c2_3] 83 (0, 0)) (by (with_reducible repeat (first | refine blk_drewN ?_ _ | refine blk_drew ?_ | refine blk_alloc ?_ _)); refine blk_put (cs := #[.int .u16 a2_0, .int .u16 a2_1, .int .u16 a2_2, .slice A2_3 l2_3.length c2_3]) ?_ 2 _ rfl; (with_reducible repeat (first | refine blk_drewN ?_ _ | refine blk_drew ?_ | refine blk_alloc ?_ _)); exact BK457.out) hb); have n2_ := Aside0.mk (below_step (bz HB) hb); clear BK457; clear HB; have HO460 := n0_; have BK457 := n1_; have HB := n2_; clear n0_ n1_ n2_; (try clear hb); (try clear hb2); (try clear hk); (try clear hi); (try clear ho0); obtain ⟨Ao18, co18, eo18⟩ := Kd.R_slice HO460.out; subst eo18) | ((with_reducible refine gate_callee (f := 82) rfl ?_); refine gL 22 Try.func82 #[.int .u32 a0, .int .u32 a1, .int .u8 17, .int .i64 (t458.length : Int)] ?_; (with_reducible refine (lychref1_Pseudo.calls k a0 a1 17 (t458.length : Int) t462 _ A6.out).mono ?_); rintro e w' ⟨rfl, ⟨nd, rfl⟩⟩; refine ⟨_, rfl, ?_⟩) | ((with_reducible refine gate_callee (f := 80) rfl ?_); refine gL 24 Try.func80 #[.int .u32 t462, .slice Ao18 t458.length co18] ?_; (with_reducible refine (lychref1_Add.calls k t462 _ _ t458 t463 _ ?side1 ?side2 A7.out).mono ?_); (case side1 => repeat (first | exact (Kd.R_reads' HO460.out).2.2 | (with_reducible refine Kd.C_alloc ?_ _) | (with_reducible refine Kd.C_drewN ?_ _) | (with_reducible refine Kd.C_drew ?_))); (case side2 => exact (Kd.R_reads' HO460.out).2.1); rintro e w19 ⟨rfl, hb⟩; refine ⟨_, rfl, ?_⟩; have n0_ := Aside0.mk (Kd.R_below (Kd.rz HO460) hb); have n1_ := Aside0.mk (blk_below (kz BK457) hb); have n2_ := Aside0.mk (below_step (bz HB) hb); clear HO460; clear BK457; clear HB; have HO460 := n0_; have BK457 := n1_; have HB := n2_; clear n0_ n1_ n2_; (try clear hb); (try clear hb2); (try clear hk); (try clear hi)) | ((with_reducible refine gate_callee (f := 79) rfl ?_); refine gL 25 Try.func79 #[.int .u32 t463] ?_; (with_reducible refine (lychref1_Fold.calls k t463 t464 _ A8.out).mono ?_); rintro e w' ⟨rfl, ⟨nd, rfl⟩⟩; refine ⟨_, rfl, ?_⟩))
   go_ret
   exact ⟨by first | rfl | (simp [errW_none, errW_some] <;> rfl) | (simp [*, errW_none, errW_some] <;> rfl), bz HB⟩
 ·rw [if_neg c5] at H
  have c5b0 : (t461 == 0) = false := beq_eq_false_iff_ne.mpr c5; have c5b1 : (t461 != 0) = true := bne_iff_ne.mpr c5; obtain rfl := Option.some.inj H
  go_enter Try.func72, Try.ntmps72
  go_wp2_with (first | ((with_reducible refine gate_dst (N := 5) rfl ?_); refine box_event ?hg (N := 5) ?hd (cs := #[.int .u16 a2_0, .int .u16 a2_1, .int .u16 a2_2, .slice A2_3 l2_3.length c2_3]) (t := 83) ?hr ?_; (case hd => rfl); (case hg => rfl); (case hr => first | (go_simp; done) | (go_simp; rfl)); intro gb457 hg w20 hbox hb; have n0_ := Aside0.mk (below_step (bz HB) hb); have n1_ := Aside0.mk (hbox); have n2_ := Aside0.mk ((by rw [hg]; exact (below_size (bz HB)) : w.heap.size <= gb457)); have n3_ := Aside0.mk ((by rw [hg]; exact (below_size (bz HB)) : w.heap.size <= gb457)); clear HB; have HB := n0_; have BK457 := n1_; have GW457 := n2_; have GE457 := n3_; clear n0_ n1_ n2_ n3_; clear hb hbox hg; have hcz21_0 : w20.cell? ⟨gb457, 0, none⟩ = some (.int .u16 a2_0) := cz BK457.out 0 rfl; have hcz21_1 : w20.cell? ⟨gb457, 1, none⟩ = some (.int .u16 a2_1) := cz BK457.out 1 rfl; have hcz21_2 : w20.cell? ⟨gb457, 2, none⟩ = some (.int .u16 a2_2) := cz BK457.out 2 rfl; have hcz21_3 : w20.cell? ⟨gb457, 3, none⟩ = some (.slice A2_3 l2_3.length c2_3) := cz BK457.out 3 rfl; have hfz21_0 := blk_frozen BK457.out 0; have hfz21_1 := blk_frozen BK457.out 1; have hfz21_2 := blk_frozen BK457.out 2; have hfz21_3 := blk_frozen BK457.out 3) | ((with_reducible refine gate_callee (f := 48) rfl ?_); refine gL 13 Try.func48 #[.agg #[.int .u16 a2_0, .int .u16 a2_1, .int .u16 0, .slice A2_3 l2_3.length c2_3]] ?_; (with_reducible refine (lychref1_UdpBytes.calls a2_0 a2_1 0 _ _ l2_3 t458 t461 _ ?side1 ?side2 A4.out).mono ?_); (case side1 => exact Kd.C_below HR2_3.out (bz HB)); (case side2 => exact HC2_3.out); rintro e w22 ⟨v459, rfl, ho0, hb⟩; refine ⟨_, rfl, ?_⟩; have n0_ := Aside0.mk (Kd.R_lower ho0 (below_size (bz HB))); have n1_ := Aside0.mk (blk_below (g := gb457) (o := .cells #[.int .u16 a2_0, .int .u16 a2_1, .int .u16 0, .slice A2_3 l2_3.length c2_3] 83 (0, 0)) (by (with_reducible repeat (first | refine blk_drewN ?_ _ | refine blk_drew ?_ | refine blk_alloc ?_ _)); refine blk_put (cs := #[.int .u16 a2_0, .int .u16 a2_1, .int .u16 a2_2, .slice A2_3 l2_3.length c2_3]) ?_ 2 _ rfl; (with_reducible repeat (first | refine blk_drewN ?_ _ | refine blk_drew ?_ | refine blk_alloc ?_ _)); exact BK457.out) hb); have n2_ := Aside0.mk (below_step (bz HB) hb); clear BK457; clear HB; have HO460 := n0_; have BK457 := n1_; have HB := n2_; clear n0_ n1_ n2_; (try clear hb); (try clear hb2); (try clear hk); (try clear hi); (try clear ho0)))
  go_ret
  exact ⟨by first | rfl | (simp [errW_none, errW_some] <;> rfl) | (simp [*, errW_none, errW_some] <;> rfl), bz HB⟩
attribute [local go_sem] max2_int min2_int max_two min_two max_three min_three max_four min_four
def lychref1_TcpBytes.j0 : Nat -> Bool -> Int -> Int -> Int -> Int -> Int -> Int -> Int -> Int -> List Int -> List Int -> Option (List Int × Int)
 | 0, _, _, _, _, _, _, _, _, _, _, _ => none
 | k + 1, x16, x466000, x466001, x466002, x466003, x466004, x466005, x466006, x466007, x466008, x466009 => if x16 = true then (some (([] : List Int), 21)) else (if (x466009.length : Int) > (wrap64 (65515 - (wrap64 (20 + (x466008.length : Int))))) then (some (([] : List Int), 23)) else ((lychref1_Put16.f ([] : List Int) x466000).bind fun t466 => ((lychref1_Put16.f t466 x466001).bind fun t469 => ((lychref1_Put32.f t469 x466002).bind fun t472 => ((lychref1_Put32.f t472 x466003).bind fun t475 => ((some (([(((wrap64 (Int.tdiv (wrap64 (20 + (x466008.length : Int))) 4)) % 256) * 16) % 256, x466004] : List Int) : List Int)).bind fun y478 => (if t475.length + y478.length < 140737488355328 then ((lychref1_Put16.f (t475 ++ y478) x466005).bind fun t484 => ((lychref1_Put16.f t484 x466006).bind fun t487 => ((lychref1_Put16.f t487 x466007).bind fun t490 => (if t490.length + x466008.length < 140737488355328 then ((some (t490 ++ x466008 : List Int)).bind fun y493 => (if y493.length + x466009.length < 140737488355328 then (some ((y493 ++ x466009), 0)) else (none))) else (none))))) else (none))))))))
def lychref1_TcpBytes.f (k : Nat) (a0_0 : Int) (a0_1 : Int) (a0_2 : Int) (a0_3 : Int) (a0_4 : Int) (a0_5 : Int) (a0_6 : Int) (a0_7 : Int) (l0_8 : List Int) (l0_9 : List Int) : Option (List Int × Int) := if ((l0_8.length : Int) % 4) = 0 then (lychref1_TcpBytes.j0 k (decide ((l0_8.length : Int) > 40)) a0_0 a0_1 a0_2 a0_3 a0_4 a0_5 a0_6 a0_7 l0_8 l0_9) else (lychref1_TcpBytes.j0 k true a0_0 a0_1 a0_2 a0_3 a0_4 a0_5 a0_6 a0_7 l0_8 l0_9)
def lychref1_TcpBytes.T6 : Bool × List (List Nat × List Nat) := (true, [([], []), ([0], [0]), ([1], [1]), ([], []), ([3], [3]), ([2, 4, 2], [2, 4]), ([], []), ([6], [6]), ([5, 7, 5], [5, 7]), ([], []), ([9], [9]), ([8, 10, 8], [8, 10]), ([11, 11, 0, 1, 2, 3, 4, 5, 6, 7, 8, 9, 10, 11], [11])])
def lychref1_TcpBytes.B6 : List Nat := [0, 1, 3, 0, 8, 31, 0, 64, 255, 0, 512, 2047, 4095]
theorem lychref1_TcpBytes.tab6 : rtab .any (opsOf Try.f75 6) = lychref1_TcpBytes.T6 := by kernel_rfl
theorem lychref1_TcpBytes.bits6 : waitsOk lychref1_TcpBytes.T6.2 lychref1_TcpBytes.B6 = true := by kernel_rfl
def lychref1_TcpBytes.T7 : Bool × List (List Nat × List Nat) := (true, [([], []), ([], []), ([1], [1]), ([2], [2]), ([3], [3]), ([], []), ([5], [5]), ([4, 6], [4, 6]), ([0, 7], [0, 7]), ([], []), ([9], [9]), ([8, 10, 8], [8, 10]), ([11, 11, 0, 1, 2, 3, 4, 5, 6, 7, 8, 9, 10, 11], [0, 11])])
def lychref1_TcpBytes.B7 : List Nat := [0, 0, 2, 6, 14, 0, 32, 126, 255, 0, 512, 2047, 4095]
theorem lychref1_TcpBytes.tab7 : rtab .any (opsOf Try.f75 7) = lychref1_TcpBytes.T7 := by kernel_rfl
theorem lychref1_TcpBytes.bits7 : waitsOk lychref1_TcpBytes.T7.2 lychref1_TcpBytes.B7 = true := by kernel_rfl
def lychref1_TcpBytes.T8 : Bool × List (List Nat × List Nat) := (true, [([], []), ([], []), ([1], [1]), ([0, 2], [0, 2]), ([], []), ([4], [4]), ([3, 5, 3], [3, 5]), ([6, 6, 0, 1, 2, 3, 4, 5, 6], [0, 6])])
def lychref1_TcpBytes.B8 : List Nat := [0, 0, 2, 7, 0, 16, 63, 127]
theorem lychref1_TcpBytes.tab8 : rtab .any (opsOf Try.f75 8) = lychref1_TcpBytes.T8 := by kernel_rfl
theorem lychref1_TcpBytes.bits8 : waitsOk lychref1_TcpBytes.T8.2 lychref1_TcpBytes.B8 = true := by kernel_rfl
def lychref1_TcpBytes.T9 : Bool × List (List Nat × List Nat) := (true, [([], []), ([], []), ([1], [1]), ([0, 2], [0, 2]), ([], []), ([4], [4]), ([3, 5, 3], [3, 5]), ([6, 6, 0, 1, 2, 3, 4, 5, 6], [6]), ([7, 0, 1, 2, 3, 4, 5, 6, 7], [])])
def lychref1_TcpBytes.B9 : List Nat := [0, 0, 2, 7, 0, 16, 63, 127, 255]
theorem lychref1_TcpBytes.tab9 : rtab .any (opsOf Try.f75 9) = lychref1_TcpBytes.T9 := by kernel_rfl
theorem lychref1_TcpBytes.bits9 : waitsOk lychref1_TcpBytes.T9.2 lychref1_TcpBytes.B9 = true := by kernel_rfl
theorem lychref1_TcpBytes.calls (k : Nat) (a0_0 : Int) (a0_1 : Int) (a0_2 : Int) (a0_3 : Int) (a0_4 : Int) (a0_5 : Int) (a0_6 : Int) (a0_7 : Int) (A0_8 : Option Addr) (c0_8 : Nat) (l0_8 : List Int) (A0_9 : Option Addr) (c0_9 : Nat) (l0_9 : List Int) (r1 : List Int) (r2 : Int) (w : World) (hr0_8 : Kd.C (Kd.int .u8) w A0_8 l0_8.length l0_8) (hc0_8 : l0_8.length <= c0_8) (hr0_9 : Kd.C (Kd.int .u8) w A0_9 l0_9.length l0_9) (hc0_9 : l0_9.length <= c0_9) (h : lychref1_TcpBytes.f k a0_0 a0_1 a0_2 a0_3 a0_4 a0_5 a0_6 a0_7 l0_8 l0_9 = some (r1, r2)) :
  Calls Try.prog 75 #[.agg #[.int .u16 a0_0, .int .u16 a0_1, .int .u32 a0_2, .int .u32 a0_3, .int .u8 a0_4, .int .u16 a0_5, .int .u16 a0_6, .int .u16 a0_7, .slice A0_8 l0_8.length c0_8, .slice A0_9 l0_9.length c0_9]] w fun e w' => ∃ v0_ : Value, e = .returned (.tuple #[v0_, .int .i64 r2]) /\ Kd.R (Kd.int .u8) 5 w' w.heap.size (fun _ => True) v0_ r1 /\ Below w.heap.size w w' := by
 have hu137 := Try.underlying137; have HR0_8 := Aside0.mk hr0_8; have HC0_8 := Aside0.mk hc0_8; clear hr0_8 hc0_8; have HR0_9 := Aside0.mk hr0_9; have HC0_9 := Aside0.mk hc0_9; clear hr0_9 hc0_9; have HB := Aside0.mk (Below.refl w.heap.size w); have H : (if ((l0_8.length : Int) % 4) = 0 then (lychref1_TcpBytes.j0 k (decide ((l0_8.length : Int) > 40)) a0_0 a0_1 a0_2 a0_3 a0_4 a0_5 a0_6 a0_7 l0_8 l0_9) else (lychref1_TcpBytes.j0 k true a0_0 a0_1 a0_2 a0_3 a0_4 a0_5 a0_6 a0_7 l0_8 l0_9)) = some (r1, r2) := h; clear h; have HC2 := Aside0.mk H; clear H
 go_enter Try.func75, Try.ntmps75
 go_upto_region 1 with (first | ((with_reducible refine gate_dst (N := 1) rfl ?_); (try (refine gate_guard (by rfl) ?_; dsimp only)); refine box_event ?hg (N := 1) ?hd (cs := #[.int .u16 a0_0, .int .u16 a0_1, .int .u32 a0_2, .int .u32 a0_3, .int .u8 a0_4, .int .u16 a0_5, .int .u16 a0_6, .int .u16 a0_7, .slice A0_8 l0_8.length c0_8, .slice A0_9 l0_9.length c0_9]) (t := 137) ?hr ?_; (case hd => rfl); (case hg => rfl); (case hr => first | (go_simp; done) | (go_simp; rfl)); intro gb465 hg w3 hbox hb; have n0_ := Aside0.mk (below_step (bz HB) hb); have n1_ := Aside0.mk (hbox); have n2_ := Aside0.mk ((by rw [hg]; exact (below_size (bz HB)) : w.heap.size <= gb465)); have n3_ := Aside0.mk ((by rw [hg]; exact (below_size (bz HB)) : w.heap.size <= gb465)); clear HB; have HB := n0_; have BK465 := n1_; have GW465 := n2_; have GE465 := n3_; clear n0_ n1_ n2_ n3_; clear hb hbox hg))
 (try simp only [Act.put, List.setIfInBounds_toArray, List.set_cons_zero, List.set_cons_succ])
 go_cut [16] (fun v16 wc => ∃ (kq : Nat) (x16_1 : Bool), v16 = .bool x16_1 /\ Aside0 (lychref1_TcpBytes.j0 kq x16_1 a0_0 a0_1 a0_2 a0_3 a0_4 a0_5 a0_6 a0_7 l0_8 l0_9 = some (r1, r2)) /\ Aside0 (kq <= k) /\ Aside0 (wc.heap[gb465]? = some (.cells #[.int .u16 a0_0, .int .u16 a0_1, .int .u32 a0_2, .int .u32 a0_3, .int .u8 a0_4, .int .u16 a0_5, .int .u16 a0_6, .int .u16 a0_7, (.slice A0_8 l0_8.length c0_8), (.slice A0_9 l0_9.length c0_9)] 137 (0, 0))) /\ Aside0 (Below w.heap.size w wc))
 case first =>
  have H := HC2.out; clear HC2
  by_cases c4 : ((l0_8.length : Int) % 4) = 0
  ·rw [if_pos c4] at H
   have c4b0 : (((l0_8.length : Int) % 4) == 0) = true := beq_iff_eq.mpr c4; have c4b1 : (((l0_8.length : Int) % 4) != 0) = false := bne_eq_false_iff_eq.mpr c4; clear c4
   (first | rw [c4b0] | (simp only [i64_w, i32_w]; rw [c4b0]) | skip)
   have H' := Aside0.mk H; clear H; have hcz5_0_ := cs10 BK465.out; have hfz5_0_ := blk_frozen BK465.out
   go_wp2
   go_meet
   case rel => exact ⟨_, (decide ((l0_8.length : Int) > 40)), (by first | rfl | (simp; done) | (simp [*]; done)), H', ⟨by first | omega | exact Nat.le_refl _⟩, ⟨kz BK465⟩, ⟨bz HB⟩⟩
  ·rw [if_neg c4] at H
   have c4b0 : (((l0_8.length : Int) % 4) == 0) = false := beq_eq_false_iff_ne.mpr c4; have c4b1 : (((l0_8.length : Int) % 4) != 0) = true := bne_iff_ne.mpr c4
   (first | rw [c4b0] | (simp only [i64_w, i32_w]; rw [c4b0]) | skip)
   have H' := Aside0.mk H; clear H; have hcz6_0_ := cs10 BK465.out; have hfz6_0_ := blk_frozen BK465.out
   go_wp2
   go_meet
   case rel => exact ⟨_, (true), (by first | rfl | (simp; done) | (simp [*]; done)), H', ⟨by first | omega | exact Nat.le_refl _⟩, ⟨kz BK465⟩, ⟨bz HB⟩⟩
 case rest =>
  clear HC2; obtain ⟨kq, x16_1, rfl, HA, HJ1, BK465, HB⟩ := hcut
  cases kq with
  | zero => exact absurd HA.out (by simp [lychref1_TcpBytes.j0])
  | succ kj1 =>
   have H := HA.out; clear HA; simp only [lychref1_TcpBytes.j0] at H
   by_cases c7 : x16_1 = true
   ·subst c7
    have H1 : (some (([] : List Int), 21)) = some (r1, r2) := by rw [if_pos rfl] at H; exact H
    clear H; have H := H1; clear H1; simp only [Option.some.injEq, Prod.mk.injEq] at H
    obtain ⟨rfl, rfl⟩ := H
    go_wp2
    go_ret2
    exact ⟨_, by first | rfl | (simp [errW_none, errW_some] <;> rfl) | (simp [*, errW_none, errW_some] <;> rfl), by first | exact Kd.R_nil _ _ _ _ _ | exact Kd.N_nil _ _ _ _ _ | exact Kd.V_nil _ _ _ _ _ | exact Kd.Q_nil _ _ _ _ _ | exact Kd.S_nil _ _ _ _ _, bz HB⟩
   ·replace c7 := Bool.eq_false_iff.mpr c7
    subst c7
    have H1 : (if (l0_9.length : Int) > (wrap64 (65515 - (wrap64 (20 + (l0_8.length : Int))))) then (some (([] : List Int), 23)) else ((lychref1_Put16.f ([] : List Int) a0_0).bind fun t466 => ((lychref1_Put16.f t466 a0_1).bind fun t469 => ((lychref1_Put32.f t469 a0_2).bind fun t472 => ((lychref1_Put32.f t472 a0_3).bind fun t475 => ((some (([(((wrap64 (Int.tdiv (wrap64 (20 + (l0_8.length : Int))) 4)) % 256) * 16) % 256, a0_4] : List Int) : List Int)).bind fun y478 => (if t475.length + y478.length < 140737488355328 then ((lychref1_Put16.f (t475 ++ y478) a0_5).bind fun t484 => ((lychref1_Put16.f t484 a0_6).bind fun t487 => ((lychref1_Put16.f t487 a0_7).bind fun t490 => (if t490.length + l0_8.length < 140737488355328 then ((some (t490 ++ l0_8 : List Int)).bind fun y493 => (if y493.length + l0_9.length < 140737488355328 then (some ((y493 ++ l0_9), 0)) else (none))) else (none))))) else (none)))))))) = some (r1, r2) := by rw [if_neg (show ¬ (false = true) by decide)] at H; exact H
    clear H; have H := H1; clear H1
    by_cases c8 : (l0_9.length : Int) > (wrap64 (65515 - (wrap64 (20 + (l0_8.length : Int)))))
    ·rw [if_pos c8] at H
     have c8b0 : decide ((wrap64 (65515 - (wrap64 (20 + (l0_8.length : Int))))) < (l0_9.length : Int)) = true := decide_eq_true c8; clear c8; simp only [Option.some.injEq, Prod.mk.injEq] at H
     obtain ⟨rfl, rfl⟩ := H; have hcz9_0_ := cs10 BK465.out; have hfz9_0_ := blk_frozen BK465.out
     go_wp2
     go_ret2
     exact ⟨_, by first | rfl | (simp [errW_none, errW_some] <;> rfl) | (simp [*, errW_none, errW_some] <;> rfl), by first | exact Kd.R_nil _ _ _ _ _ | exact Kd.N_nil _ _ _ _ _ | exact Kd.V_nil _ _ _ _ _ | exact Kd.Q_nil _ _ _ _ _ | exact Kd.S_nil _ _ _ _ _, bz HB⟩
    ·rw [if_neg c8] at H
     have c8b0 : decide ((wrap64 (65515 - (wrap64 (20 + (l0_8.length : Int))))) < (l0_9.length : Int)) = false := decide_eq_false c8; clear c8; replace H := Option.bind_eq_some_iff.mp H; obtain ⟨t466, A100, H⟩ := H
     (try dsimp -simprocs only at H)
     have A10 := Aside0.mk A100; clear A100; replace H := Option.bind_eq_some_iff.mp H; obtain ⟨t469, A110, H⟩ := H
     (try dsimp -simprocs only at H)
     have A11 := Aside0.mk A110; clear A110; replace H := Option.bind_eq_some_iff.mp H; obtain ⟨t472, A120, H⟩ := H
     (try dsimp -simprocs only at H)
     have A12 := Aside0.mk A120; clear A120; replace H := Option.bind_eq_some_iff.mp H; obtain ⟨t475, A130, H⟩ := H
     (try dsimp -simprocs only at H)
     have A13 := Aside0.mk A130; clear A130; obtain ⟨y478, hy478⟩ : ∃ y_ : List Int, y_ = (([(((wrap64 (Int.tdiv (wrap64 (20 + (l0_8.length : Int))) 4)) % 256) * 16) % 256, a0_4] : List Int)) := ⟨_, rfl⟩
     replace H : (if t475.length + y478.length < 140737488355328 then ((lychref1_Put16.f (t475 ++ y478) a0_5).bind fun t484 => ((lychref1_Put16.f t484 a0_6).bind fun t487 => ((lychref1_Put16.f t487 a0_7).bind fun t490 => (if t490.length + l0_8.length < 140737488355328 then ((some (t490 ++ l0_8 : List Int)).bind fun y493 => (if y493.length + l0_9.length < 140737488355328 then (some ((y493 ++ l0_9), 0)) else (none))) else (none))))) else (none)) = some (r1, r2) := by first | (rw [hy478]; with_reducible exact H) | (have H2_ := (Option.bind_some _ _).symm.trans H; rw [hy478]; with_reducible exact H2_) | (have H2_ := (Option.bind_some _ _).symm.trans H; with_reducible exact H2_) | with_reducible exact H | (rw [hy478]; exact H) | exact H
     have Ny478 := Aside0.mk hy478; clear hy478
     by_cases c14 : t475.length + y478.length < 140737488355328
     ·rw [if_pos c14] at H
      have LMc14 := Aside0.mk c14; clear c14; obtain ⟨y481, hy481⟩ : ∃ y_ : List Int, y_ = (t475 ++ y478) := ⟨_, rfl⟩
      rw [<- hy481] at H
      have Ny481 := Aside0.mk hy481; clear hy481; replace H := Option.bind_eq_some_iff.mp H; obtain ⟨t484, A150, H⟩ := H
      (try dsimp -simprocs only at H)
      have A15 := Aside0.mk A150; clear A150; replace H := Option.bind_eq_some_iff.mp H; obtain ⟨t487, A160, H⟩ := H
      (try dsimp -simprocs only at H)
      have A16 := Aside0.mk A160; clear A160; replace H := Option.bind_eq_some_iff.mp H; obtain ⟨t490, A170, H⟩ := H
      (try dsimp -simprocs only at H)
      have A17 := Aside0.mk A170; clear A170
      by_cases c18 : t490.length + l0_8.length < 140737488355328
      ·rw [if_pos c18] at H
       have LMc18 := Aside0.mk c18; clear c18; obtain ⟨y493, hy493⟩ : ∃ y_ : List Int, y_ = (t490 ++ l0_8) := ⟨_, rfl⟩
       replace H : (if y493.length + l0_9.length < 140737488355328 then (some ((y493 ++ l0_9), 0)) else (none)) = some (r1, r2) := by first | (rw [hy493]; with_reducible exact H) | (have H2_ := (Option.bind_some _ _).symm.trans H; rw [hy493]; with_reducible exact H2_) | (have H2_ := (Option.bind_some _ _).symm.trans H; with_reducible exact H2_) | with_reducible exact H | (rw [hy493]; exact H) | exact H
       have Ny493 := Aside0.mk hy493; clear hy493
       by_cases c19 : y493.length + l0_9.length < 140737488355328
       ·rw [if_pos c19] at H
        have LMc19 := Aside0.mk c19; clear c19; obtain ⟨y496, hy496⟩ : ∃ y_ : List Int, y_ = (y493 ++ l0_9) := ⟨_, rfl⟩
        replace H : (some (y496, 0)) = some (r1, r2) := by first | (rw [hy496]; with_reducible exact H) | (have H2_ := (Option.bind_some _ _).symm.trans H; rw [hy496]; with_reducible exact H2_) | (have H2_ := (Option.bind_some _ _).symm.trans H; with_reducible exact H2_) | with_reducible exact H | (rw [hy496]; exact H) | exact H
        have Ny496 := Aside0.mk hy496; clear hy496; simp only [Option.some.injEq, Prod.mk.injEq] at H
        obtain ⟨rfl, rfl⟩ := H; have hcz20_0_ := cs10 BK465.out; have hfz20_0_ := blk_frozen BK465.out
        try go_wp2
        have n0_ := Aside0.mk (blk_drew BK465.out); have n1_ := Aside0.mk (below_drew1 HB.out); clear BK465; clear HB; have BK465 := n0_; have HB := n1_; clear n0_ n1_
        refine start_ (n := 13) (S := fun w' => w'.cell? ⟨gb465, 0, none⟩ = some (.int .u16 a0_0) /\ w'.cell? ⟨gb465, 1, none⟩ = some (.int .u16 a0_1) /\ w'.cell? ⟨gb465, 2, none⟩ = some (.int .u32 a0_2) /\ w'.cell? ⟨gb465, 3, none⟩ = some (.int .u32 a0_3) /\ w'.cell? ⟨gb465, 4, none⟩ = some (.int .u8 a0_4) /\ w'.cell? ⟨gb465, 5, none⟩ = some (.int .u16 a0_5) /\ w'.cell? ⟨gb465, 6, none⟩ = some (.int .u16 a0_6) /\ w'.cell? ⟨gb465, 7, none⟩ = some (.int .u16 a0_7) /\ w'.cell? ⟨gb465, 8, none⟩ = some (.slice A0_8 l0_8.length c0_8) /\ w'.cell? ⟨gb465, 9, none⟩ = some (.slice A0_9 l0_9.length c0_9)) (ds := []) #[false, false, false, false, false, false, false, false, false, false, false, false, false] (by kernel_rfl) rfl rfl ⟨cz BK465.out 0 rfl, cz BK465.out 1 rfl, cz BK465.out 2 rfl, cz BK465.out 3 rfl, cz BK465.out 4 rfl, cz BK465.out 5 rfl, cz BK465.out 6 rfl, cz BK465.out 7 rfl, cz BK465.out 8 rfl, cz BK465.out 9 rfl⟩ (fun hHeld => ?_); refine with_tabW lychref1_TcpBytes.tab6 lychref1_TcpBytes.bits6 (fun HT_ HW_ => ?_)
        generalize wc.drew = w21 at BK465 HB hHeld |-
        refine pz 0 27 HT_ ?_; refine pz 3 30 HT_ ?_; refine pz 6 33 HT_ ?_; refine pz 9 36 HT_ ?_; refine take_ (i := 1) (N := some 28) (v := ?_) (a' := ?_) #[true, true, false, true, false, false, true, false, false, true, false, false, false] rfl rfl (take_ofW HT_.out HW_.out (by kernel_rfl)) (fun _ _ _ h => h) (Or.inl ⟨by rfl, ?_⟩) hHeld ?_ ?_
        rotate_left
        ·rintro w' ⟨s0, s1, s2, s3, s4, s5, s6, s7, s8, s9⟩
         go_simp
         with_reducible rfl
        rotate_left
        ·simp only [ps_]
         rfl
        refine take_ (i := 4) (N := some 31) (v := ?_) (a' := ?_) #[true, true, false, true, true, false, true, false, false, true, false, false, false] rfl rfl (take_ofW HT_.out HW_.out (by kernel_rfl)) (fun _ _ _ h => h) (Or.inl ⟨by rfl, ?_⟩) hHeld ?_ ?_
        rotate_left
        ·rintro w' ⟨s0, s1, s2, s3, s4, s5, s6, s7, s8, s9⟩
         go_simp
         with_reducible rfl
        rotate_left
        ·simp only [ps_]
         rfl
        refine take_ (i := 7) (N := some 34) (v := ?_) (a' := ?_) #[true, true, false, true, true, false, true, true, false, true, false, false, false] rfl rfl (take_ofW HT_.out HW_.out (by kernel_rfl)) (fun _ _ _ h => h) (Or.inl ⟨by rfl, ?_⟩) hHeld ?_ ?_
        rotate_left
        ·rintro w' ⟨s0, s1, s2, s3, s4, s5, s6, s7, s8, s9⟩
         go_simp
         with_reducible rfl
        rotate_left
        ·simp only [ps_]
         rfl
        refine take_ (i := 10) (N := some 37) (v := ?_) (a' := ?_) #[true, true, false, true, true, false, true, true, false, true, true, false, false] rfl rfl (take_ofW HT_.out HW_.out (by kernel_rfl)) (fun _ _ _ h => h) (Or.inl ⟨by rfl, ?_⟩) hHeld ?_ ?_
        rotate_left
        ·rintro w' ⟨s0, s1, s2, s3, s4, s5, s6, s7, s8, s9⟩
         go_simp
         with_reducible rfl
        rotate_left
        ·simp only [ps_]
         rfl
        refine oz 2 (some 29) HT_ (fun K hK => ?_); refine gG Try.func83 #[.slice none 0 0, .int .u16 a0_0] ?_; refine (lychref1_Put16.calls (fun k_ => some k_ = (.slice none 0 0 : Value).ownBlock) (.slice none 0 0) ([] : List Int) a0_0 t466 w _ ?side1 ?side2 A10.out).mono ?_
        (case side1 => exact bz HB)
        (case side2 => exact Kd.R_nil _ _ _ _ _)
        rintro e w22 ⟨v467, rfl, ho0, hb, hkp⟩; refine ⟨_, rfl, ?_⟩; have n0_ := Aside0.mk (blk_kept (kz BK465) hkp (fun hs_ => (fun e_ => by simp [Value.ownBlock] at e_) hs_)); have n1_ := Aside0.mk (Kd.R_mono (ok' := fun k_ => True) ho0 (fun k_ hk_ => trivial)); have n2_ := Aside0.mk (hb); clear BK465; clear HB; have BK465 := n0_; have HO468 := n1_; have HB := n2_; clear n0_ n1_ n2_
        (try clear hb)
        (try clear hkp)
        (try clear ho0)
        obtain ⟨Ao23, co23, eo23⟩ := Kd.R_slice HO468.out
        (first | subst eo23 | (injection eo23 with f1_ f2_ f3_; have f4_ := f1_.symm; have f5_ := f3_.symm; clear f1_ f2_ f3_; subst f4_; subst f5_))
        refine hK.out _ _ ⟨cz BK465.out 0 rfl, cz BK465.out 1 rfl, cz BK465.out 2 rfl, cz BK465.out 3 rfl, cz BK465.out 4 rfl, cz BK465.out 5 rfl, cz BK465.out 6 rfl, cz BK465.out 7 rfl, cz BK465.out 8 rfl, cz BK465.out 9 rfl⟩ (fun hHeld => ?_); clear hK K; refine nz 29 ?_; refine oz 5 (some 32) HT_ (fun K hK => ?_); refine gG Try.func83 #[.slice Ao23 t466.length co23, .int .u16 a0_1] ?_
        with_reducible refine (lychref1_Put16.calls (fun k_ => some k_ = (.slice Ao23 t466.length co23 : Value).ownBlock) (.slice Ao23 t466.length co23) t466 a0_1 t469 w _ ?side1 ?side2 A11.out).mono ?_
        (case side1 => exact bz HB)
        (case side2 => exact Kd.R_tight rfl HO468.out)
        rintro e w24 ⟨v470, rfl, ho0, hb, hkp⟩; refine ⟨_, rfl, ?_⟩; have n0_ := Aside0.mk (blk_kept (kz BK465) hkp (fun hs_ => (fun e_ => (Kd.R_ne HO468.out BK465.out (by decide)) e_) hs_)); have n1_ := Aside0.mk (Kd.R_mono (ok' := fun k_ => True) ho0 (fun k_ hk_ => trivial)); have n2_ := Aside0.mk (hb); clear BK465; clear HB; clear HO468; have BK465 := n0_; have HO471 := n1_; have HB := n2_; clear n0_ n1_ n2_
        (try clear hb)
        (try clear hkp)
        (try clear ho0)
        obtain ⟨Ao25, co25, eo25⟩ := Kd.R_slice HO471.out
        (first | subst eo25 | (injection eo25 with f1_ f2_ f3_; have f4_ := f1_.symm; have f5_ := f3_.symm; clear f1_ f2_ f3_; subst f4_; subst f5_))
        refine hK.out _ _ ⟨cz BK465.out 0 rfl, cz BK465.out 1 rfl, cz BK465.out 2 rfl, cz BK465.out 3 rfl, cz BK465.out 4 rfl, cz BK465.out 5 rfl, cz BK465.out 6 rfl, cz BK465.out 7 rfl, cz BK465.out 8 rfl, cz BK465.out 9 rfl⟩ (fun hHeld => ?_); clear hK K; refine nz 32 ?_; refine oz 8 (some 35) HT_ (fun K hK => ?_); refine gG Try.func84 #[.slice Ao25 t469.length co25, .int .u32 a0_2] ?_
        with_reducible refine (lychref1_Put32.calls (fun k_ => some k_ = (.slice Ao25 t469.length co25 : Value).ownBlock) (.slice Ao25 t469.length co25) t469 a0_2 t472 w _ ?side1 ?side2 A12.out).mono ?_
        (case side1 => exact bz HB)
        (case side2 => exact Kd.R_tight rfl HO471.out)
        rintro e w26 ⟨v473, rfl, ho0, hb, hkp⟩; refine ⟨_, rfl, ?_⟩; have n0_ := Aside0.mk (blk_kept (kz BK465) hkp (fun hs_ => (fun e_ => (Kd.R_ne HO471.out BK465.out (by decide)) e_) hs_)); have n1_ := Aside0.mk (Kd.R_mono (ok' := fun k_ => True) ho0 (fun k_ hk_ => trivial)); have n2_ := Aside0.mk (hb); clear BK465; clear HB; clear HO471; have BK465 := n0_; have HO474 := n1_; have HB := n2_; clear n0_ n1_ n2_
        (try clear hb)
        (try clear hkp)
        (try clear ho0)
        obtain ⟨Ao27, co27, eo27⟩ := Kd.R_slice HO474.out
        (first | subst eo27 | (injection eo27 with f1_ f2_ f3_; have f4_ := f1_.symm; have f5_ := f3_.symm; clear f1_ f2_ f3_; subst f4_; subst f5_))
        refine hK.out _ _ ⟨cz BK465.out 0 rfl, cz BK465.out 1 rfl, cz BK465.out 2 rfl, cz BK465.out 3 rfl, cz BK465.out 4 rfl, cz BK465.out 5 rfl, cz BK465.out 6 rfl, cz BK465.out 7 rfl, cz BK465.out 8 rfl, cz BK465.out 9 rfl⟩ (fun hHeld => ?_); clear hK K; refine nz 35 ?_; refine oz 11 (some 38) HT_ (fun K hK => ?_); refine gG Try.func84 #[.slice Ao27 t472.length co27, .int .u32 a0_3] ?_
        with_reducible refine (lychref1_Put32.calls (fun k_ => some k_ = (.slice Ao27 t472.length co27 : Value).ownBlock) (.slice Ao27 t472.length co27) t472 a0_3 t475 w _ ?side1 ?side2 A13.out).mono ?_
        (case side1 => exact bz HB)
        (case side2 => exact Kd.R_tight rfl HO474.out)
        rintro e w28 ⟨v476, rfl, ho0, hb, hkp⟩; refine ⟨_, rfl, ?_⟩; have n0_ := Aside0.mk (blk_kept (kz BK465) hkp (fun hs_ => (fun e_ => (Kd.R_ne HO474.out BK465.out (by decide)) e_) hs_)); have n1_ := Aside0.mk (Kd.R_mono (ok' := fun k_ => True) ho0 (fun k_ hk_ => trivial)); have n2_ := Aside0.mk (hb); clear BK465; clear HB; clear HO474; have BK465 := n0_; have HO477 := n1_; have HB := n2_; clear n0_ n1_ n2_
        (try clear hb)
        (try clear hkp)
        (try clear ho0)
        refine hK.out _ _ ⟨cz BK465.out 0 rfl, cz BK465.out 1 rfl, cz BK465.out 2 rfl, cz BK465.out 3 rfl, cz BK465.out 4 rfl, cz BK465.out 5 rfl, cz BK465.out 6 rfl, cz BK465.out 7 rfl, cz BK465.out 8 rfl, cz BK465.out 9 rfl⟩ (fun hHeld => ?_); clear hK K; refine nz 38 ?_; refine pz 12 5 HT_ ?_; refine dz HT_ ?_
        try go_wp2
        have n0_ := Aside0.mk (Kd.R_drew HO477.out); have n1_ := Aside0.mk (blk_drew BK465.out); have n2_ := Aside0.mk (below_drew1 HB.out); clear HO477; clear BK465; clear HB; have HO477 := n0_; have BK465 := n1_; have HB := n2_; clear n0_ n1_ n2_
        refine start_ (n := 13) (S := fun w' => w'.cell? ⟨gb465, 0, none⟩ = some (.int .u16 a0_0) /\ w'.cell? ⟨gb465, 1, none⟩ = some (.int .u16 a0_1) /\ w'.cell? ⟨gb465, 2, none⟩ = some (.int .u32 a0_2) /\ w'.cell? ⟨gb465, 3, none⟩ = some (.int .u32 a0_3) /\ w'.cell? ⟨gb465, 4, none⟩ = some (.int .u8 a0_4) /\ w'.cell? ⟨gb465, 5, none⟩ = some (.int .u16 a0_5) /\ w'.cell? ⟨gb465, 6, none⟩ = some (.int .u16 a0_6) /\ w'.cell? ⟨gb465, 7, none⟩ = some (.int .u16 a0_7) /\ w'.cell? ⟨gb465, 8, none⟩ = some (.slice A0_8 l0_8.length c0_8) /\ w'.cell? ⟨gb465, 9, none⟩ = some (.slice A0_9 l0_9.length c0_9)) (ds := []) #[false, false, false, false, false, false, false, false, false, false, false, false, false] (by kernel_rfl) rfl rfl ⟨cz BK465.out 0 rfl, cz BK465.out 1 rfl, cz BK465.out 2 rfl, cz BK465.out 3 rfl, cz BK465.out 4 rfl, cz BK465.out 5 rfl, cz BK465.out 6 rfl, cz BK465.out 7 rfl, cz BK465.out 8 rfl, cz BK465.out 9 rfl⟩ (fun hHeld => ?_); refine with_tabW lychref1_TcpBytes.tab7 lychref1_TcpBytes.bits7 (fun HT_ HW_ => ?_)
        generalize w28.drew = w29 at HO477 BK465 HB hHeld |-
        refine pz 0 39 HT_ ?_; refine pz 1 40 HT_ ?_; refine pz 2 41 HT_ ?_; refine pz 3 42 HT_ ?_; refine pz 4 43 HT_ ?_; refine pz 5 44 HT_ ?_; refine pz 9 48 HT_ ?_; refine take_ (i := 6) (N := some 45) (v := ?_) (a' := ?_) #[true, true, true, true, true, true, true, false, false, true, false, false, false] rfl rfl (take_ofW HT_.out HW_.out (by kernel_rfl)) (fun _ _ _ h => h) (Or.inl ⟨by rfl, ?_⟩) hHeld ?_ ?_
        rotate_left
        ·rintro w' ⟨s0, s1, s2, s3, s4, s5, s6, s7, s8, s9⟩
         go_simp
         with_reducible rfl
        rotate_left
        ·simp only [ps_]
         rfl
        refine take_ (i := 10) (N := some 49) (v := ?_) (a' := ?_) #[true, true, true, true, true, true, true, false, false, true, true, false, false] rfl rfl (take_ofW HT_.out HW_.out (by kernel_rfl)) (fun _ _ _ h => h) (Or.inl ⟨by rfl, ?_⟩) hHeld ?_ ?_
        rotate_left
        ·rintro w' ⟨s0, s1, s2, s3, s4, s5, s6, s7, s8, s9⟩
         go_simp
         with_reducible rfl
        rotate_left
        ·simp only [ps_]
         rfl
        refine oz 7 (some 46) HT_ (fun K hK => ?_)
        refine Kd.R_lit_step (Kd.int .u8) _ 5 ?hg (N := 46) ?hd (xs := ([(((wrap64 (Int.tdiv (wrap64 (20 + (l0_8.length : Int))) 4)) % 256) * 16) % 256, a0_4] : List Int)) (inner := [.int .u8 ((((wrap64 (Int.tdiv (wrap64 (20 + (l0_8.length : Int))) 4)) % 256) * 16) % 256), .int .u8 a0_4]) (ok := fun _ => True) (okp := fun _ => True) ?hr ?hp (fun _ hk => hk) trivial (Below.refl _ _) (Nat.le_refl _) (by simp) ?_; (case hd => rfl); (case hg => rfl); (case hr => first | (go_simp; done) | (go_simp; simp only [IntKind.wrap_u8, IntKind.wrap_u16, IntKind.wrap_u32]; done) | (go_simp; rfl)); (case hp => exact (Reps.one (show Kd.M (Kd.int .u8) _ _ _ ((((wrap64 (Int.tdiv (wrap64 (20 + (l0_8.length : Int))) 4)) % 256) * 16) % 256) [.int .u8 ((((wrap64 (Int.tdiv (wrap64 (20 + (l0_8.length : Int))) 4)) % 256) * 16) % 256)] from rfl) (Reps.one (show Kd.M (Kd.int .u8) _ _ _ a0_4 [.int .u8 a0_4] from rfl) (Reps.none _ _))))
        intro v479 w30 ho31 hb hg_ hnew_; clear hg_ hnew_
        (first | rw [<- Ny478.out] at ho31 | (simp only [Int.reduceToNat] at ho31; rw [<- Ny478.out] at ho31))
        have n0_ := Aside0.mk (Kd.R_elder' (Kd.rz HO477) (Kd.R_base ho31) hb); have n1_ := Aside0.mk (Kd.R_lower (Kd.R_new' ho31 (Kd.R_lt (Kd.rz HO477))) (below_size (bz HB))); have n2_ := Aside0.mk (blk_below (kz BK465) hb); have n3_ := Aside0.mk (below_step (bz HB) hb); clear HO477; clear BK465; clear HB; have HO477 := n0_; have HO480 := n1_; have BK465 := n2_; have HB := n3_; clear n0_ n1_ n2_ n3_; clear hb ho31; obtain ⟨Ao33, co33, eo33⟩ := Kd.R_slice HO480.out
        (first | subst eo33 | (injection eo33 with f1_ f2_ f3_; have f4_ := f1_.symm; have f5_ := f3_.symm; clear f1_ f2_ f3_; subst f4_; subst f5_))
        refine hK.out _ _ ⟨cz BK465.out 0 rfl, cz BK465.out 1 rfl, cz BK465.out 2 rfl, cz BK465.out 3 rfl, cz BK465.out 4 rfl, cz BK465.out 5 rfl, cz BK465.out 6 rfl, cz BK465.out 7 rfl, cz BK465.out 8 rfl, cz BK465.out 9 rfl⟩ (fun hHeld => ?_); clear hK K; refine nz 46 ?_; refine oz 8 (some 47) HT_ (fun K hK => ?_); refine Kd.R_append_rows_step (Kd.int .u8) (w0 := w) w.heap.size (by rfl) (.tmp 39) (.tmp 46) 23 5 (.int .u8 0) 1 rfl Try.underlying23 info5 rfl (by decide) (by omega) v476 t475 y478 _ _ _ (fun k_ => some k_ ≠ (.slice Ao33 y478.length co33 : Value).ownBlock) (fun _ => False) rfl rfl ?aO ?aR (fun _ _ h => h) (fun _ h => h.elim) ?aF ?aB ?aS ?aL ?_
        (case aR => repeat (first | exact (Kd.R_reads' HO480.out).2.2 | (with_reducible refine Kd.C_alloc ?_ _) | (with_reducible refine Kd.C_drewN ?_ _) | (with_reducible refine Kd.C_drew ?_)))
        (case aB => exact bz HB)
        (case aF => exact (fun k_ hk => Kd.fresh' (Kd.R_lt (Kd.rz HO480)) k_ hk))
        (case aO => exact (by (with_reducible repeat (first | apply Kd.R_alloc | apply Kd.R_drewN | apply Kd.R_drew)); exact Kd.R_mono HO477.out (fun _ hk => hk.2)))
        (case aS => exact (below_size (bz HB)))
        (case aL => have := LMc14.out; omega)
        intro v482 w32 ho hb hg hat; rw [<- Ny481.out] at ho
        have n0_ := Aside0.mk (blk_grown (kz BK465) hg (Kd.R_ne HO477.out BK465.out (by decide))); have n1_ := Aside0.mk (Kd.R_after (ok := (fun _ => True)) (Kd.rz HO480) hg hat); have n2_ := Aside0.mk (hb); have n3_ := Aside0.mk (ho); clear BK465; clear HO480; clear HB; clear HO477; have BK465 := n0_; have HO480 := n1_; have HB := n2_; have HO483 := n3_; clear n0_ n1_ n2_ n3_; clear ho hb hg hat; obtain ⟨Ao34, co34, eo34⟩ := Kd.R_slice HO483.out
        (first | subst eo34 | (injection eo34 with f1_ f2_ f3_; have f4_ := f1_.symm; have f5_ := f3_.symm; clear f1_ f2_ f3_; subst f4_; subst f5_))
        refine hK.out _ _ ⟨cz BK465.out 0 rfl, cz BK465.out 1 rfl, cz BK465.out 2 rfl, cz BK465.out 3 rfl, cz BK465.out 4 rfl, cz BK465.out 5 rfl, cz BK465.out 6 rfl, cz BK465.out 7 rfl, cz BK465.out 8 rfl, cz BK465.out 9 rfl⟩ (fun hHeld => ?_); clear hK K; refine nz 47 ?_; refine oz 11 (some 50) HT_ (fun K hK => ?_); refine gG Try.func83 #[.slice Ao34 y481.length co34, .int .u16 a0_5] ?_
        with_reducible refine (lychref1_Put16.calls (fun k_ => some k_ = (.slice Ao34 y481.length co34 : Value).ownBlock) (.slice Ao34 y481.length co34) y481 a0_5 t484 w _ ?side1 ?side2 A15.out).mono ?_
        (case side1 => exact bz HB)
        (case side2 => exact Kd.R_tight rfl HO483.out)
        rintro e w35 ⟨v485, rfl, ho0, hb, hkp⟩; refine ⟨_, rfl, ?_⟩; have n0_ := Aside0.mk (blk_kept (kz BK465) hkp (fun hs_ => (fun e_ => (Kd.R_ne HO483.out BK465.out (by decide)) e_) hs_)); have n1_ := Aside0.mk (Kd.R_mono (ok' := fun k_ => some k_ ≠ (v485 : Value).ownBlock) (Kd.R_keptB (HO480.out) hkp (fun k_ hk_ hs_ => (hk_.2) hs_)) (fun k_ hk_ => fun e_ => Or.elim (ho0.1 k_ e_.symm) (fun hs_ => hk_.2.1 hs_) (fun hn_ => Nat.not_le.2 hk_.2.2 hn_))); have n2_ := Aside0.mk (Kd.R_mono (ok' := fun k_ => some k_ ≠ (.slice Ao33 y478.length co33 : Value).ownBlock) ho0 (fun k_ hk_ => Or.elim hk_ (fun hs_ => fun e_ => (((HO480.out).1 k_ e_.symm).2) hs_) (fun hn_ => (Kd.fresh' (Kd.R_lt (Kd.rz HO480)) k_ hn_)))); have n3_ := Aside0.mk (hb); clear BK465; clear HO480; clear HB; clear HO483; have BK465 := n0_; have HO480 := n1_; have HO486 := n2_; have HB := n3_; clear n0_ n1_ n2_ n3_
        (try clear hb)
        (try clear hkp)
        (try clear ho0)
        refine hK.out _ _ ⟨cz BK465.out 0 rfl, cz BK465.out 1 rfl, cz BK465.out 2 rfl, cz BK465.out 3 rfl, cz BK465.out 4 rfl, cz BK465.out 5 rfl, cz BK465.out 6 rfl, cz BK465.out 7 rfl, cz BK465.out 8 rfl, cz BK465.out 9 rfl⟩ (fun hHeld => ?_); clear hK K; refine nz 50 ?_; refine pz 12 5 HT_ ?_; refine dz HT_ ?_
        try go_wp2
        have n0_ := Aside0.mk (Kd.R_drew HO480.out); have n1_ := Aside0.mk (Kd.R_drew HO486.out); have n2_ := Aside0.mk (blk_drew BK465.out); have n3_ := Aside0.mk (below_drew1 HB.out); clear HO480; clear HO486; clear BK465; clear HB; have HO480 := n0_; have HO486 := n1_; have BK465 := n2_; have HB := n3_; clear n0_ n1_ n2_ n3_; obtain ⟨Ao37, co37, eo37⟩ := Kd.R_slice HO486.out
        (first | subst eo37 | (injection eo37 with f1_ f2_ f3_; have f4_ := f1_.symm; have f5_ := f3_.symm; clear f1_ f2_ f3_; subst f4_; subst f5_))
        refine start_ (n := 8) (S := fun w' => w'.cell? ⟨gb465, 0, none⟩ = some (.int .u16 a0_0) /\ w'.cell? ⟨gb465, 1, none⟩ = some (.int .u16 a0_1) /\ w'.cell? ⟨gb465, 2, none⟩ = some (.int .u32 a0_2) /\ w'.cell? ⟨gb465, 3, none⟩ = some (.int .u32 a0_3) /\ w'.cell? ⟨gb465, 4, none⟩ = some (.int .u8 a0_4) /\ w'.cell? ⟨gb465, 5, none⟩ = some (.int .u16 a0_5) /\ w'.cell? ⟨gb465, 6, none⟩ = some (.int .u16 a0_6) /\ w'.cell? ⟨gb465, 7, none⟩ = some (.int .u16 a0_7) /\ w'.cell? ⟨gb465, 8, none⟩ = some (.slice A0_8 l0_8.length c0_8) /\ w'.cell? ⟨gb465, 9, none⟩ = some (.slice A0_9 l0_9.length c0_9)) (ds := []) #[false, false, false, false, false, false, false, false] (by kernel_rfl) rfl rfl ⟨cz BK465.out 0 rfl, cz BK465.out 1 rfl, cz BK465.out 2 rfl, cz BK465.out 3 rfl, cz BK465.out 4 rfl, cz BK465.out 5 rfl, cz BK465.out 6 rfl, cz BK465.out 7 rfl, cz BK465.out 8 rfl, cz BK465.out 9 rfl⟩ (fun hHeld => ?_); refine with_tabW lychref1_TcpBytes.tab8 lychref1_TcpBytes.bits8 (fun HT_ HW_ => ?_)
        generalize w35.drew = w36 at HO480 HO486 BK465 HB hHeld |-
        refine pz 0 51 HT_ ?_; refine pz 1 52 HT_ ?_; refine pz 4 55 HT_ ?_; refine take_ (i := 2) (N := some 53) (v := ?_) (a' := ?_) #[true, true, true, false, true, false, false, false] rfl rfl (take_ofW HT_.out HW_.out (by kernel_rfl)) (fun _ _ _ h => h) (Or.inl ⟨by rfl, ?_⟩) hHeld ?_ ?_
        rotate_left
        ·rintro w' ⟨s0, s1, s2, s3, s4, s5, s6, s7, s8, s9⟩
         go_simp
         with_reducible rfl
        rotate_left
        ·simp only [ps_]
         rfl
        refine take_ (i := 5) (N := some 56) (v := ?_) (a' := ?_) #[true, true, true, false, true, true, false, false] rfl rfl (take_ofW HT_.out HW_.out (by kernel_rfl)) (fun _ _ _ h => h) (Or.inl ⟨by rfl, ?_⟩) hHeld ?_ ?_
        rotate_left
        ·rintro w' ⟨s0, s1, s2, s3, s4, s5, s6, s7, s8, s9⟩
         go_simp
         with_reducible rfl
        rotate_left
        ·simp only [ps_]
         rfl
        refine oz 3 (some 54) HT_ (fun K hK => ?_); refine gG Try.func83 #[.slice Ao37 t484.length co37, .int .u16 a0_6] ?_
        with_reducible refine (lychref1_Put16.calls (fun k_ => some k_ = (.slice Ao37 t484.length co37 : Value).ownBlock) (.slice Ao37 t484.length co37) t484 a0_6 t487 w _ ?side1 ?side2 A16.out).mono ?_
        (case side1 => exact bz HB)
        (case side2 => exact Kd.R_tight rfl HO486.out)
        rintro e w38 ⟨v488, rfl, ho0, hb, hkp⟩; refine ⟨_, rfl, ?_⟩; have n0_ := Aside0.mk (blk_kept (kz BK465) hkp (fun hs_ => (fun e_ => (Kd.R_ne HO486.out BK465.out (by decide)) e_) hs_)); have n1_ := Aside0.mk (Kd.R_mono (ok' := fun k_ => some k_ ≠ (v488 : Value).ownBlock) (Kd.R_keptB (HO480.out) hkp (fun k_ hk_ hs_ => (hk_) hs_)) (fun k_ hk_ => fun e_ => Or.elim (ho0.1 k_ e_.symm) (fun hs_ => hk_.2.1 hs_) (fun hn_ => Nat.not_le.2 hk_.2.2 hn_))); have n2_ := Aside0.mk (Kd.R_mono (ok' := fun k_ => some k_ ≠ (.slice Ao33 y478.length co33 : Value).ownBlock) ho0 (fun k_ hk_ => Or.elim hk_ (fun hs_ => fun e_ => (((HO480.out).1 k_ e_.symm)) hs_) (fun hn_ => (Kd.fresh' (Kd.R_lt (Kd.rz HO480)) k_ hn_)))); have n3_ := Aside0.mk (hb); clear BK465; clear HO480; clear HB; clear HO486; have BK465 := n0_; have HO480 := n1_; have HO489 := n2_; have HB := n3_; clear n0_ n1_ n2_ n3_
        (try clear hb)
        (try clear hkp)
        (try clear ho0)
        obtain ⟨Ao39, co39, eo39⟩ := Kd.R_slice HO489.out
        (first | subst eo39 | (injection eo39 with f1_ f2_ f3_; have f4_ := f1_.symm; have f5_ := f3_.symm; clear f1_ f2_ f3_; subst f4_; subst f5_))
        refine hK.out _ _ ⟨cz BK465.out 0 rfl, cz BK465.out 1 rfl, cz BK465.out 2 rfl, cz BK465.out 3 rfl, cz BK465.out 4 rfl, cz BK465.out 5 rfl, cz BK465.out 6 rfl, cz BK465.out 7 rfl, cz BK465.out 8 rfl, cz BK465.out 9 rfl⟩ (fun hHeld => ?_); clear hK K; refine nz 54 ?_; refine oz 6 (some 57) HT_ (fun K hK => ?_); refine gG Try.func83 #[.slice Ao39 t487.length co39, .int .u16 a0_7] ?_
        with_reducible refine (lychref1_Put16.calls (fun k_ => some k_ = (.slice Ao39 t487.length co39 : Value).ownBlock) (.slice Ao39 t487.length co39) t487 a0_7 t490 w _ ?side1 ?side2 A17.out).mono ?_
        (case side1 => exact bz HB)
        (case side2 => exact Kd.R_tight rfl HO489.out)
        rintro e w40 ⟨v491, rfl, ho0, hb, hkp⟩; refine ⟨_, rfl, ?_⟩; have n0_ := Aside0.mk (blk_kept (kz BK465) hkp (fun hs_ => (fun e_ => (Kd.R_ne HO489.out BK465.out (by decide)) e_) hs_)); have n1_ := Aside0.mk (Kd.R_mono (ok' := fun k_ => some k_ ≠ (v491 : Value).ownBlock) (Kd.R_keptB (HO480.out) hkp (fun k_ hk_ hs_ => (hk_) hs_)) (fun k_ hk_ => fun e_ => Or.elim (ho0.1 k_ e_.symm) (fun hs_ => hk_.2.1 hs_) (fun hn_ => Nat.not_le.2 hk_.2.2 hn_))); have n2_ := Aside0.mk (Kd.R_mono (ok' := fun k_ => some k_ ≠ (.slice Ao33 y478.length co33 : Value).ownBlock) ho0 (fun k_ hk_ => Or.elim hk_ (fun hs_ => fun e_ => (((HO480.out).1 k_ e_.symm)) hs_) (fun hn_ => (Kd.fresh' (Kd.R_lt (Kd.rz HO480)) k_ hn_)))); have n3_ := Aside0.mk (hb); clear BK465; clear HO480; clear HB; clear HO489; have BK465 := n0_; have HO480 := n1_; have HO492 := n2_; have HB := n3_; clear n0_ n1_ n2_ n3_
        (try clear hb)
        (try clear hkp)
        (try clear ho0)
        refine hK.out _ _ ⟨cz BK465.out 0 rfl, cz BK465.out 1 rfl, cz BK465.out 2 rfl, cz BK465.out 3 rfl, cz BK465.out 4 rfl, cz BK465.out 5 rfl, cz BK465.out 6 rfl, cz BK465.out 7 rfl, cz BK465.out 8 rfl, cz BK465.out 9 rfl⟩ (fun hHeld => ?_); clear hK K; refine nz 57 ?_; refine pz 7 5 HT_ ?_; refine dz HT_ ?_
        try go_wp2
        have n0_ := Aside0.mk (Kd.R_drew HO480.out); have n1_ := Aside0.mk (Kd.R_drew HO492.out); have n2_ := Aside0.mk (blk_drew BK465.out); have n3_ := Aside0.mk (below_drew1 HB.out); clear HO480; clear HO492; clear BK465; clear HB; have HO480 := n0_; have HO492 := n1_; have BK465 := n2_; have HB := n3_; clear n0_ n1_ n2_ n3_
        refine start_ (n := 9) (S := fun w' => w'.cell? ⟨gb465, 0, none⟩ = some (.int .u16 a0_0) /\ w'.cell? ⟨gb465, 1, none⟩ = some (.int .u16 a0_1) /\ w'.cell? ⟨gb465, 2, none⟩ = some (.int .u32 a0_2) /\ w'.cell? ⟨gb465, 3, none⟩ = some (.int .u32 a0_3) /\ w'.cell? ⟨gb465, 4, none⟩ = some (.int .u8 a0_4) /\ w'.cell? ⟨gb465, 5, none⟩ = some (.int .u16 a0_5) /\ w'.cell? ⟨gb465, 6, none⟩ = some (.int .u16 a0_6) /\ w'.cell? ⟨gb465, 7, none⟩ = some (.int .u16 a0_7) /\ w'.cell? ⟨gb465, 8, none⟩ = some (.slice A0_8 l0_8.length c0_8) /\ w'.cell? ⟨gb465, 9, none⟩ = some (.slice A0_9 l0_9.length c0_9)) (ds := []) #[false, false, false, false, false, false, false, false, false] (by kernel_rfl) rfl rfl ⟨cz BK465.out 0 rfl, cz BK465.out 1 rfl, cz BK465.out 2 rfl, cz BK465.out 3 rfl, cz BK465.out 4 rfl, cz BK465.out 5 rfl, cz BK465.out 6 rfl, cz BK465.out 7 rfl, cz BK465.out 8 rfl, cz BK465.out 9 rfl⟩ (fun hHeld => ?_); refine with_tabW lychref1_TcpBytes.tab9 lychref1_TcpBytes.bits9 (fun HT_ HW_ => ?_)
        generalize w40.drew = w41 at HO480 HO492 BK465 HB hHeld |-
        refine pz 0 58 HT_ ?_; refine pz 1 59 HT_ ?_; refine pz 4 62 HT_ ?_; refine take_ (i := 2) (N := some 60) (v := ?_) (a' := ?_) #[true, true, true, false, true, false, false, false, false] rfl rfl (take_ofW HT_.out HW_.out (by kernel_rfl)) (fun _ _ _ h => h) (Or.inl ⟨by rfl, ?_⟩) hHeld ?_ ?_
        rotate_left
        ·rintro w' ⟨s0, s1, s2, s3, s4, s5, s6, s7, s8, s9⟩
         go_simp
         with_reducible rfl
        rotate_left
        ·simp only [ps_]
         rfl
        refine take_ (i := 5) (N := some 63) (v := ?_) (a' := ?_) #[true, true, true, false, true, true, false, false, false] rfl rfl (take_ofW HT_.out HW_.out (by kernel_rfl)) (fun _ _ _ h => h) (Or.inl ⟨by rfl, ?_⟩) hHeld ?_ ?_
        rotate_left
        ·rintro w' ⟨s0, s1, s2, s3, s4, s5, s6, s7, s8, s9⟩
         go_simp
         with_reducible rfl
        rotate_left
        ·simp only [ps_]
         rfl
        refine oz 3 (some 61) HT_ (fun K hK => ?_); refine Kd.R_append_rows_step (Kd.int .u8) (w0 := w) w.heap.size (by rfl) (.tmp 58) (.tmp 60) 23 5 (.int .u8 0) 1 rfl Try.underlying23 info5 rfl (by decide) (by omega) v491 t490 l0_8 _ _ _ (fun k_ => some k_ ≠ (.slice Ao33 y478.length co33 : Value).ownBlock) (fun _ => False) rfl rfl ?aO ?aR (fun _ _ h => h) (fun _ h => h.elim) ?aF ?aB ?aS ?aL ?_
        (case aR => exact Kd.C_below HR0_8.out (bz HB))
        (case aB => exact bz HB)
        (case aF => exact (fun k_ hk => Kd.fresh' (Kd.R_lt (Kd.rz HO480)) k_ hk))
        (case aO => exact (Kd.rz HO492))
        (case aS => exact (below_size (bz HB)))
        (case aL => have := LMc18.out; omega)
        intro v494 w42 ho hb hg hat; rw [<- Ny493.out] at ho
        have n0_ := Aside0.mk (blk_grown (kz BK465) hg (Kd.R_ne HO492.out BK465.out (by decide))); have n1_ := Aside0.mk (Kd.R_after (ok := (fun _ => True)) (by (with_reducible repeat (first | apply Kd.R_alloc | apply Kd.R_drewN | apply Kd.R_drew)); exact Kd.R_mono HO480.out (fun _ hk => ⟨trivial, hk⟩)) hg hat); have n2_ := Aside0.mk (hb); have n3_ := Aside0.mk (ho); clear BK465; clear HO480; clear HB; clear HO492; have BK465 := n0_; have HO480 := n1_; have HB := n2_; have HO495 := n3_; clear n0_ n1_ n2_ n3_; clear ho hb hg hat; refine hK.out _ _ ⟨cz BK465.out 0 rfl, cz BK465.out 1 rfl, cz BK465.out 2 rfl, cz BK465.out 3 rfl, cz BK465.out 4 rfl, cz BK465.out 5 rfl, cz BK465.out 6 rfl, cz BK465.out 7 rfl, cz BK465.out 8 rfl, cz BK465.out 9 rfl⟩ (fun hHeld => ?_); clear hK K; refine nz 61 ?_; refine oz 6 (some 64) HT_ (fun K hK => ?_)
        refine Kd.R_append_rows_step (Kd.int .u8) (w0 := w) w.heap.size (by rfl) (.tmp 61) (.tmp 63) 23 5 (.int .u8 0) 1 rfl Try.underlying23 info5 rfl (by decide) (by omega) v494 y493 l0_9 _ _ _ (fun k_ => some k_ ≠ (.slice Ao33 y478.length co33 : Value).ownBlock) (fun _ => False) rfl rfl ?aO ?aR (fun _ _ h => h) (fun _ h => h.elim) ?aF ?aB ?aS ?aL ?_
        (case aR => exact Kd.C_below HR0_9.out (bz HB))
        (case aB => exact bz HB)
        (case aF => exact (fun k_ hk => Kd.fresh' (Kd.R_lt (Kd.rz HO480)) k_ hk))
        (case aO => exact (Kd.rz HO495))
        (case aS => exact (below_size (bz HB)))
        (case aL => have := LMc19.out; omega)
        intro v497 w43 ho hb hg hat; rw [<- Ny496.out] at ho
        have n0_ := Aside0.mk (blk_grown (kz BK465) hg (Kd.R_ne HO495.out BK465.out (by decide))); have n1_ := Aside0.mk (Kd.R_after (ok := (fun _ => True)) (Kd.rz HO480) hg hat); have n2_ := Aside0.mk (hb); have n3_ := Aside0.mk (ho); clear BK465; clear HO480; clear HB; clear HO495; have BK465 := n0_; have HO480 := n1_; have HB := n2_; have HO498 := n3_; clear n0_ n1_ n2_ n3_; clear ho hb hg hat; refine hK.out _ _ ⟨cz BK465.out 0 rfl, cz BK465.out 1 rfl, cz BK465.out 2 rfl, cz BK465.out 3 rfl, cz BK465.out 4 rfl, cz BK465.out 5 rfl, cz BK465.out 6 rfl, cz BK465.out 7 rfl, cz BK465.out 8 rfl, cz BK465.out 9 rfl⟩ (fun hHeld => ?_); clear hK K; refine nz 64 ?_; refine pz 7 2 HT_ ?_; refine pz 8 3 HT_ ?_; refine dz HT_ ?_
        try go_wp2
        go_ret2
        exact ⟨_, by first | rfl | (simp [errW_none, errW_some] <;> rfl) | (simp [*, errW_none, errW_some] <;> rfl), by (with_reducible repeat (first | apply Kd.R_alloc | apply Kd.R_drewN | apply Kd.R_drew)); exact Kd.R_mono HO498.out (fun _ hk => trivial), bz HB⟩
       ·rw [if_neg c19] at H
        exact absurd H (by simp)
      ·rw [if_neg c18] at H
       exact absurd H (by simp)
     ·rw [if_neg c14] at H
      exact absurd H (by simp)
attribute [local go_sem] max2_int min2_int max_two min_two max_three min_three max_four min_four
def lychref1_TcpSum.f (k : Nat) (a0 : Int) (a1 : Int) (a2_0 : Int) (a2_1 : Int) (a2_2 : Int) (a2_3 : Int) (a2_4 : Int) (a2_5 : Int) (a2_6 : Int) (a2_7 : Int) (l2_8 : List Int) (l2_9 : List Int) : Option (Int) := (lychref1_TcpBytes.f k a2_0 a2_1 a2_2 a2_3 a2_4 a2_5 0 a2_7 l2_8 l2_9).bind fun bt500 => (if bt500.2 = 0 then ((lychref1_Pseudo.f k a0 a1 6 (bt500.1.length : Int)).bind fun t504 => ((lychref1_Add.f k t504 bt500.1).bind fun t505 => ((lychref1_Fold.f k t505).bind fun t506 => (some (Go.bits .xor .u16 IntKind.u16.max t506))))) else (some 0))
theorem lychref1_TcpSum.calls (k : Nat) (a0 : Int) (a1 : Int) (a2_0 : Int) (a2_1 : Int) (a2_2 : Int) (a2_3 : Int) (a2_4 : Int) (a2_5 : Int) (a2_6 : Int) (a2_7 : Int) (A2_8 : Option Addr) (c2_8 : Nat) (l2_8 : List Int) (A2_9 : Option Addr) (c2_9 : Nat) (l2_9 : List Int) (r : Int) (w : World) (hr2_8 : Kd.C (Kd.int .u8) w A2_8 l2_8.length l2_8) (hc2_8 : l2_8.length <= c2_8) (hr2_9 : Kd.C (Kd.int .u8) w A2_9 l2_9.length l2_9) (hc2_9 : l2_9.length <= c2_9) (h : lychref1_TcpSum.f k a0 a1 a2_0 a2_1 a2_2 a2_3 a2_4 a2_5 a2_6 a2_7 l2_8 l2_9 = some r) :
  Calls Try.prog 74 #[.int .u32 a0, .int .u32 a1, .agg #[.int .u16 a2_0, .int .u16 a2_1, .int .u32 a2_2, .int .u32 a2_3, .int .u8 a2_4, .int .u16 a2_5, .int .u16 a2_6, .int .u16 a2_7, .slice A2_8 l2_8.length c2_8, .slice A2_9 l2_9.length c2_9]] w fun e w' => e = .returned (.int .u16 r) /\ Below w.heap.size w w' := by
 have hu137 := Try.underlying137; have hsg_u16 : IntKind.u16.signed = false := rfl; have HR2_8 := Aside0.mk hr2_8; have HC2_8 := Aside0.mk hc2_8; clear hr2_8 hc2_8; have HR2_9 := Aside0.mk hr2_9; have HC2_9 := Aside0.mk hc2_9; clear hr2_9 hc2_9; have HB := Aside0.mk (Below.refl w.heap.size w); have H : ((lychref1_TcpBytes.f k a2_0 a2_1 a2_2 a2_3 a2_4 a2_5 0 a2_7 l2_8 l2_9).bind fun bt500 => (if bt500.2 = 0 then ((lychref1_Pseudo.f k a0 a1 6 (bt500.1.length : Int)).bind fun t504 => ((lychref1_Add.f k t504 bt500.1).bind fun t505 => ((lychref1_Fold.f k t505).bind fun t506 => (some (Go.bits .xor .u16 IntKind.u16.max t506))))) else (some 0))) = some r := h; clear h; replace H := Option.bind_eq_some_iff.mp H; obtain ⟨⟨t500, t503⟩, A40, H⟩ := H
 (try dsimp -simprocs only at H)
 have A4 := Aside0.mk A40; clear A40
 by_cases c5 : t503 = 0
 ·rw [if_pos c5] at H
  have c5b0 : (t503 == 0) = true := beq_iff_eq.mpr c5; have c5b1 : (t503 != 0) = false := bne_eq_false_iff_eq.mpr c5; clear c5; replace H := Option.bind_eq_some_iff.mp H; obtain ⟨t504, A60, H⟩ := H
  (try dsimp -simprocs only at H)
  have A6 := Aside0.mk A60; clear A60; replace H := Option.bind_eq_some_iff.mp H; obtain ⟨t505, A70, H⟩ := H
  (try dsimp -simprocs only at H)
  have A7 := Aside0.mk A70; clear A70; replace H := Option.bind_eq_some_iff.mp H; obtain ⟨t506, A80, H⟩ := H
  (try dsimp -simprocs only at H)
  have A8 := Aside0.mk A80; clear A80; obtain rfl := Option.some.inj H
  go_enter Try.func74, Try.ntmps74
  go_wp2_with (first | ((with_reducible refine gate_dst (N := 5) rfl ?_); refine box_event ?hg (N := 5) ?hd (cs := #[.int .u16 a2_0, .int .u16 a2_1, .int .u32 a2_2, .int .u32 a2_3, .int .u8 a2_4, .int .u16 a2_5, .int .u16 a2_6, .int .u16 a2_7, .slice A2_8 l2_8.length c2_8, .slice A2_9 l2_9.length c2_9]) (t := 137) ?hr ?_; (case hd => rfl); (case hg => rfl); (case hr => first | (go_simp; done) | (go_simp; rfl)); intro gb499 hg w9 hbox hb; have n0_ := Aside0.mk (below_step (bz HB) hb); have n1_ := Aside0.mk (hbox); have n2_ := Aside0.mk ((by rw [hg]; exact (below_size (bz HB)) : w.heap.size <= gb499)); have n3_ := Aside0.mk ((by rw [hg]; exact (below_size (bz HB)) : w.heap.size <= gb499)); clear HB; have HB := n0_; have BK499 := n1_; have GW499 := n2_; have GE499 := n3_; clear n0_ n1_ n2_ n3_; clear hb hbox hg; have hcz10_0 : w9.cell? ⟨gb499, 0, none⟩ = some (.int .u16 a2_0) := cz BK499.out 0 rfl; have hcz10_1 : w9.cell? ⟨gb499, 1, none⟩ = some (.int .u16 a2_1) := cz BK499.out 1 rfl; have hcz10_2 : w9.cell? ⟨gb499, 2, none⟩ = some (.int .u32 a2_2) := cz BK499.out 2 rfl; have hcz10_3 : w9.cell? ⟨gb499, 3, none⟩ = some (.int .u32 a2_3) := cz BK499.out 3 rfl; have hcz10_4 : w9.cell? ⟨gb499, 4, none⟩ = some (.int .u8 a2_4) := cz BK499.out 4 rfl; have hcz10_5 : w9.cell? ⟨gb499, 5, none⟩ = some (.int .u16 a2_5) := cz BK499.out 5 rfl; have hcz10_6 : w9.cell? ⟨gb499, 6, none⟩ = some (.int .u16 a2_6) := cz BK499.out 6 rfl; have hcz10_7 : w9.cell? ⟨gb499, 7, none⟩ = some (.int .u16 a2_7) := cz BK499.out 7 rfl; have hcz10_8 : w9.cell? ⟨gb499, 8, none⟩ = some (.slice A2_8 l2_8.length c2_8) := cz BK499.out 8 rfl; have hcz10_9 : w9.cell? ⟨gb499, 9, none⟩ = some (.slice A2_9 l2_9.length c2_9) := cz BK499.out 9 rfl; have hfz10_0 := blk_frozen BK499.out 0; have hfz10_1 := blk_frozen BK499.out 1; have hfz10_2 := blk_frozen BK499.out 2; have hfz10_3 := blk_frozen BK499.out 3; have hfz10_4 := blk_frozen BK499.out 4; have hfz10_5 := blk_frozen BK499.out 5; have hfz10_6 := blk_frozen BK499.out 6; have hfz10_7 := blk_frozen BK499.out 7; have hfz10_8 := blk_frozen BK499.out 8; have hfz10_9 := blk_frozen BK499.out 9) | ((with_reducible refine gate_callee (f := 75) rfl ?_); refine gL 12 Try.func75 #[.agg #[.int .u16 a2_0, .int .u16 a2_1, .int .u32 a2_2, .int .u32 a2_3, .int .u8 a2_4, .int .u16 a2_5, .int .u16 0, .int .u16 a2_7, .slice A2_8 l2_8.length c2_8, .slice A2_9 l2_9.length c2_9]] ?_; (with_reducible refine (lychref1_TcpBytes.calls k a2_0 a2_1 a2_2 a2_3 a2_4 a2_5 0 a2_7 _ _ l2_8 _ _ l2_9 t500 t503 _ ?side1 ?side2 ?side3 ?side4 A4.out).mono ?_); (case side1 => exact Kd.C_below HR2_8.out (bz HB)); (case side2 => exact HC2_8.out); (case side3 => exact Kd.C_below HR2_9.out (bz HB)); (case side4 => exact HC2_9.out); rintro e w11 ⟨v501, rfl, ho0, hb⟩; refine ⟨_, rfl, ?_⟩; have n0_ := Aside0.mk (Kd.R_lower ho0 (below_size (bz HB))); have n1_ := Aside0.mk (blk_below (g := gb499) (o := .cells #[.int .u16 a2_0, .int .u16 a2_1, .int .u32 a2_2, .int .u32 a2_3, .int .u8 a2_4, .int .u16 a2_5, .int .u16 0, .int .u16 a2_7, .slice A2_8 l2_8.length c2_8, .slice A2_9 l2_9.length c2_9] 137 (0, 0)) (by (with_reducible repeat (first | refine blk_drewN ?_ _ | refine blk_drew ?_ | refine blk_alloc ?_ _)); refine blk_put (cs := #[.int .u16 a2_0, .int .u16 a2_1, .int .u32 a2_2, .int .u32 a2_3, .int .u8 a2_4, .int .u16 a2_5, .int .u16 a2_6, .int .u16 a2_7, .slice A2_8 l2_8.length c2_8, .slice A2_9 l2_9.length c2_9]) ?_ 6 _ rfl; (with_reducible repeat (first | refine blk_drewN ?_ _ | refine blk_drew ?_ | refine blk_alloc ?_ _)); exact BK499.out) hb); have n2_ := Aside0.mk (below_step (bz HB) hb); clear BK499; clear HB; have HO502 := n0_; have BK499 := n1_; have HB := n2_; clear n0_ n1_ n2_; (try clear hb); (try clear hb2); (try clear hk); (try clear hi); (try clear ho0); obtain ⟨Ao12, co12, eo12⟩ := Kd.R_slice HO502.out; subst eo12) | ((with_reducible refine gate_callee (f := 82) rfl ?_); refine gL 21 Try.func82 #[.int .u32 a0, .int .u32 a1, .int .u8 6, .int .i64 (t500.length : Int)] ?_; (with_reducible refine (lychref1_Pseudo.calls k a0 a1 6 (t500.length : Int) t504 _ A6.out).mono ?_); rintro e w' ⟨rfl, ⟨nd, rfl⟩⟩; refine ⟨_, rfl, ?_⟩) | ((with_reducible refine gate_callee (f := 80) rfl ?_); refine gL 23 Try.func80 #[.int .u32 t504, .slice Ao12 t500.length co12] ?_; (with_reducible refine (lychref1_Add.calls k t504 _ _ t500 t505 _ ?side1 ?side2 A7.out).mono ?_); (case side1 => repeat (first | exact (Kd.R_reads' HO502.out).2.2 | (with_reducible refine Kd.C_alloc ?_ _) | (with_reducible refine Kd.C_drewN ?_ _) | (with_reducible refine Kd.C_drew ?_))); (case side2 => exact (Kd.R_reads' HO502.out).2.1); rintro e w13 ⟨rfl, hb⟩; refine ⟨_, rfl, ?_⟩; have n0_ := Aside0.mk (Kd.R_below (Kd.rz HO502) hb); have n1_ := Aside0.mk (blk_below (kz BK499) hb); have n2_ := Aside0.mk (below_step (bz HB) hb); clear HO502; clear BK499; clear HB; have HO502 := n0_; have BK499 := n1_; have HB := n2_; clear n0_ n1_ n2_; (try clear hb); (try clear hb2); (try clear hk); (try clear hi)) | ((with_reducible refine gate_callee (f := 79) rfl ?_); refine gL 24 Try.func79 #[.int .u32 t505] ?_; (with_reducible refine (lychref1_Fold.calls k t505 t506 _ A8.out).mono ?_); rintro e w' ⟨rfl, ⟨nd, rfl⟩⟩; refine ⟨_, rfl, ?_⟩))
  go_ret
  exact ⟨by first | rfl | (simp [errW_none, errW_some] <;> rfl) | (simp [*, errW_none, errW_some] <;> rfl), bz HB⟩
 ·rw [if_neg c5] at H
  have c5b0 : (t503 == 0) = false := beq_eq_false_iff_ne.mpr c5; have c5b1 : (t503 != 0) = true := bne_iff_ne.mpr c5; obtain rfl := Option.some.inj H
  go_enter Try.func74, Try.ntmps74
  go_wp2_with (first | ((with_reducible refine gate_dst (N := 5) rfl ?_); refine box_event ?hg (N := 5) ?hd (cs := #[.int .u16 a2_0, .int .u16 a2_1, .int .u32 a2_2, .int .u32 a2_3, .int .u8 a2_4, .int .u16 a2_5, .int .u16 a2_6, .int .u16 a2_7, .slice A2_8 l2_8.length c2_8, .slice A2_9 l2_9.length c2_9]) (t := 137) ?hr ?_; (case hd => rfl); (case hg => rfl); (case hr => first | (go_simp; done) | (go_simp; rfl)); intro gb499 hg w14 hbox hb; have n0_ := Aside0.mk (below_step (bz HB) hb); have n1_ := Aside0.mk (hbox); have n2_ := Aside0.mk ((by rw [hg]; exact (below_size (bz HB)) : w.heap.size <= gb499)); have n3_ := Aside0.mk ((by rw [hg]; exact (below_size (bz HB)) : w.heap.size <= gb499)); clear HB; have HB := n0_; have BK499 := n1_; have GW499 := n2_; have GE499 := n3_; clear n0_ n1_ n2_ n3_; clear hb hbox hg; have hcz15_0 : w14.cell? ⟨gb499, 0, none⟩ = some (.int .u16 a2_0) := cz BK499.out 0 rfl; have hcz15_1 : w14.cell? ⟨gb499, 1, none⟩ = some (.int .u16 a2_1) := cz BK499.out 1 rfl; have hcz15_2 : w14.cell? ⟨gb499, 2, none⟩ = some (.int .u32 a2_2) := cz BK499.out 2 rfl; have hcz15_3 : w14.cell? ⟨gb499, 3, none⟩ = some (.int .u32 a2_3) := cz BK499.out 3 rfl; have hcz15_4 : w14.cell? ⟨gb499, 4, none⟩ = some (.int .u8 a2_4) := cz BK499.out 4 rfl; have hcz15_5 : w14.cell? ⟨gb499, 5, none⟩ = some (.int .u16 a2_5) := cz BK499.out 5 rfl; have hcz15_6 : w14.cell? ⟨gb499, 6, none⟩ = some (.int .u16 a2_6) := cz BK499.out 6 rfl; have hcz15_7 : w14.cell? ⟨gb499, 7, none⟩ = some (.int .u16 a2_7) := cz BK499.out 7 rfl; have hcz15_8 : w14.cell? ⟨gb499, 8, none⟩ = some (.slice A2_8 l2_8.length c2_8) := cz BK499.out 8 rfl; have hcz15_9 : w14.cell? ⟨gb499, 9, none⟩ = some (.slice A2_9 l2_9.length c2_9) := cz BK499.out 9 rfl; have hfz15_0 := blk_frozen BK499.out 0; have hfz15_1 := blk_frozen BK499.out 1; have hfz15_2 := blk_frozen BK499.out 2; have hfz15_3 := blk_frozen BK499.out 3; have hfz15_4 := blk_frozen BK499.out 4; have hfz15_5 := blk_frozen BK499.out 5; have hfz15_6 := blk_frozen BK499.out 6; have hfz15_7 := blk_frozen BK499.out 7; have hfz15_8 := blk_frozen BK499.out 8; have hfz15_9 := blk_frozen BK499.out 9) | ((with_reducible refine gate_callee (f := 75) rfl ?_); refine gL 12 Try.func75 #[.agg #[.int .u16 a2_0, .int .u16 a2_1, .int .u32 a2_2, .int .u32 a2_3, .int .u8 a2_4, .int .u16 a2_5, .int .u16 0, .int .u16 a2_7, .slice A2_8 l2_8.length c2_8, .slice A2_9 l2_9.length c2_9]] ?_; (with_reducible refine (lychref1_TcpBytes.calls k a2_0 a2_1 a2_2 a2_3 a2_4 a2_5 0 a2_7 _ _ l2_8 _ _ l2_9 t500 t503 _ ?side1 ?side2 ?side3 ?side4 A4.out).mono ?_); (case side1 => exact Kd.C_below HR2_8.out (bz HB)); (case side2 => exact HC2_8.out); (case side3 => exact Kd.C_below HR2_9.out (bz HB)); (case side4 => exact HC2_9.out); rintro e w16 ⟨v501, rfl, ho0, hb⟩; refine ⟨_, rfl, ?_⟩; have n0_ := Aside0.mk (Kd.R_lower ho0 (below_size (bz HB))); have n1_ := Aside0.mk (blk_below (g := gb499) (o := .cells #[.int .u16 a2_0, .int .u16 a2_1, .int .u32 a2_2, .int .u32 a2_3, .int .u8 a2_4, .int .u16 a2_5, .int .u16 0, .int .u16 a2_7, .slice A2_8 l2_8.length c2_8, .slice A2_9 l2_9.length c2_9] 137 (0, 0)) (by (with_reducible repeat (first | refine blk_drewN ?_ _ | refine blk_drew ?_ | refine blk_alloc ?_ _)); refine blk_put (cs := #[.int .u16 a2_0, .int .u16 a2_1, .int .u32 a2_2, .int .u32 a2_3, .int .u8 a2_4, .int .u16 a2_5, .int .u16 a2_6, .int .u16 a2_7, .slice A2_8 l2_8.length c2_8, .slice A2_9 l2_9.length c2_9]) ?_ 6 _ rfl; (with_reducible repeat (first | refine blk_drewN ?_ _ | refine blk_drew ?_ | refine blk_alloc ?_ _)); exact BK499.out) hb); have n2_ := Aside0.mk (below_step (bz HB) hb); clear BK499; clear HB; have HO502 := n0_; have BK499 := n1_; have HB := n2_; clear n0_ n1_ n2_; (try clear hb); (try clear hb2); (try clear hk); (try clear hi); (try clear ho0)))
  go_ret
  exact ⟨by first | rfl | (simp [errW_none, errW_some] <;> rfl) | (simp [*, errW_none, errW_some] <;> rfl), bz HB⟩
def abc16 : List Int := [97, 98, 99, 100, 101, 102, 103, 104, 105, 106, 107, 108, 109, 110, 111, 112]
def seat_body.f (k : Nat) (pr src dst fr tp fl n : Int) : Option (List Int) :=
 if pr = 17 then
  if Go.bits .and .u8 fl 64 = 0 then (lychref1_UdpSum.f k src dst fr tp 0 (abc16.take (n.tmod 16).toNat)).bind fun s => (lychref1_UdpBytes.f fr tp s (abc16.take (n.tmod 16).toNat)).bind fun b => some b.1
  else (lychref1_UdpBytes.f fr tp 0 (abc16.take (n.tmod 16).toNat)).bind fun b => some b.1
 else if pr = 6 then
  if Go.bits .and .u8 n 32 = 0 then (lychref1_TcpSum.f k src dst fr tp (n % 4294967296) 0 (Go.bits .and .u8 fl 23) 9 0 0 [] (abc16.take (n.tmod 16).toNat)).bind fun s => (lychref1_TcpBytes.f k fr tp (n % 4294967296) 0 (Go.bits .and .u8 fl 23) 9 s 0 [] (abc16.take (n.tmod 16).toNat)).bind fun b => some b.1
  else (lychref1_TcpSum.f k src dst fr tp (n % 4294967296) 0 (Go.bits .and .u8 fl 23) 9 0 0 [1, 1, 1, 0] (abc16.take (n.tmod 16).toNat)).bind fun s => (lychref1_TcpBytes.f k fr tp (n % 4294967296) 0 (Go.bits .and .u8 fl 23) 9 s 0 [1, 1, 1, 0] (abc16.take (n.tmod 16).toNat)).bind fun b => some b.1
 else if Go.bits .and .u8 fl 1 = 0 then (lychref1_IcmpSum.f k 8 0 0 (Go.bits .or .u32 (fr % 4294967296 * 65536 % 4294967296) (n % 4294967296)) (abc16.take (n.tmod 16).toNat)).bind fun s => (lychref1_IcmpBytes.f 8 0 s (Go.bits .or .u32 (fr % 4294967296 * 65536 % 4294967296) (n % 4294967296)) (abc16.take (n.tmod 16).toNat)).bind fun b => some b.1
  else (lychref1_IcmpSum.f k 0 0 0 (Go.bits .or .u32 (fr % 4294967296 * 65536 % 4294967296) (n % 4294967296)) (abc16.take (n.tmod 16).toNat)).bind fun s => (lychref1_IcmpBytes.f 0 0 s (Go.bits .or .u32 (fr % 4294967296 * 65536 % 4294967296) (n % 4294967296)) (abc16.take (n.tmod 16).toNat)).bind fun b => some b.1
theorem seat_body.calls (k : Nat) (pr src dst fr tp fl n : Int) (r : List Int) (w : World) (hn : 0 <= n /\ n <= 255) (h : seat_body.f k pr src dst fr tp fl n = some r) :
  Calls Try.prog 53 #[.int .u8 pr, .int .u32 src, .int .u32 dst, .int .u16 fr, .int .u16 tp, .int .u8 fl, .int .u8 n] w fun e w' => ∃ v0_ : Value, e = .returned v0_ /\ Kd.R (Kd.int .u8) 5 w' w.heap.size (fun _ => True) v0_ r /\ Below w.heap.size w w' := by
 have hu83 := Try.underlying83; have hu137 := Try.underlying137; have hu101 := Try.underlying101; have HB := Aside0.mk (Below.refl w.heap.size w); have HI83 : Aside0 ((Try.prog.info? 83).map (·.size) = some 4) := ⟨by kernel_rfl⟩
 have HI137 : Aside0 ((Try.prog.info? 137).map (·.size) = some 10) := ⟨by kernel_rfl⟩
 have HI101 : Aside0 ((Try.prog.info? 101).map (·.size) = some 5) := ⟨by kernel_rfl⟩
 obtain ⟨m, hm⟩ : ∃ m : Nat, n.tmod 16 = (m : Int) := ⟨(n.tmod 16).toNat, (Int.toNat_of_nonneg (Int.tmod_nonneg _ hn.1)).symm⟩
 have hm16 : m <= abc16.length := by
  have h1 : n.tmod 16 < 16 := Int.tmod_lt_of_pos _ (by decide); have h2 : abc16.length = 16 := rfl
  omega
 obtain ⟨i0, hi0, _, hsz, _⟩ := info_parts info5; have H : seat_body.f k pr src dst fr tp fl n = some r := h; clear h; unfold seat_body.f at H
 rw [hm, Int.toNat_natCast] at H
 obtain ⟨l, hl⟩ : ∃ l, l = abc16.take m := ⟨_, rfl⟩
 have hll : l.length = m := by rw [hl, List.length_take]; omega
 have hcut := rw_cut (P := Try.prog) 23 5 .u8 Try.underlying23 hi0 (some ⟨w.heap.size, 0, none⟩) 16 16 (n.tmod 16) l.length (by rw [hll]; exact hm) (by rw [hll]; exact hm16) (Nat.le_refl _); rw [<- hl] at H
 have kc := Lib.run_convert_bytes_const (P := Try.prog) w 23 5 #[.int .u8 97, .int .u8 98, .int .u8 99, .int .u8 100, .int .u8 101, .int .u8 102, .int .u8 103, .int .u8 104, .int .u8 105, .int .u8 106, .int .u8 107, .int .u8 108, .int .u8 109, .int .u8 110, .int .u8 111, .int .u8 112] 16 16 Try.underlying23 Try.underlying5; have HLE := Aside0.mk hl; have HM16 := Aside0.mk hm16; have HM2 : Aside0 (l.length <= 16) := ⟨by rw [hll]; exact hm16⟩
 have HF := Aside0.mk H; clear hl hll hm hm16 hi0 hsz H hn
 go_enter Try.func53, Try.ntmps53
 go_upto_region 2 with (fail)
 clear hcut kc; obtain ⟨gd, hgd⟩ : ∃ x_, x_ = w.heap.size := ⟨_, rfl⟩
 have HXd : Aside0 ((w.alloc (.cells #[.int .u8 97, .int .u8 98, .int .u8 99, .int .u8 100, .int .u8 101, .int .u8 102, .int .u8 103, .int .u8 104, .int .u8 105, .int .u8 106, .int .u8 107, .int .u8 108, .int .u8 109, .int .u8 110, .int .u8 111, .int .u8 112] 5 (16, 17))).heap[gd]? = some (.cells #[.int .u8 97, .int .u8 98, .int .u8 99, .int .u8 100, .int .u8 101, .int .u8 102, .int .u8 103, .int .u8 104, .int .u8 105, .int .u8 106, .int .u8 107, .int .u8 108, .int .u8 109, .int .u8 110, .int .u8 111, .int .u8 112] 5 (16, 17))) := ⟨by rw [hgd]; exact rw_blknew _ _⟩
 rw [<- hgd]; clear hgd; have hb_ := below_alloc (Below.refl w.heap.size w) (.cells #[.int .u8 97, .int .u8 98, .int .u8 99, .int .u8 100, .int .u8 101, .int .u8 102, .int .u8 103, .int .u8 104, .int .u8 105, .int .u8 106, .int .u8 107, .int .u8 108, .int .u8 109, .int .u8 110, .int .u8 111, .int .u8 112] 5 (16, 17)); replace HB := mB HB hb_; clear hb_; generalize w.alloc (.cells #[.int .u8 97, .int .u8 98, .int .u8 99, .int .u8 100, .int .u8 101, .int .u8 102, .int .u8 103, .int .u8 104, .int .u8 105, .int .u8 106, .int .u8 107, .int .u8 108, .int .u8 109, .int .u8 110, .int .u8 111, .int .u8 112] 5 (16, 17)) = w1 at HXd HB |-
 have H := HF.out; clear HF
 by_cases c17 : pr = 17
 ·have c171 : (pr == 17) = true := beq_iff_eq.2 c17
  have c172 : (pr != 17) = false := by rw [bne, c171]; rfl
  rw [if_pos c17] at H
  clear c17
  (try dsimp only)
  go_upto_region 5 with ((first | (refine rw_skip rfl rfl (rw_new rfl rfl rfl HI83.out rfl (by simp [Value.oneCell'])) ?_)))
  obtain ⟨gu, hgu⟩ : ∃ x_, x_ = w1.heap.size := ⟨_, rfl⟩
  have HXu : Aside0 ((w1.alloc (.cells #[.int .u16 fr, .int .u16 tp, .int .u16 0, .slice (some ⟨gd, 0, none⟩) l.length 16] 83)).heap[gu]? = some (.cells #[.int .u16 fr, .int .u16 tp, .int .u16 0, .slice (some ⟨gd, 0, none⟩) l.length 16] 83 (0, 0))) := ⟨by rw [hgu]; exact rw_blknew _ _⟩
  have GHXu := Aside0.mk (show w.heap.size <= gu by rw [hgu]; exact below_size HB.out); rw [<- hgu]; clear hgu; have hb_ := below_alloc (Below.refl w1.heap.size w1) (.cells #[.int .u16 fr, .int .u16 tp, .int .u16 0, .slice (some ⟨gd, 0, none⟩) l.length 16] 83); replace HB := mB HB hb_; replace HXd := mX HXd hb_; clear hb_; generalize (w1.alloc (.cells #[.int .u16 fr, .int .u16 tp, .int .u16 0, .slice (some ⟨gd, 0, none⟩) l.length 16] 83)) = w2 at HXu HB HXd |-
  by_cases cf : Go.bits .and .u8 fl 64 = 0
  ·have cf1 : (Go.bits .and .u8 fl 64 == 0) = true := beq_iff_eq.2 cf
   have cf2 : (Go.bits .and .u8 fl 64 != 0) = false := by rw [bne, cf1]; rfl
   rw [if_pos cf] at H
   clear cf
   (try dsimp only)
   go_wp2_with (refine Kd.event_run rfl (rw_load rfl rfl HXu.out Try.underlying83 rfl HI83.out) ?_)
   obtain ⟨s, hs0, H⟩ := rw_bind H; have HCd := Aside0.mk (show Kd.C (Kd.int .u8) w2 (some ⟨gd, 0, none⟩) l.length l by rw [HLE.out]; exact rw_C_blk HXd.out rfl HM16.out (by decide)); refine (lychref1_UdpSum.calls k src dst fr tp 0 (some ⟨gd, 0, none⟩) 16 l s _ HCd.out HM2.out hs0).mono ?_; rintro e w3 ⟨rfl, hb⟩; clear hs0 HCd; have hb_ := hb; replace HB := mB HB hb_; replace HXd := mX HXd hb_; replace HXu := mX HXu hb_; clear hb_; clear hb
   (try dsimp only)
   go_upto_region 7 with (((refine rw_set rfl rfl (i := 2) (v := .int .u16 s) (cs' := #[.int .u16 fr, .int .u16 tp, .int .u16 s, .slice (some ⟨gd, 0, none⟩) l.length 16]) HXu.out rfl ?hr_ ?_); (case hr_ => (have m_ := (blk_cell HXu.out 2).trans (rfl : _ = some (.int .u16 0 : Value))); (have mf_ := blk_frozen HXu.out 2); first | (go_simp; done) | (go_simp; rfl)); intro w4 hs_ off_; have n_HB := Aside0.mk (Off.below off_ HB.out GHXu.out); have n_HXd := Aside0.mk (Off.blk off_ HXd.out HXu.out (by decide)); clear HB HXd HXu off_; have HXu := Aside0.mk hs_; clear hs_; have HB := n_HB; have HXd := n_HXd; clear n_HB n_HXd))
   go_wp2_with (refine Kd.event_run rfl (rw_load rfl rfl HXu.out Try.underlying83 rfl HI83.out) ?_)
   obtain ⟨⟨b, be⟩, hb0, H⟩ := rw_bind H; obtain rfl := Option.some.inj H; have HCd := Aside0.mk (show Kd.C (Kd.int .u8) w4 (some ⟨gd, 0, none⟩) l.length l by rw [HLE.out]; exact rw_C_blk HXd.out rfl HM16.out (by decide)); refine (lychref1_UdpBytes.calls fr tp s (some ⟨gd, 0, none⟩) 16 l b be _ HCd.out HM2.out hb0).mono ?_; rintro e w5 ⟨v_, rfl, ho, hb⟩; have HRr := Aside0.mk (Kd.R_lower ho (below_size HB.out)); clear ho hb0 HCd; have hb_ := hb; replace HB := mB HB hb_; clear hb_; clear hb
   (try dsimp only)
   go_wp2
   (try simp only [Exit.inBlock, Exit.then])
   go_ret
   exact ⟨_, rfl, HRr.out, HB.out⟩
  ·have cf1 : (Go.bits .and .u8 fl 64 == 0) = false := beq_eq_false_iff_ne.2 cf
   have cf2 : (Go.bits .and .u8 fl 64 != 0) = true := bne_iff_ne.2 cf; rw [if_neg cf] at H
   clear cf
   (try dsimp only)
   go_wp2_with (refine Kd.event_run rfl (rw_load rfl rfl HXu.out Try.underlying83 rfl HI83.out) ?_)
   obtain ⟨⟨b, be⟩, hb0, H⟩ := rw_bind H; obtain rfl := Option.some.inj H; have HCd := Aside0.mk (show Kd.C (Kd.int .u8) w2 (some ⟨gd, 0, none⟩) l.length l by rw [HLE.out]; exact rw_C_blk HXd.out rfl HM16.out (by decide)); refine (lychref1_UdpBytes.calls fr tp 0 (some ⟨gd, 0, none⟩) 16 l b be _ HCd.out HM2.out hb0).mono ?_; rintro e w5 ⟨v_, rfl, ho, hb⟩; have HRr := Aside0.mk (Kd.R_lower ho (below_size HB.out)); clear ho hb0 HCd; have hb_ := hb; replace HB := mB HB hb_; clear hb_; clear hb
   (try dsimp only)
   go_wp2
   (try simp only [Exit.inBlock, Exit.then])
   go_ret
   exact ⟨_, rfl, HRr.out, HB.out⟩
 ·have c171 : (pr == 17) = false := beq_eq_false_iff_ne.2 c17
  have c172 : (pr != 17) = true := bne_iff_ne.2 c17; rw [if_neg c17] at H
  clear c17
  by_cases c6 : pr = 6
  ·have c61 : (pr == 6) = true := beq_iff_eq.2 c6
   have c62 : (pr != 6) = false := by rw [bne, c61]; rfl
   rw [if_pos c6] at H
   clear c6
   (try dsimp only)
   go_upto_region 11 with ((first | (refine rw_skip rfl rfl (rw_new rfl rfl rfl HI137.out rfl (by simp [Value.oneCell'])) ?_)))
   obtain ⟨gt, hgt⟩ : ∃ x_, x_ = w1.heap.size := ⟨_, rfl⟩
   have HXt : Aside0 ((w1.alloc (.cells #[.int .u16 fr, .int .u16 tp, .int .u32 (n % 4294967296), .int .u32 0, .int .u8 (Go.bits .and .u8 fl 23), .int .u16 9, .int .u16 0, .int .u16 0, .slice none 0 0, .slice (some ⟨gd, 0, none⟩) l.length 16] 137)).heap[gt]? = some (.cells #[.int .u16 fr, .int .u16 tp, .int .u32 (n % 4294967296), .int .u32 0, .int .u8 (Go.bits .and .u8 fl 23), .int .u16 9, .int .u16 0, .int .u16 0, .slice none 0 0, .slice (some ⟨gd, 0, none⟩) l.length 16] 137 (0, 0))) := ⟨by rw [hgt]; exact rw_blknew _ _⟩
   have GHXt := Aside0.mk (show w.heap.size <= gt by rw [hgt]; exact below_size HB.out); rw [<- hgt]; clear hgt; have hb_ := below_alloc (Below.refl w1.heap.size w1) (.cells #[.int .u16 fr, .int .u16 tp, .int .u32 (n % 4294967296), .int .u32 0, .int .u8 (Go.bits .and .u8 fl 23), .int .u16 9, .int .u16 0, .int .u16 0, .slice none 0 0, .slice (some ⟨gd, 0, none⟩) l.length 16] 137); replace HB := mB HB hb_; replace HXd := mX HXd hb_; clear hb_; generalize (w1.alloc (.cells #[.int .u16 fr, .int .u16 tp, .int .u32 (n % 4294967296), .int .u32 0, .int .u8 (Go.bits .and .u8 fl 23), .int .u16 9, .int .u16 0, .int .u16 0, .slice none 0 0, .slice (some ⟨gd, 0, none⟩) l.length 16] 137)) = w2 at HXt HB HXd |-
   by_cases co : Go.bits .and .u8 n 32 = 0
   ·have co1 : (Go.bits .and .u8 n 32 == 0) = true := beq_iff_eq.2 co
    have co2 : (Go.bits .and .u8 n 32 != 0) = false := by rw [bne, co1]; rfl
    rw [if_pos co] at H
    clear co
    (try dsimp only)
    go_wp2_with (refine Kd.event_run rfl (rw_load rfl rfl HXt.out Try.underlying137 rfl HI137.out) ?_)
    obtain ⟨s, hs0, H⟩ := rw_bind H; have HCd := Aside0.mk (show Kd.C (Kd.int .u8) w2 (some ⟨gd, 0, none⟩) l.length l by rw [HLE.out]; exact rw_C_blk HXd.out rfl HM16.out (by decide)); have HCo := Aside0.mk (Kd.C_nil (Kd.int .u8) w2); refine (lychref1_TcpSum.calls k src dst fr tp (n % 4294967296) 0 (Go.bits .and .u8 fl 23) 9 0 0 none 0 [] (some ⟨gd, 0, none⟩) 16 l s _ HCo.out (by decide) HCd.out HM2.out hs0).mono ?_; rintro e w7 ⟨rfl, hb⟩; clear hs0 HCd HCo; have hb_ := hb; replace HB := mB HB hb_; replace HXd := mX HXd hb_; replace HXt := mX HXt hb_; clear hb_; clear hb
    (try dsimp only)
    go_upto_region 14 with (((refine rw_set rfl rfl (i := 6) (v := .int .u16 s) (cs' := #[.int .u16 fr, .int .u16 tp, .int .u32 (n % 4294967296), .int .u32 0, .int .u8 (Go.bits .and .u8 fl 23), .int .u16 9, .int .u16 s, .int .u16 0, .slice none 0 0, .slice (some ⟨gd, 0, none⟩) l.length 16]) HXt.out rfl ?hr_ ?_); (case hr_ => (have m_ := (blk_cell HXt.out 6).trans (rfl : _ = some (.int .u16 0 : Value))); (have mf_ := blk_frozen HXt.out 6); first | (go_simp; done) | (go_simp; rfl)); intro w8 hs_ off_; have n_HB := Aside0.mk (Off.below off_ HB.out GHXt.out); have n_HXd := Aside0.mk (Off.blk off_ HXd.out HXt.out (by decide)); clear HB HXd HXt off_; have HXt := Aside0.mk hs_; clear hs_; have HB := n_HB; have HXd := n_HXd; clear n_HB n_HXd))
    go_wp2_with (refine Kd.event_run rfl (rw_load rfl rfl HXt.out Try.underlying137 rfl HI137.out) ?_)
    have HCo := Aside0.mk (Kd.C_nil (Kd.int .u8) w8); obtain ⟨⟨b, be⟩, hb0, H⟩ := rw_bind H; obtain rfl := Option.some.inj H; have HCd := Aside0.mk (show Kd.C (Kd.int .u8) w8 (some ⟨gd, 0, none⟩) l.length l by rw [HLE.out]; exact rw_C_blk HXd.out rfl HM16.out (by decide)); refine (lychref1_TcpBytes.calls k fr tp (n % 4294967296) 0 (Go.bits .and .u8 fl 23) 9 s 0 none 0 [] (some ⟨gd, 0, none⟩) 16 l b be _ HCo.out (by decide) HCd.out HM2.out hb0).mono ?_; rintro e w9 ⟨v_, rfl, ho, hb⟩; have HRr := Aside0.mk (Kd.R_lower ho (below_size HB.out)); clear ho hb0 HCd; have hb_ := hb; replace HB := mB HB hb_; clear hb_; clear hb
    (try dsimp only)
    go_wp2
    (try simp only [Exit.inBlock, Exit.then])
    go_ret
    exact ⟨_, rfl, HRr.out, HB.out⟩
   ·have co1 : (Go.bits .and .u8 n 32 == 0) = false := beq_eq_false_iff_ne.2 co
    have co2 : (Go.bits .and .u8 n 32 != 0) = true := bne_iff_ne.2 co; rw [if_neg co] at H
    clear co
    (try dsimp only)
    go_upto_region 13 with (first | ((with_reducible refine gate_dst (N := 64) rfl ?_); refine rw_lit ?hg_ (cs := #[.int .u8 1, .int .u8 1, .int .u8 1, .int .u8 0]) (t := 5) (n := 4) ?hr_ ?_; (case hg_ => rfl); (case hr_ => first | (go_simp; done) | (go_simp; rfl)); intro go w5 HXo0 hgo hb0_; have HXo := Aside0.mk HXo0; clear HXo0 hgo; have hb_ := hb0_; replace HB := mB HB hb_; replace HXd := mX HXd hb_; replace HXt := mX HXt hb_; clear hb_; clear hb0_) | ((refine rw_set rfl rfl (i := 8) (v := .slice (some ⟨go, 0, none⟩) 4 4) (cs' := #[.int .u16 fr, .int .u16 tp, .int .u32 (n % 4294967296), .int .u32 0, .int .u8 (Go.bits .and .u8 fl 23), .int .u16 9, .int .u16 0, .int .u16 0, .slice (some ⟨go, 0, none⟩) 4 4, .slice (some ⟨gd, 0, none⟩) l.length 16]) HXt.out rfl ?hr_ ?_); (case hr_ => (have m_ := (blk_cell HXt.out 8).trans (rfl : _ = some (.slice none 0 0 : Value))); (have mf_ := blk_frozen HXt.out 8); first | (go_simp; done) | (go_simp; rfl)); intro w6 hs_ off_; have n_HB := Aside0.mk (Off.below off_ HB.out GHXt.out); have n_HXd := Aside0.mk (Off.blk off_ HXd.out HXt.out (by decide)); have n_HXo := Aside0.mk (Off.blk off_ HXo.out HXt.out (by decide)); clear HB HXd HXo HXt off_; have HXt := Aside0.mk hs_; clear hs_; have HB := n_HB; have HXd := n_HXd; have HXo := n_HXo; clear n_HB n_HXd n_HXo))
    go_wp2_with (refine Kd.event_run rfl (rw_load rfl rfl HXt.out Try.underlying137 rfl HI137.out) ?_)
    obtain ⟨s, hs0, H⟩ := rw_bind H; have HCd := Aside0.mk (show Kd.C (Kd.int .u8) w6 (some ⟨gd, 0, none⟩) l.length l by rw [HLE.out]; exact rw_C_blk HXd.out rfl HM16.out (by decide)); have HCo := Aside0.mk (rw_C_blk (xs := [1, 1, 1, 0]) (m := 4) (w := w6) HXo.out rfl (by decide) (by decide)); refine (lychref1_TcpSum.calls k src dst fr tp (n % 4294967296) 0 (Go.bits .and .u8 fl 23) 9 0 0 (some ⟨go, 0, none⟩) 4 [1, 1, 1, 0] (some ⟨gd, 0, none⟩) 16 l s _ HCo.out (by decide) HCd.out HM2.out hs0).mono ?_; rintro e w7 ⟨rfl, hb⟩; clear hs0 HCd HCo; have hb_ := hb; replace HB := mB HB hb_; replace HXd := mX HXd hb_; replace HXt := mX HXt hb_; replace HXo := mX HXo hb_; clear hb_; clear hb
    (try dsimp only)
    go_upto_region 14 with (((refine rw_set rfl rfl (i := 6) (v := .int .u16 s) (cs' := #[.int .u16 fr, .int .u16 tp, .int .u32 (n % 4294967296), .int .u32 0, .int .u8 (Go.bits .and .u8 fl 23), .int .u16 9, .int .u16 s, .int .u16 0, .slice (some ⟨go, 0, none⟩) 4 4, .slice (some ⟨gd, 0, none⟩) l.length 16]) HXt.out rfl ?hr_ ?_); (case hr_ => (have m_ := (blk_cell HXt.out 6).trans (rfl : _ = some (.int .u16 0 : Value))); (have mf_ := blk_frozen HXt.out 6); first | (go_simp; done) | (go_simp; rfl)); intro w8 hs_ off_; have n_HB := Aside0.mk (Off.below off_ HB.out GHXt.out); have n_HXd := Aside0.mk (Off.blk off_ HXd.out HXt.out (by decide)); have n_HXo := Aside0.mk (Off.blk off_ HXo.out HXt.out (by decide)); clear HB HXd HXo HXt off_; have HXt := Aside0.mk hs_; clear hs_; have HB := n_HB; have HXd := n_HXd; have HXo := n_HXo; clear n_HB n_HXd n_HXo))
    go_wp2_with (refine Kd.event_run rfl (rw_load rfl rfl HXt.out Try.underlying137 rfl HI137.out) ?_)
    have HCo := Aside0.mk (rw_C_blk (xs := [1, 1, 1, 0]) (m := 4) (w := w8) HXo.out rfl (by decide) (by decide)); obtain ⟨⟨b, be⟩, hb0, H⟩ := rw_bind H; obtain rfl := Option.some.inj H; have HCd := Aside0.mk (show Kd.C (Kd.int .u8) w8 (some ⟨gd, 0, none⟩) l.length l by rw [HLE.out]; exact rw_C_blk HXd.out rfl HM16.out (by decide)); refine (lychref1_TcpBytes.calls k fr tp (n % 4294967296) 0 (Go.bits .and .u8 fl 23) 9 s 0 (some ⟨go, 0, none⟩) 4 [1, 1, 1, 0] (some ⟨gd, 0, none⟩) 16 l b be _ HCo.out (by decide) HCd.out HM2.out hb0).mono ?_; rintro e w9 ⟨v_, rfl, ho, hb⟩; have HRr := Aside0.mk (Kd.R_lower ho (below_size HB.out)); clear ho hb0 HCd; have hb_ := hb; replace HB := mB HB hb_; clear hb_; clear hb
    (try dsimp only)
    go_wp2
    (try simp only [Exit.inBlock, Exit.then])
    go_ret
    exact ⟨_, rfl, HRr.out, HB.out⟩
  ·have c61 : (pr == 6) = false := beq_eq_false_iff_ne.2 c6
   have c62 : (pr != 6) = true := bne_iff_ne.2 c6; rw [if_neg c6] at H
   clear c6
   (try dsimp only)
   go_upto_region 17 with ((first | (refine rw_skip rfl rfl (rw_new rfl rfl rfl HI101.out rfl (by simp [Value.oneCell'])) ?_)))
   obtain ⟨gm, hgm⟩ : ∃ x_, x_ = w1.heap.size := ⟨_, rfl⟩
   have HXm : Aside0 ((w1.alloc (.cells #[.int .u8 8, .int .u8 0, .int .u16 0, .int .u32 (Go.bits .or .u32 (fr % 4294967296 * 65536 % 4294967296) (n % 4294967296)), .slice (some ⟨gd, 0, none⟩) l.length 16] 101)).heap[gm]? = some (.cells #[.int .u8 8, .int .u8 0, .int .u16 0, .int .u32 (Go.bits .or .u32 (fr % 4294967296 * 65536 % 4294967296) (n % 4294967296)), .slice (some ⟨gd, 0, none⟩) l.length 16] 101 (0, 0))) := ⟨by rw [hgm]; exact rw_blknew _ _⟩
   have GHXm := Aside0.mk (show w.heap.size <= gm by rw [hgm]; exact below_size HB.out); rw [<- hgm]; clear hgm; have hb_ := below_alloc (Below.refl w1.heap.size w1) (.cells #[.int .u8 8, .int .u8 0, .int .u16 0, .int .u32 (Go.bits .or .u32 (fr % 4294967296 * 65536 % 4294967296) (n % 4294967296)), .slice (some ⟨gd, 0, none⟩) l.length 16] 101); replace HB := mB HB hb_; replace HXd := mX HXd hb_; clear hb_; generalize (w1.alloc (.cells #[.int .u8 8, .int .u8 0, .int .u16 0, .int .u32 (Go.bits .or .u32 (fr % 4294967296 * 65536 % 4294967296) (n % 4294967296)), .slice (some ⟨gd, 0, none⟩) l.length 16] 101)) = w2 at HXm HB HXd |-
   by_cases ci : Go.bits .and .u8 fl 1 = 0
   ·have ci1 : (Go.bits .and .u8 fl 1 == 0) = true := beq_iff_eq.2 ci
    have ci2 : (Go.bits .and .u8 fl 1 != 0) = false := by rw [bne, ci1]; rfl
    rw [if_pos ci] at H
    clear ci
    (try dsimp only)
    go_wp2_with (refine Kd.event_run rfl (rw_load rfl rfl HXm.out Try.underlying101 rfl HI101.out) ?_)
    obtain ⟨s, hs0, H⟩ := rw_bind H; have HCd := Aside0.mk (show Kd.C (Kd.int .u8) w2 (some ⟨gd, 0, none⟩) l.length l by rw [HLE.out]; exact rw_C_blk HXd.out rfl HM16.out (by decide)); refine (lychref1_IcmpSum.calls k 8 0 0 (Go.bits .or .u32 (fr % 4294967296 * 65536 % 4294967296) (n % 4294967296)) (some ⟨gd, 0, none⟩) 16 l s _ HCd.out HM2.out hs0).mono ?_; rintro e w7 ⟨rfl, hb⟩; clear hs0 HCd; have hb_ := hb; replace HB := mB HB hb_; replace HXd := mX HXd hb_; replace HXm := mX HXm hb_; clear hb_; clear hb
    (try dsimp only)
    go_upto_region 20 with (((refine rw_set rfl rfl (i := 2) (v := .int .u16 s) (cs' := #[.int .u8 8, .int .u8 0, .int .u16 s, .int .u32 (Go.bits .or .u32 (fr % 4294967296 * 65536 % 4294967296) (n % 4294967296)), .slice (some ⟨gd, 0, none⟩) l.length 16]) HXm.out rfl ?hr_ ?_); (case hr_ => (have m_ := (blk_cell HXm.out 2).trans (rfl : _ = some (.int .u16 0 : Value))); (have mf_ := blk_frozen HXm.out 2); first | (go_simp; done) | (go_simp; rfl)); intro w8 hs_ off_; have n_HB := Aside0.mk (Off.below off_ HB.out GHXm.out); have n_HXd := Aside0.mk (Off.blk off_ HXd.out HXm.out (by decide)); clear HB HXd HXm off_; have HXm := Aside0.mk hs_; clear hs_; have HB := n_HB; have HXd := n_HXd; clear n_HB n_HXd))
    go_wp2_with (refine Kd.event_run rfl (rw_load rfl rfl HXm.out Try.underlying101 rfl HI101.out) ?_)
    obtain ⟨⟨b, be⟩, hb0, H⟩ := rw_bind H; obtain rfl := Option.some.inj H; have HCd := Aside0.mk (show Kd.C (Kd.int .u8) w8 (some ⟨gd, 0, none⟩) l.length l by rw [HLE.out]; exact rw_C_blk HXd.out rfl HM16.out (by decide)); refine (lychref1_IcmpBytes.calls 8 0 s (Go.bits .or .u32 (fr % 4294967296 * 65536 % 4294967296) (n % 4294967296)) (some ⟨gd, 0, none⟩) 16 l b be _ HCd.out HM2.out hb0).mono ?_; rintro e w9 ⟨v_, rfl, ho, hb⟩; have HRr := Aside0.mk (Kd.R_lower ho (below_size HB.out)); clear ho hb0 HCd; have hb_ := hb; replace HB := mB HB hb_; clear hb_; clear hb
    (try dsimp only)
    go_wp2
    (try simp only [Exit.inBlock, Exit.then])
    go_ret
    exact ⟨_, rfl, HRr.out, HB.out⟩
   ·have ci1 : (Go.bits .and .u8 fl 1 == 0) = false := beq_eq_false_iff_ne.2 ci
    have ci2 : (Go.bits .and .u8 fl 1 != 0) = true := bne_iff_ne.2 ci; rw [if_neg ci] at H
    clear ci
    (try dsimp only)
    go_upto_region 19 with (((refine rw_set rfl rfl (i := 0) (v := .int .u8 0) (cs' := #[.int .u8 0, .int .u8 0, .int .u16 0, .int .u32 (Go.bits .or .u32 (fr % 4294967296 * 65536 % 4294967296) (n % 4294967296)), .slice (some ⟨gd, 0, none⟩) l.length 16]) HXm.out rfl ?hr_ ?_); (case hr_ => (have m_ := (blk_cell HXm.out 0).trans (rfl : _ = some (.int .u8 8 : Value))); (have mf_ := blk_frozen HXm.out 0); first | (go_simp; done) | (go_simp; rfl)); intro w6 hs_ off_; have n_HB := Aside0.mk (Off.below off_ HB.out GHXm.out); have n_HXd := Aside0.mk (Off.blk off_ HXd.out HXm.out (by decide)); clear HB HXd HXm off_; have HXm := Aside0.mk hs_; clear hs_; have HB := n_HB; have HXd := n_HXd; clear n_HB n_HXd))
    go_wp2_with (refine Kd.event_run rfl (rw_load rfl rfl HXm.out Try.underlying101 rfl HI101.out) ?_)
    obtain ⟨s, hs0, H⟩ := rw_bind H; have HCd := Aside0.mk (show Kd.C (Kd.int .u8) w6 (some ⟨gd, 0, none⟩) l.length l by rw [HLE.out]; exact rw_C_blk HXd.out rfl HM16.out (by decide)); refine (lychref1_IcmpSum.calls k 0 0 0 (Go.bits .or .u32 (fr % 4294967296 * 65536 % 4294967296) (n % 4294967296)) (some ⟨gd, 0, none⟩) 16 l s _ HCd.out HM2.out hs0).mono ?_; rintro e w7 ⟨rfl, hb⟩; clear hs0 HCd; have hb_ := hb; replace HB := mB HB hb_; replace HXd := mX HXd hb_; replace HXm := mX HXm hb_; clear hb_; clear hb
    (try dsimp only)
    go_upto_region 20 with (((refine rw_set rfl rfl (i := 2) (v := .int .u16 s) (cs' := #[.int .u8 0, .int .u8 0, .int .u16 s, .int .u32 (Go.bits .or .u32 (fr % 4294967296 * 65536 % 4294967296) (n % 4294967296)), .slice (some ⟨gd, 0, none⟩) l.length 16]) HXm.out rfl ?hr_ ?_); (case hr_ => (have m_ := (blk_cell HXm.out 2).trans (rfl : _ = some (.int .u16 0 : Value))); (have mf_ := blk_frozen HXm.out 2); first | (go_simp; done) | (go_simp; rfl)); intro w8 hs_ off_; have n_HB := Aside0.mk (Off.below off_ HB.out GHXm.out); have n_HXd := Aside0.mk (Off.blk off_ HXd.out HXm.out (by decide)); clear HB HXd HXm off_; have HXm := Aside0.mk hs_; clear hs_; have HB := n_HB; have HXd := n_HXd; clear n_HB n_HXd))
    go_wp2_with (refine Kd.event_run rfl (rw_load rfl rfl HXm.out Try.underlying101 rfl HI101.out) ?_)
    obtain ⟨⟨b, be⟩, hb0, H⟩ := rw_bind H; obtain rfl := Option.some.inj H; have HCd := Aside0.mk (show Kd.C (Kd.int .u8) w8 (some ⟨gd, 0, none⟩) l.length l by rw [HLE.out]; exact rw_C_blk HXd.out rfl HM16.out (by decide)); refine (lychref1_IcmpBytes.calls 0 0 s (Go.bits .or .u32 (fr % 4294967296 * 65536 % 4294967296) (n % 4294967296)) (some ⟨gd, 0, none⟩) 16 l b be _ HCd.out HM2.out hb0).mono ?_; rintro e w9 ⟨v_, rfl, ho, hb⟩; have HRr := Aside0.mk (Kd.R_lower ho (below_size HB.out)); clear ho hb0 HCd; have hb_ := hb; replace HB := mB HB hb_; clear hb_; clear hb
    (try dsimp only)
    go_wp2
    (try simp only [Exit.inBlock, Exit.then])
    go_ret
    exact ⟨_, rfl, HRr.out, HB.out⟩
end Go.Proofs.Ytkmimamminddiaa.PB
