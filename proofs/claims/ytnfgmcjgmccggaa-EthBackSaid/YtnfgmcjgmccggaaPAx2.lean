-- written by a patched print
import Derived.Test.YtnfgmcjgmccggaaPAx0
import Derived.Test.YtnfgmcjgmccggaaPAx1
namespace Go.Proofs.Ytnfgmcjgmccggaa.PA
open Go.RowKit Go.Proofs.YtnfgmcjgmccggaaW.PrintWords Go.Proofs.YtnfgmcjgmccggaaW.PrintLast Go.Proofs.YtnfgmcjgmccggaaW.PrintMore
attribute [local go_sem] max2_int min2_int max_two min_two max_three min_three max_four min_four   -- for this text's walks alone
set_option linter.unusedVariables false
set_option linter.unusedSimpArgs false

/-! ### eth_Parse: function 13 -/
theorem eth_Parse.eqi6 (x0 x1 x2 x3 x4 x5 y0 y1 y2 y3 y4 y5 : Int) (W : World) : (Op.equalIn 10000 26 (.agg #[.int .u8 x0, .int .u8 x1, .int .u8 x2, .int .u8 x3, .int .u8 x4, .int .u8 x5]) (.agg #[.int .u8 y0, .int .u8 y1, .int .u8 y2, .int .u8 y3, .int .u8 y4, .int .u8 y5])).run Try.prog W = .ok (x0 == y0 && (x1 == y1 && (x2 == y2 && (x3 == y3 && (x4 == y4 && x5 == y5))))) W := by
  obtain ⟨i, hi, _, hs, _⟩ := info_parts info5
  have hc : Try.prog.cellsOf 5 = 1 := by kernel_rfl
  rw [run_equalIn_array W 9999 _ _ Try.underlying26 hi, hc, show List.range 6 = [0, 1, 2, 3, 4, 5] from rfl]
  have it : ∀ (j : Nat) (js : List Nat) (xs ys : Array Value) (x y : Int) (r : Bool), (part 5 xs (j * 1)).run Try.prog W = .ok (.int .u8 x) W → (part 5 ys (j * 1)).run Try.prog W = .ok (.int .u8 y) W → (Op.eqItems 9999 5 1 xs ys js).run Try.prog W = .ok r W → (Op.eqItems 9999 5 1 xs ys (j :: js)).run Try.prog W = .ok (x == y && r) W := by
    intro j js xs ys x y r h1 h2 h3
    have he : (Op.equalIn 9999 5 (.int .u8 x) (.int .u8 y)).run Try.prog W = .ok (x == y) W := by go_simp
    rw [Op.eqItems]
    simp only [Sem.run_bind, h1, h2, he, Result.andThen_ok]
    cases hxy : (x == y)
    · simp
    · simpa using h3
  have h0 : (Op.eqItems 9999 5 1 #[.int .u8 x0, .int .u8 x1, .int .u8 x2, .int .u8 x3, .int .u8 x4, .int .u8 x5] #[.int .u8 y0, .int .u8 y1, .int .u8 y2, .int .u8 y3, .int .u8 y4, .int .u8 y5] []).run Try.prog W = .ok true W := by simp [Op.eqItems]
  have h := it 0 _ _ _ _ _ _ (by go_simp; rfl) (by go_simp; rfl) (it 1 _ _ _ _ _ _ (by go_simp; rfl) (by go_simp; rfl) (it 2 _ _ _ _ _ _ (by go_simp; rfl) (by go_simp; rfl) (it 3 _ _ _ _ _ _ (by go_simp; rfl) (by go_simp; rfl) (it 4 _ _ _ _ _ _ (by go_simp; rfl) (by go_simp; rfl) (it 5 _ _ _ _ _ _ (by go_simp; rfl) (by go_simp; rfl) h0)))))
  rw [h, Bool.and_true]
theorem eth_Parse.eql6 (x0 x1 x2 x3 x4 x5 y0 y1 y2 y3 y4 y5 : Int) (W : World) : (binOp BinOp.eql 26 (.agg #[.int .u8 x0, .int .u8 x1, .int .u8 x2, .int .u8 x3, .int .u8 x4, .int .u8 x5]) (.agg #[.int .u8 y0, .int .u8 y1, .int .u8 y2, .int .u8 y3, .int .u8 y4, .int .u8 y5])).run Try.prog W = .ok (.bool (x0 == y0 && (x1 == y1 && (x2 == y2 && (x3 == y3 && (x4 == y4 && x5 == y5)))))) W := by
  have h := eth_Parse.eqi6 x0 x1 x2 x3 x4 x5 y0 y1 y2 y3 y4 y5 W
  go_simp
/-- 'xs[a:b:b]' of what is there: its address is told. -/
theorem eth_Parse.cut3 {P : Program} (t e : TypeId) {i : TypeInfo} (ht : P.underlying t = some (.slice e)) (hi : P.info? e = some i) (hsz : i.size = 1) (ad : Addr) (n c : Nat) (a b : Int) (h0 : 0 ≤ a) (h1 : a < b) (hm : b ≤ n) (hc : n ≤ c) (W : World) :
    (Instr.slice t (.slice (some ad) n c) (some (.int .i64 a)) (some (.int .i64 b)) (some (.int .i64 b))).run P W = .ok (.slice (some (ad.add a.toNat)) (b.toNat - a.toNat) (b.toNat - a.toNat)) W := by
  have hel : P.elem t = e := by simp [Program.elem, ht]
  have eb : (b.toNat : Int) = b := Int.toNat_of_nonneg (by omega)
  have ea : (a.toNat : Int) = a := Int.toNat_of_nonneg (by omega)
  have hne : ¬ (b.toNat = a.toNat) := by omega
  simp [Instr.slice, run_underlying ht, Instr.sliceBounds, run_sliceBound, *, (by omega : b ≤ (c : Int)), (by omega : 0 ≤ b), (by omega : a ≤ b), sizeOf, typeInfo, hi, hsz, Result.andThen]
theorem eth_Parse.load6 (W : World) (a : Addr) (v : Nat → Int) (h : ∀ i, i < 6 → W.cell? (a.add i) = some (.int .u8 (v i))) : (loadVar 26 a).run Try.prog W = .ok (.agg #[.int .u8 (v 0), .int .u8 (v 1), .int .u8 (v 2), .int .u8 (v 3), .int .u8 (v 4), .int .u8 (v 5)]) W := by
  have hl := run_loadCells_list (P := Try.prog) (w := W) a [.int .u8 (v 0), .int .u8 (v 1), .int .u8 (v 2), .int .u8 (v 3), .int .u8 (v 4), .int .u8 (v 5)] (fun j x hx => by
    match j, hx with
    | 0, hx => cases hx; exact h 0 (by omega)
    | 1, hx => cases hx; exact h 1 (by omega)
    | 2, hx => cases hx; exact h 2 (by omega)
    | 3, hx => cases hx; exact h 3 (by omega)
    | 4, hx => cases hx; exact h 4 (by omega)
    | 5, hx => cases hx; exact h 5 (by omega)
    | j + 6, hx => simp at hx)
  have hagg : (isAgg 26).run Try.prog W = .ok true W := by
    unfold isAgg
    rw [Sem.run_bind, run_underlying Try.underlying26 W]
    rfl
  obtain ⟨i, hi, hs⟩ : ∃ i, Try.prog.info? 26 = some i ∧ i.size = 6 := by
    have h6 : (Try.prog.info? 26).map (·.size) = some 6 := by kernel_rfl
    cases hq : Try.prog.info? 26 with
    | none => rw [hq] at h6; cases h6
    | some i => rw [hq] at h6; exact ⟨i, rfl, Option.some.inj h6⟩
  simp only [List.length_cons, List.length_nil] at hl
  simp [loadVar, Sem.run_bind, hagg, sizeOf, typeInfo, hi, hs, hl]
theorem eth_Parse.arr6 (ad : Addr) (W : World) : (Instr.arrayAt 26 (.slice (some ad) 6 6)).run Try.prog W = .ok (.pointer (some ad)) W := by
  simp [Instr.arrayAt, run_underlying Try.underlying26]
def eth_Parse.T5 : Bool × List (List Nat × List Nat) := (true, [([], []), ([0], [0]), ([1], [1]), ([2], [2]), ([], []), ([4], [4]), ([5], [5]), ([6], [6]), ([], []), ([8], [8]), ([9], [9]), ([10], [10]), ([11], [11]), ([], []), ([13], [13]), ([14], [14]), ([15], [15]), ([12, 16], [12, 16]), ([], []), ([18], [18]), ([19], [19]), ([3, 7, 17, 20], [3, 7, 17, 20]), ([21, 20, 0, 1, 2, 3, 4, 5, 6, 7, 8, 9, 10, 11, 12, 13, 14, 15, 16, 17, 18, 19, 20, 21], [21]), ([22, 0, 1, 2, 3, 4, 5, 6, 7, 8, 9, 10, 11, 12, 13, 14, 15, 16, 17, 18, 19, 20, 21, 22], [])])
def eth_Parse.B5 : List Nat := [0, 1, 3, 7, 0, 16, 48, 112, 0, 256, 768, 1792, 3840, 0, 8192, 24576, 57344, 130816, 0, 262144, 786432, 2097151, 4194303, 8388607]
theorem eth_Parse.tab5 : rtab .any (opsOf Try.f13 5) = eth_Parse.T5 := by kernel_rfl
theorem eth_Parse.bits5 : waitsOk eth_Parse.T5.2 eth_Parse.B5 = true := by kernel_rfl
def eth_Parse.f (l0 : List Int) : Option (Int × Int × Int × Int × Int × Int × Int × Int × Int × Int × Int × Int × Int × List Int × Int) := if (l0.length : Int) > 1600 then some (0, 0, 0, 0, 0, 0, 0, 0, 0, 0, 0, 0, 0, [], 23) else if (l0.length : Int) < 14 then some (0, 0, 0, 0, 0, 0, 0, 0, 0, 0, 0, 0, 0, [], 20) else (slices_Clone_byte_byte.f (l0.drop 14)).bind fun b => some (rd l0 0, rd l0 1, rd l0 2, rd l0 3, rd l0 4, rd l0 5, rd l0 6, rd l0 7, rd l0 8, rd l0 9, rd l0 10, rd l0 11, Go.bits .or .u16 (IntKind.u16.wrap ((IntKind.u16.wrap (rd l0 12)) * 256)) (IntKind.u16.wrap (rd l0 13)), b, 0)
set_option maxHeartbeats 8000000 in
set_option maxRecDepth 100000 in
theorem eth_Parse.calls (A0 : Option Addr) (c0 : Nat) (l0 : List Int) (r1 : Int) (r2 : Int) (r3 : Int) (r4 : Int) (r5 : Int) (r6 : Int) (r7 : Int) (r8 : Int) (r9 : Int) (r10 : Int) (r11 : Int) (r12 : Int) (r13 : Int) (r14 : List Int) (r15 : Int) (w : World) (hr0 : Kd.C (Kd.int .u8) w A0 l0.length l0) (hc0 : l0.length ≤ c0) (h : eth_Parse.f l0 = some (r1, r2, r3, r4, r5, r6, r7, r8, r9, r10, r11, r12, r13, r14, r15)) :
    Calls Try.prog 13 #[.slice A0 l0.length c0] w fun e w' => ∃ v13_ : Value, e = .returned (.tuple #[.agg #[.int .u8 r1, .int .u8 r2, .int .u8 r3, .int .u8 r4, .int .u8 r5, .int .u8 r6, .int .u8 r7, .int .u8 r8, .int .u8 r9, .int .u8 r10, .int .u8 r11, .int .u8 r12, .int .u16 r13, v13_], .int .i64 r15]) ∧ Kd.R (Kd.int .u8) 5 w' w.heap.size (fun _ => True) v13_ r14 ∧ Below w.heap.size w w' := by
  have hu28 := Try.underlying28
  have HR0 := Aside0.mk hr0
  have HC0 := Aside0.mk hc0
  clear hr0 hc0
  have HB := Aside0.mk (Below.refl w.heap.size w)
  unfold eth_Parse.f at h
  by_cases c1 : (l0.length : Int) > 1600
  · rw [if_pos c1] at h
    simp only [Option.some.injEq, Prod.mk.injEq] at h
    obtain ⟨rfl, rfl, rfl, rfl, rfl, rfl, rfl, rfl, rfl, rfl, rfl, rfl, rfl, rfl, rfl⟩ := h
    have c1b : decide (1600 < (l0.length : Int)) = true := decide_eq_true c1
    clear c1
    go_enter Try.func13, Try.ntmps13
    go_upto_region 2 with (first | ((with_reducible refine gate_dst (N := 2) rfl ?_); refine box_event ?hg (N := 2) ?hd (cs := #[.int .u8 0, .int .u8 0, .int .u8 0, .int .u8 0, .int .u8 0, .int .u8 0, .int .u8 0, .int .u8 0, .int .u8 0, .int .u8 0, .int .u8 0, .int .u8 0, .int .u16 0, .slice none 0 0]) (t := 28) ?hr ?_; (case hd => rfl); (case hg => rfl); (case hr => first | (go_simp; done) | (go_simp; rfl)); intro gp hg w1 hbox hb; have n0_ := Aside0.mk (below_step (by repeat (first | (with_reducible first | exact HB.out | apply below_alloc | apply pw_below_drewN | apply below_drew1) | exact HB.out)) hb); have HP := Aside0.mk hbox; have GP := Aside0.mk ((by rw [hg]; exact (below_size (by repeat (first | (with_reducible first | exact HB.out | apply below_alloc | apply pw_below_drewN | apply below_drew1) | exact HB.out)))) : w.heap.size ≤ gp); clear HB; have HB := n0_; clear n0_ hb hbox hg))
    have hs0 : w1.cell? ⟨gp, 0, none⟩ = some (.int .u8 0) := (blk_cell HP.out 0).trans rfl
    have hfs0 := blk_frozen HP.out 0
    have hs1 : w1.cell? ⟨gp, 1, none⟩ = some (.int .u8 0) := (blk_cell HP.out 1).trans rfl
    have hfs1 := blk_frozen HP.out 1
    have hs2 : w1.cell? ⟨gp, 2, none⟩ = some (.int .u8 0) := (blk_cell HP.out 2).trans rfl
    have hfs2 := blk_frozen HP.out 2
    have hs3 : w1.cell? ⟨gp, 3, none⟩ = some (.int .u8 0) := (blk_cell HP.out 3).trans rfl
    have hfs3 := blk_frozen HP.out 3
    have hs4 : w1.cell? ⟨gp, 4, none⟩ = some (.int .u8 0) := (blk_cell HP.out 4).trans rfl
    have hfs4 := blk_frozen HP.out 4
    have hs5 : w1.cell? ⟨gp, 5, none⟩ = some (.int .u8 0) := (blk_cell HP.out 5).trans rfl
    have hfs5 := blk_frozen HP.out 5
    have hs6 : w1.cell? ⟨gp, 6, none⟩ = some (.int .u8 0) := (blk_cell HP.out 6).trans rfl
    have hfs6 := blk_frozen HP.out 6
    have hs7 : w1.cell? ⟨gp, 7, none⟩ = some (.int .u8 0) := (blk_cell HP.out 7).trans rfl
    have hfs7 := blk_frozen HP.out 7
    have hs8 : w1.cell? ⟨gp, 8, none⟩ = some (.int .u8 0) := (blk_cell HP.out 8).trans rfl
    have hfs8 := blk_frozen HP.out 8
    have hs9 : w1.cell? ⟨gp, 9, none⟩ = some (.int .u8 0) := (blk_cell HP.out 9).trans rfl
    have hfs9 := blk_frozen HP.out 9
    have hs10 : w1.cell? ⟨gp, 10, none⟩ = some (.int .u8 0) := (blk_cell HP.out 10).trans rfl
    have hfs10 := blk_frozen HP.out 10
    have hs11 : w1.cell? ⟨gp, 11, none⟩ = some (.int .u8 0) := (blk_cell HP.out 11).trans rfl
    have hfs11 := blk_frozen HP.out 11
    have hs12 : w1.cell? ⟨gp, 12, none⟩ = some (.int .u16 0) := (blk_cell HP.out 12).trans rfl
    have hfs12 := blk_frozen HP.out 12
    have hs13 : w1.cell? ⟨gp, 13, none⟩ = some (.slice none 0 0) := (blk_cell HP.out 13).trans rfl
    have hfs13 := blk_frozen HP.out 13
    go_wp2
    (try simp only [Exit.inBlock, Exit.then])
    refine bodyPost_ret (results_ct rfl _ _ gp 28 #[.int .u8 0, .int .u8 0, .int .u8 0, .int .u8 0, .int .u8 0, .int .u8 0, .int .u8 0, .int .u8 0, .int .u8 0, .int .u8 0, .int .u8 0, .int .u8 0, .int .u16 0, .slice none 0 0] (0, 0) _ rfl (blk_put (cs' := #[.int .u8 0, .int .u8 0, .int .u8 0, .int .u8 0, .int .u8 0, .int .u8 0, .int .u8 0, .int .u8 0, .int .u8 0, .int .u8 0, .int .u8 0, .int .u8 0, .int .u16 0, .slice none 0 0]) (blk_put (cs' := #[.int .u8 0, .int .u8 0, .int .u8 0, .int .u8 0, .int .u8 0, .int .u8 0, .int .u8 0, .int .u8 0, .int .u8 0, .int .u8 0, .int .u8 0, .int .u8 0, .int .u16 0, .slice none 0 0]) (blk_put (cs' := #[.int .u8 0, .int .u8 0, .int .u8 0, .int .u8 0, .int .u8 0, .int .u8 0, .int .u8 0, .int .u8 0, .int .u8 0, .int .u8 0, .int .u8 0, .int .u8 0, .int .u16 0, .slice none 0 0]) (blk_put (cs' := #[.int .u8 0, .int .u8 0, .int .u8 0, .int .u8 0, .int .u8 0, .int .u8 0, .int .u8 0, .int .u8 0, .int .u8 0, .int .u8 0, .int .u8 0, .int .u8 0, .int .u16 0, .slice none 0 0]) (blk_put (cs' := #[.int .u8 0, .int .u8 0, .int .u8 0, .int .u8 0, .int .u8 0, .int .u8 0, .int .u8 0, .int .u8 0, .int .u8 0, .int .u8 0, .int .u8 0, .int .u8 0, .int .u16 0, .slice none 0 0]) (blk_put (cs' := #[.int .u8 0, .int .u8 0, .int .u8 0, .int .u8 0, .int .u8 0, .int .u8 0, .int .u8 0, .int .u8 0, .int .u8 0, .int .u8 0, .int .u8 0, .int .u8 0, .int .u16 0, .slice none 0 0]) (blk_put (cs' := #[.int .u8 0, .int .u8 0, .int .u8 0, .int .u8 0, .int .u8 0, .int .u8 0, .int .u8 0, .int .u8 0, .int .u8 0, .int .u8 0, .int .u8 0, .int .u8 0, .int .u16 0, .slice none 0 0]) (blk_put (cs' := #[.int .u8 0, .int .u8 0, .int .u8 0, .int .u8 0, .int .u8 0, .int .u8 0, .int .u8 0, .int .u8 0, .int .u8 0, .int .u8 0, .int .u8 0, .int .u8 0, .int .u16 0, .slice none 0 0]) (blk_put (cs' := #[.int .u8 0, .int .u8 0, .int .u8 0, .int .u8 0, .int .u8 0, .int .u8 0, .int .u8 0, .int .u8 0, .int .u8 0, .int .u8 0, .int .u8 0, .int .u8 0, .int .u16 0, .slice none 0 0]) (blk_put (cs' := #[.int .u8 0, .int .u8 0, .int .u8 0, .int .u8 0, .int .u8 0, .int .u8 0, .int .u8 0, .int .u8 0, .int .u8 0, .int .u8 0, .int .u8 0, .int .u8 0, .int .u16 0, .slice none 0 0]) (blk_put (cs' := #[.int .u8 0, .int .u8 0, .int .u8 0, .int .u8 0, .int .u8 0, .int .u8 0, .int .u8 0, .int .u8 0, .int .u8 0, .int .u8 0, .int .u8 0, .int .u8 0, .int .u16 0, .slice none 0 0]) (blk_put (cs' := #[.int .u8 0, .int .u8 0, .int .u8 0, .int .u8 0, .int .u8 0, .int .u8 0, .int .u8 0, .int .u8 0, .int .u8 0, .int .u8 0, .int .u8 0, .int .u8 0, .int .u16 0, .slice none 0 0]) (blk_put (cs' := #[.int .u8 0, .int .u8 0, .int .u8 0, .int .u8 0, .int .u8 0, .int .u8 0, .int .u8 0, .int .u8 0, .int .u8 0, .int .u8 0, .int .u8 0, .int .u8 0, .int .u16 0, .slice none 0 0]) (blk_put (cs' := #[.int .u8 0, .int .u8 0, .int .u8 0, .int .u8 0, .int .u8 0, .int .u8 0, .int .u8 0, .int .u8 0, .int .u8 0, .int .u8 0, .int .u8 0, .int .u8 0, .int .u16 0, .slice none 0 0]) HP.out 0 (.int .u8 0) rfl) 1 (.int .u8 0) rfl) 2 (.int .u8 0) rfl) 3 (.int .u8 0) rfl) 4 (.int .u8 0) rfl) 5 (.int .u8 0) rfl) 6 (.int .u8 0) rfl) 7 (.int .u8 0) rfl) 8 (.int .u8 0) rfl) 9 (.int .u8 0) rfl) 10 (.int .u8 0) rfl) 11 (.int .u8 0) rfl) 12 (.int .u16 0) rfl) 13 (.slice none 0 0) rfl) Try.underlying28 rfl (by kernel_rfl)) rfl ?_
    exact ⟨_, rfl, Kd.R_nil _ _ _ _ _, (Below.setCell (p := ⟨gp, 13, none⟩) (Below.setCell (p := ⟨gp, 12, none⟩) (Below.setCell (p := ⟨gp, 11, none⟩) (Below.setCell (p := ⟨gp, 10, none⟩) (Below.setCell (p := ⟨gp, 9, none⟩) (Below.setCell (p := ⟨gp, 8, none⟩) (Below.setCell (p := ⟨gp, 7, none⟩) (Below.setCell (p := ⟨gp, 6, none⟩) (Below.setCell (p := ⟨gp, 5, none⟩) (Below.setCell (p := ⟨gp, 4, none⟩) (Below.setCell (p := ⟨gp, 3, none⟩) (Below.setCell (p := ⟨gp, 2, none⟩) (Below.setCell (p := ⟨gp, 1, none⟩) (Below.setCell (p := ⟨gp, 0, none⟩) HB.out GP.out (.int .u8 0)) GP.out (.int .u8 0)) GP.out (.int .u8 0)) GP.out (.int .u8 0)) GP.out (.int .u8 0)) GP.out (.int .u8 0)) GP.out (.int .u8 0)) GP.out (.int .u8 0)) GP.out (.int .u8 0)) GP.out (.int .u8 0)) GP.out (.int .u8 0)) GP.out (.int .u8 0)) GP.out (.int .u16 0)) GP.out (.slice none 0 0))⟩
  · rw [if_neg c1] at h
    have c1b : decide (1600 < (l0.length : Int)) = false := decide_eq_false c1
    by_cases c2 : (l0.length : Int) < 14
    · rw [if_pos c2] at h
      simp only [Option.some.injEq, Prod.mk.injEq] at h
      obtain ⟨rfl, rfl, rfl, rfl, rfl, rfl, rfl, rfl, rfl, rfl, rfl, rfl, rfl, rfl, rfl⟩ := h
      have c2b : decide ((l0.length : Int) < 14) = true := decide_eq_true c2
      clear c1 c2
      go_enter Try.func13, Try.ntmps13
      go_upto_region 4 with (first | ((with_reducible refine gate_dst (N := 2) rfl ?_); refine box_event ?hg (N := 2) ?hd (cs := #[.int .u8 0, .int .u8 0, .int .u8 0, .int .u8 0, .int .u8 0, .int .u8 0, .int .u8 0, .int .u8 0, .int .u8 0, .int .u8 0, .int .u8 0, .int .u8 0, .int .u16 0, .slice none 0 0]) (t := 28) ?hr ?_; (case hd => rfl); (case hg => rfl); (case hr => first | (go_simp; done) | (go_simp; rfl)); intro gp hg w1 hbox hb; have n0_ := Aside0.mk (below_step (by repeat (first | (with_reducible first | exact HB.out | apply below_alloc | apply pw_below_drewN | apply below_drew1) | exact HB.out)) hb); have HP := Aside0.mk hbox; have GP := Aside0.mk ((by rw [hg]; exact (below_size (by repeat (first | (with_reducible first | exact HB.out | apply below_alloc | apply pw_below_drewN | apply below_drew1) | exact HB.out)))) : w.heap.size ≤ gp); clear HB; have HB := n0_; clear n0_ hb hbox hg))
      have hs0 : w1.cell? ⟨gp, 0, none⟩ = some (.int .u8 0) := (blk_cell HP.out 0).trans rfl
      have hfs0 := blk_frozen HP.out 0
      have hs1 : w1.cell? ⟨gp, 1, none⟩ = some (.int .u8 0) := (blk_cell HP.out 1).trans rfl
      have hfs1 := blk_frozen HP.out 1
      have hs2 : w1.cell? ⟨gp, 2, none⟩ = some (.int .u8 0) := (blk_cell HP.out 2).trans rfl
      have hfs2 := blk_frozen HP.out 2
      have hs3 : w1.cell? ⟨gp, 3, none⟩ = some (.int .u8 0) := (blk_cell HP.out 3).trans rfl
      have hfs3 := blk_frozen HP.out 3
      have hs4 : w1.cell? ⟨gp, 4, none⟩ = some (.int .u8 0) := (blk_cell HP.out 4).trans rfl
      have hfs4 := blk_frozen HP.out 4
      have hs5 : w1.cell? ⟨gp, 5, none⟩ = some (.int .u8 0) := (blk_cell HP.out 5).trans rfl
      have hfs5 := blk_frozen HP.out 5
      have hs6 : w1.cell? ⟨gp, 6, none⟩ = some (.int .u8 0) := (blk_cell HP.out 6).trans rfl
      have hfs6 := blk_frozen HP.out 6
      have hs7 : w1.cell? ⟨gp, 7, none⟩ = some (.int .u8 0) := (blk_cell HP.out 7).trans rfl
      have hfs7 := blk_frozen HP.out 7
      have hs8 : w1.cell? ⟨gp, 8, none⟩ = some (.int .u8 0) := (blk_cell HP.out 8).trans rfl
      have hfs8 := blk_frozen HP.out 8
      have hs9 : w1.cell? ⟨gp, 9, none⟩ = some (.int .u8 0) := (blk_cell HP.out 9).trans rfl
      have hfs9 := blk_frozen HP.out 9
      have hs10 : w1.cell? ⟨gp, 10, none⟩ = some (.int .u8 0) := (blk_cell HP.out 10).trans rfl
      have hfs10 := blk_frozen HP.out 10
      have hs11 : w1.cell? ⟨gp, 11, none⟩ = some (.int .u8 0) := (blk_cell HP.out 11).trans rfl
      have hfs11 := blk_frozen HP.out 11
      have hs12 : w1.cell? ⟨gp, 12, none⟩ = some (.int .u16 0) := (blk_cell HP.out 12).trans rfl
      have hfs12 := blk_frozen HP.out 12
      have hs13 : w1.cell? ⟨gp, 13, none⟩ = some (.slice none 0 0) := (blk_cell HP.out 13).trans rfl
      have hfs13 := blk_frozen HP.out 13
      go_wp2
      (try simp only [Exit.inBlock, Exit.then])
      refine bodyPost_ret (results_ct rfl _ _ gp 28 #[.int .u8 0, .int .u8 0, .int .u8 0, .int .u8 0, .int .u8 0, .int .u8 0, .int .u8 0, .int .u8 0, .int .u8 0, .int .u8 0, .int .u8 0, .int .u8 0, .int .u16 0, .slice none 0 0] (0, 0) _ rfl (blk_put (cs' := #[.int .u8 0, .int .u8 0, .int .u8 0, .int .u8 0, .int .u8 0, .int .u8 0, .int .u8 0, .int .u8 0, .int .u8 0, .int .u8 0, .int .u8 0, .int .u8 0, .int .u16 0, .slice none 0 0]) (blk_put (cs' := #[.int .u8 0, .int .u8 0, .int .u8 0, .int .u8 0, .int .u8 0, .int .u8 0, .int .u8 0, .int .u8 0, .int .u8 0, .int .u8 0, .int .u8 0, .int .u8 0, .int .u16 0, .slice none 0 0]) (blk_put (cs' := #[.int .u8 0, .int .u8 0, .int .u8 0, .int .u8 0, .int .u8 0, .int .u8 0, .int .u8 0, .int .u8 0, .int .u8 0, .int .u8 0, .int .u8 0, .int .u8 0, .int .u16 0, .slice none 0 0]) (blk_put (cs' := #[.int .u8 0, .int .u8 0, .int .u8 0, .int .u8 0, .int .u8 0, .int .u8 0, .int .u8 0, .int .u8 0, .int .u8 0, .int .u8 0, .int .u8 0, .int .u8 0, .int .u16 0, .slice none 0 0]) (blk_put (cs' := #[.int .u8 0, .int .u8 0, .int .u8 0, .int .u8 0, .int .u8 0, .int .u8 0, .int .u8 0, .int .u8 0, .int .u8 0, .int .u8 0, .int .u8 0, .int .u8 0, .int .u16 0, .slice none 0 0]) (blk_put (cs' := #[.int .u8 0, .int .u8 0, .int .u8 0, .int .u8 0, .int .u8 0, .int .u8 0, .int .u8 0, .int .u8 0, .int .u8 0, .int .u8 0, .int .u8 0, .int .u8 0, .int .u16 0, .slice none 0 0]) (blk_put (cs' := #[.int .u8 0, .int .u8 0, .int .u8 0, .int .u8 0, .int .u8 0, .int .u8 0, .int .u8 0, .int .u8 0, .int .u8 0, .int .u8 0, .int .u8 0, .int .u8 0, .int .u16 0, .slice none 0 0]) (blk_put (cs' := #[.int .u8 0, .int .u8 0, .int .u8 0, .int .u8 0, .int .u8 0, .int .u8 0, .int .u8 0, .int .u8 0, .int .u8 0, .int .u8 0, .int .u8 0, .int .u8 0, .int .u16 0, .slice none 0 0]) (blk_put (cs' := #[.int .u8 0, .int .u8 0, .int .u8 0, .int .u8 0, .int .u8 0, .int .u8 0, .int .u8 0, .int .u8 0, .int .u8 0, .int .u8 0, .int .u8 0, .int .u8 0, .int .u16 0, .slice none 0 0]) (blk_put (cs' := #[.int .u8 0, .int .u8 0, .int .u8 0, .int .u8 0, .int .u8 0, .int .u8 0, .int .u8 0, .int .u8 0, .int .u8 0, .int .u8 0, .int .u8 0, .int .u8 0, .int .u16 0, .slice none 0 0]) (blk_put (cs' := #[.int .u8 0, .int .u8 0, .int .u8 0, .int .u8 0, .int .u8 0, .int .u8 0, .int .u8 0, .int .u8 0, .int .u8 0, .int .u8 0, .int .u8 0, .int .u8 0, .int .u16 0, .slice none 0 0]) (blk_put (cs' := #[.int .u8 0, .int .u8 0, .int .u8 0, .int .u8 0, .int .u8 0, .int .u8 0, .int .u8 0, .int .u8 0, .int .u8 0, .int .u8 0, .int .u8 0, .int .u8 0, .int .u16 0, .slice none 0 0]) (blk_put (cs' := #[.int .u8 0, .int .u8 0, .int .u8 0, .int .u8 0, .int .u8 0, .int .u8 0, .int .u8 0, .int .u8 0, .int .u8 0, .int .u8 0, .int .u8 0, .int .u8 0, .int .u16 0, .slice none 0 0]) (blk_put (cs' := #[.int .u8 0, .int .u8 0, .int .u8 0, .int .u8 0, .int .u8 0, .int .u8 0, .int .u8 0, .int .u8 0, .int .u8 0, .int .u8 0, .int .u8 0, .int .u8 0, .int .u16 0, .slice none 0 0]) HP.out 0 (.int .u8 0) rfl) 1 (.int .u8 0) rfl) 2 (.int .u8 0) rfl) 3 (.int .u8 0) rfl) 4 (.int .u8 0) rfl) 5 (.int .u8 0) rfl) 6 (.int .u8 0) rfl) 7 (.int .u8 0) rfl) 8 (.int .u8 0) rfl) 9 (.int .u8 0) rfl) 10 (.int .u8 0) rfl) 11 (.int .u8 0) rfl) 12 (.int .u16 0) rfl) 13 (.slice none 0 0) rfl) Try.underlying28 rfl (by kernel_rfl)) rfl ?_
      exact ⟨_, rfl, Kd.R_nil _ _ _ _ _, (Below.setCell (p := ⟨gp, 13, none⟩) (Below.setCell (p := ⟨gp, 12, none⟩) (Below.setCell (p := ⟨gp, 11, none⟩) (Below.setCell (p := ⟨gp, 10, none⟩) (Below.setCell (p := ⟨gp, 9, none⟩) (Below.setCell (p := ⟨gp, 8, none⟩) (Below.setCell (p := ⟨gp, 7, none⟩) (Below.setCell (p := ⟨gp, 6, none⟩) (Below.setCell (p := ⟨gp, 5, none⟩) (Below.setCell (p := ⟨gp, 4, none⟩) (Below.setCell (p := ⟨gp, 3, none⟩) (Below.setCell (p := ⟨gp, 2, none⟩) (Below.setCell (p := ⟨gp, 1, none⟩) (Below.setCell (p := ⟨gp, 0, none⟩) HB.out GP.out (.int .u8 0)) GP.out (.int .u8 0)) GP.out (.int .u8 0)) GP.out (.int .u8 0)) GP.out (.int .u8 0)) GP.out (.int .u8 0)) GP.out (.int .u8 0)) GP.out (.int .u8 0)) GP.out (.int .u8 0)) GP.out (.int .u8 0)) GP.out (.int .u8 0)) GP.out (.int .u8 0)) GP.out (.int .u16 0)) GP.out (.slice none 0 0))⟩
    · rw [if_neg c2] at h
      have c2b : decide ((l0.length : Int) < 14) = false := decide_eq_false c2
      obtain ⟨b, hb, h⟩ := Option.bind_eq_some_iff.mp h
      simp only [Option.some.injEq, Prod.mk.injEq] at h
      obtain ⟨rfl, rfl, rfl, rfl, rfl, rfl, rfl, rfl, rfl, rfl, rfl, rfl, rfl, rfl, rfl⟩ := h
      have L14 := Aside0.mk (show 14 ≤ l0.length by omega)
      have A1 := Aside0.mk hb
      clear c1 c2 hb
      obtain ⟨ad, rfl, _⟩ := Kd.at_int HR0.out 0 (by omega) (by have := L14.out; omega)
      have HS0 : Aside0 (w.cell? ad = some (.int .u8 (rd l0 0))) := ⟨by
        obtain ⟨ad2, e, hx⟩ := Kd.at_int HR0.out 0 (by omega) (by have := L14.out; omega)
        cases e
        rw [show ((0 : Int)).toNat = 0 from rfl, Addr.add_zero'] at hx
        exact hx⟩
      have HS1 : Aside0 (w.cell? ⟨ad.block, ad.off + 1, none⟩ = some (.int .u8 (rd l0 1))) := ⟨by
        obtain ⟨ad2, e, hx⟩ := Kd.at_int HR0.out 1 (by omega) (by have := L14.out; omega)
        cases e
        simp only [show ((1 : Int)).toNat = 1 from rfl, Nat.reduceEqDiff, Go.Addr.add, ↓reduceIte] at hx
        exact hx⟩
      have HS2 : Aside0 (w.cell? ⟨ad.block, ad.off + 2, none⟩ = some (.int .u8 (rd l0 2))) := ⟨by
        obtain ⟨ad2, e, hx⟩ := Kd.at_int HR0.out 2 (by omega) (by have := L14.out; omega)
        cases e
        simp only [show ((2 : Int)).toNat = 2 from rfl, Nat.reduceEqDiff, Go.Addr.add, ↓reduceIte] at hx
        exact hx⟩
      have HS3 : Aside0 (w.cell? ⟨ad.block, ad.off + 3, none⟩ = some (.int .u8 (rd l0 3))) := ⟨by
        obtain ⟨ad2, e, hx⟩ := Kd.at_int HR0.out 3 (by omega) (by have := L14.out; omega)
        cases e
        simp only [show ((3 : Int)).toNat = 3 from rfl, Nat.reduceEqDiff, Go.Addr.add, ↓reduceIte] at hx
        exact hx⟩
      have HS4 : Aside0 (w.cell? ⟨ad.block, ad.off + 4, none⟩ = some (.int .u8 (rd l0 4))) := ⟨by
        obtain ⟨ad2, e, hx⟩ := Kd.at_int HR0.out 4 (by omega) (by have := L14.out; omega)
        cases e
        simp only [show ((4 : Int)).toNat = 4 from rfl, Nat.reduceEqDiff, Go.Addr.add, ↓reduceIte] at hx
        exact hx⟩
      have HS5 : Aside0 (w.cell? ⟨ad.block, ad.off + 5, none⟩ = some (.int .u8 (rd l0 5))) := ⟨by
        obtain ⟨ad2, e, hx⟩ := Kd.at_int HR0.out 5 (by omega) (by have := L14.out; omega)
        cases e
        simp only [show ((5 : Int)).toNat = 5 from rfl, Nat.reduceEqDiff, Go.Addr.add, ↓reduceIte] at hx
        exact hx⟩
      have HS6 : Aside0 (w.cell? ⟨ad.block, ad.off + 6, none⟩ = some (.int .u8 (rd l0 6))) := ⟨by
        obtain ⟨ad2, e, hx⟩ := Kd.at_int HR0.out 6 (by omega) (by have := L14.out; omega)
        cases e
        simp only [show ((6 : Int)).toNat = 6 from rfl, Nat.reduceEqDiff, Go.Addr.add, ↓reduceIte] at hx
        exact hx⟩
      have HS7 : Aside0 (w.cell? ⟨ad.block, ad.off + 7, none⟩ = some (.int .u8 (rd l0 7))) := ⟨by
        obtain ⟨ad2, e, hx⟩ := Kd.at_int HR0.out 7 (by omega) (by have := L14.out; omega)
        cases e
        simp only [show ((7 : Int)).toNat = 7 from rfl, Nat.reduceEqDiff, Go.Addr.add, ↓reduceIte] at hx
        exact hx⟩
      have HS8 : Aside0 (w.cell? ⟨ad.block, ad.off + 8, none⟩ = some (.int .u8 (rd l0 8))) := ⟨by
        obtain ⟨ad2, e, hx⟩ := Kd.at_int HR0.out 8 (by omega) (by have := L14.out; omega)
        cases e
        simp only [show ((8 : Int)).toNat = 8 from rfl, Nat.reduceEqDiff, Go.Addr.add, ↓reduceIte] at hx
        exact hx⟩
      have HS9 : Aside0 (w.cell? ⟨ad.block, ad.off + 9, none⟩ = some (.int .u8 (rd l0 9))) := ⟨by
        obtain ⟨ad2, e, hx⟩ := Kd.at_int HR0.out 9 (by omega) (by have := L14.out; omega)
        cases e
        simp only [show ((9 : Int)).toNat = 9 from rfl, Nat.reduceEqDiff, Go.Addr.add, ↓reduceIte] at hx
        exact hx⟩
      have HS10 : Aside0 (w.cell? ⟨ad.block, ad.off + 10, none⟩ = some (.int .u8 (rd l0 10))) := ⟨by
        obtain ⟨ad2, e, hx⟩ := Kd.at_int HR0.out 10 (by omega) (by have := L14.out; omega)
        cases e
        simp only [show ((10 : Int)).toNat = 10 from rfl, Nat.reduceEqDiff, Go.Addr.add, ↓reduceIte] at hx
        exact hx⟩
      have HS11 : Aside0 (w.cell? ⟨ad.block, ad.off + 11, none⟩ = some (.int .u8 (rd l0 11))) := ⟨by
        obtain ⟨ad2, e, hx⟩ := Kd.at_int HR0.out 11 (by omega) (by have := L14.out; omega)
        cases e
        simp only [show ((11 : Int)).toNat = 11 from rfl, Nat.reduceEqDiff, Go.Addr.add, ↓reduceIte] at hx
        exact hx⟩
      have HS12 : Aside0 (w.cell? ⟨ad.block, ad.off + 12, none⟩ = some (.int .u8 (rd l0 12))) := ⟨by
        obtain ⟨ad2, e, hx⟩ := Kd.at_int HR0.out 12 (by omega) (by have := L14.out; omega)
        cases e
        simp only [show ((12 : Int)).toNat = 12 from rfl, Nat.reduceEqDiff, Go.Addr.add, ↓reduceIte] at hx
        exact hx⟩
      have HS13 : Aside0 (w.cell? ⟨ad.block, ad.off + 13, none⟩ = some (.int .u8 (rd l0 13))) := ⟨by
        obtain ⟨ad2, e, hx⟩ := Kd.at_int HR0.out 13 (by omega) (by have := L14.out; omega)
        cases e
        simp only [show ((13 : Int)).toNat = 13 from rfl, Nat.reduceEqDiff, Go.Addr.add, ↓reduceIte] at hx
        exact hx⟩
      obtain ⟨i0, hi0, _, hsz, _⟩ := info_parts info5
      have hcut1 := eth_Parse.cut3 (P := Try.prog) 22 5 Try.underlying22 hi0 hsz ad l0.length c0 0 6 (by omega) (by omega) (by have := L14.out; omega) HC0.out
      have hcut2 := eth_Parse.cut3 (P := Try.prog) 22 5 Try.underlying22 hi0 hsz ad l0.length c0 6 12 (by omega) (by omega) (by have := L14.out; omega) HC0.out
      replace hcut1 : ∀ W : World, (Instr.slice 22 (.slice (some ad) l0.length c0) (some (.int .i64 0)) (some (.int .i64 6)) (some (.int .i64 6))).run Try.prog W = .ok (.slice (some (ad.add 0)) 6 6) W := hcut1
      replace hcut2 : ∀ W : World, (Instr.slice 22 (.slice (some ad) l0.length c0) (some (.int .i64 6)) (some (.int .i64 12)) (some (.int .i64 12))).run Try.prog W = .ok (.slice (some (ad.add 6)) 6 6) W := hcut2
      have harr := eth_Parse.arr6
      obtain ⟨A3, hcut3, hA3, hC3⟩ := print_drop_of (P := Try.prog) (Value.int .u8) 0 22 5 .i64 Try.underlying22 hi0 hsz (some ad) c0 l0 14 (by omega) (by have := L14.out; omega) HC0.out
      have HR3 := Aside0.mk (Kd.C_of_reads (h1 := fun _ => rfl) (hA3 _ (Kd.reads_of_C HR0.out)))
      have HC3 := Aside0.mk hC3
      clear hA3 hC3 hi0 hsz
      have HR4 : Aside0 (Kd.C (Kd.int .u8) w A3 (l0.drop 14).length (l0.drop 14)) := ⟨HR3.out⟩
      have HC4 : Aside0 ((l0.drop 14).length ≤ c0 - 14) := ⟨HC3.out⟩
      clear HR3 HC3
      replace hcut3 : ∀ W : World, (Instr.slice 22 (.slice (some ad) l0.length c0) (some (.int .i64 14)) none none).run Try.prog W = .ok (.slice A3 (l0.drop 14).length (c0 - 14)) W := hcut3
      have q12 : ((12 : Int) < (l0.length : Int)) = True := eq_true (by have := L14.out; omega)
      have q13 : ((13 : Int) < (l0.length : Int)) = True := eq_true (by have := L14.out; omega)
      have r12 : (12 < l0.length) = True := eq_true (by have := L14.out; omega)
      have r13 : (13 < l0.length) = True := eq_true (by have := L14.out; omega)
      have HLT : ad.block < w.heap.size := World.block_lt_of_cell? w _ HS0.out
      go_enter Try.func13, Try.ntmps13
      go_upto_region 5 with (first | ((with_reducible refine gate_dst (N := 2) rfl ?_); refine box_event ?hg (N := 2) ?hd (cs := #[.int .u8 0, .int .u8 0, .int .u8 0, .int .u8 0, .int .u8 0, .int .u8 0, .int .u8 0, .int .u8 0, .int .u8 0, .int .u8 0, .int .u8 0, .int .u8 0, .int .u16 0, .slice none 0 0]) (t := 28) ?hr ?_; (case hd => rfl); (case hg => rfl); (case hr => first | (go_simp; done) | (go_simp; rfl)); intro gp hg w1 hbox hb; have n0_ := Aside0.mk (below_step (by repeat (first | (with_reducible first | exact HB.out | apply below_alloc | apply pw_below_drewN | apply below_drew1) | exact HB.out)) hb); have HP := Aside0.mk hbox; have GP := Aside0.mk ((by rw [hg]; exact (below_size (by repeat (first | (with_reducible first | exact HB.out | apply below_alloc | apply pw_below_drewN | apply below_drew1) | exact HB.out)))) : w.heap.size ≤ gp); clear HB; have HB := n0_; clear n0_ hb hbox hg))
      refine start_ (n := 24) (S := fun w' => w'.cell? ad = some (.int .u8 (rd l0 0)) ∧ w'.cell? ⟨ad.block, ad.off + 1, none⟩ = some (.int .u8 (rd l0 1)) ∧ w'.cell? ⟨ad.block, ad.off + 2, none⟩ = some (.int .u8 (rd l0 2)) ∧ w'.cell? ⟨ad.block, ad.off + 3, none⟩ = some (.int .u8 (rd l0 3)) ∧ w'.cell? ⟨ad.block, ad.off + 4, none⟩ = some (.int .u8 (rd l0 4)) ∧ w'.cell? ⟨ad.block, ad.off + 5, none⟩ = some (.int .u8 (rd l0 5)) ∧ w'.cell? ⟨ad.block, ad.off + 6, none⟩ = some (.int .u8 (rd l0 6)) ∧ w'.cell? ⟨ad.block, ad.off + 7, none⟩ = some (.int .u8 (rd l0 7)) ∧ w'.cell? ⟨ad.block, ad.off + 8, none⟩ = some (.int .u8 (rd l0 8)) ∧ w'.cell? ⟨ad.block, ad.off + 9, none⟩ = some (.int .u8 (rd l0 9)) ∧ w'.cell? ⟨ad.block, ad.off + 10, none⟩ = some (.int .u8 (rd l0 10)) ∧ w'.cell? ⟨ad.block, ad.off + 11, none⟩ = some (.int .u8 (rd l0 11)) ∧ w'.cell? ⟨ad.block, ad.off + 12, none⟩ = some (.int .u8 (rd l0 12)) ∧ w'.cell? ⟨ad.block, ad.off + 13, none⟩ = some (.int .u8 (rd l0 13))) (ds := []) #[false, false, false, false, false, false, false, false, false, false, false, false, false, false, false, false, false, false, false, false, false, false, false, false] (by kernel_rfl) rfl rfl ⟨(HB.out.cell (World.block_lt_of_cell? w _ HS0.out)).trans HS0.out, (HB.out.cell (World.block_lt_of_cell? w _ HS1.out)).trans HS1.out, (HB.out.cell (World.block_lt_of_cell? w _ HS2.out)).trans HS2.out, (HB.out.cell (World.block_lt_of_cell? w _ HS3.out)).trans HS3.out, (HB.out.cell (World.block_lt_of_cell? w _ HS4.out)).trans HS4.out, (HB.out.cell (World.block_lt_of_cell? w _ HS5.out)).trans HS5.out, (HB.out.cell (World.block_lt_of_cell? w _ HS6.out)).trans HS6.out, (HB.out.cell (World.block_lt_of_cell? w _ HS7.out)).trans HS7.out, (HB.out.cell (World.block_lt_of_cell? w _ HS8.out)).trans HS8.out, (HB.out.cell (World.block_lt_of_cell? w _ HS9.out)).trans HS9.out, (HB.out.cell (World.block_lt_of_cell? w _ HS10.out)).trans HS10.out, (HB.out.cell (World.block_lt_of_cell? w _ HS11.out)).trans HS11.out, (HB.out.cell (World.block_lt_of_cell? w _ HS12.out)).trans HS12.out, (HB.out.cell (World.block_lt_of_cell? w _ HS13.out)).trans HS13.out⟩ (fun hHeld => ?_)
      refine with_tabW eth_Parse.tab5 eth_Parse.bits5 (fun HT_ HW_ => ?_)
      have n0_ := Aside0.mk (blk_drew HP.out)
      have n1_ := Aside0.mk (below_drew1 HB.out)
      clear HP HB
      have HP := n0_
      have HB := n1_
      clear n0_ n1_
      generalize w1.drew = w2 at HP HB hHeld ⊢
      refine pure_ (i := 0) (N := some 14) (v := ?_) (a' := ?_) #[true, false, false, false, false, false, false, false, false, false, false, false, false, false, false, false, false, false, false, false, false, false, false, false] rfl rfl (any_of HT_.out (by kernel_rfl)) (fun _ _ _ h => h) (Or.inl ⟨by rfl, ?_⟩) ?_ ?_
      rotate_left
      · intro w'
        go_simp
        with_reducible rfl
      rotate_left
      · simp only [Act.put, List.setIfInBounds_toArray, List.set_cons_zero, List.set_cons_succ, i64_w, i32_w]
        rfl
      refine pure_ (i := 1) (N := some 15) (v := ?_) (a' := ?_) #[true, true, false, false, false, false, false, false, false, false, false, false, false, false, false, false, false, false, false, false, false, false, false, false] rfl rfl (any_of HT_.out (by kernel_rfl)) (fun _ _ _ h => h) (Or.inl ⟨by rfl, ?_⟩) ?_ ?_
      rotate_left
      · intro w'
        go_simp
        with_reducible rfl
      rotate_left
      · simp only [Act.put, List.setIfInBounds_toArray, List.set_cons_zero, List.set_cons_succ, i64_w, i32_w]
        rfl
      refine pure_ (i := 2) (N := some 16) (v := ?_) (a' := ?_) #[true, true, true, false, false, false, false, false, false, false, false, false, false, false, false, false, false, false, false, false, false, false, false, false] rfl rfl (any_of HT_.out (by kernel_rfl)) (fun _ _ _ h => h) (Or.inl ⟨by rfl, ?_⟩) ?_ ?_
      rotate_left
      · intro w'
        go_simp
        with_reducible rfl
      rotate_left
      · simp only [Act.put, List.setIfInBounds_toArray, List.set_cons_zero, List.set_cons_succ, i64_w, i32_w]
        rfl
      refine take_ (i := 3) (N := some 17) (v := ?_) (a' := ?_) #[true, true, true, true, false, false, false, false, false, false, false, false, false, false, false, false, false, false, false, false, false, false, false, false] rfl rfl (take_ofW HT_.out HW_.out (by kernel_rfl)) (fun _ _ _ h => h) (Or.inl ⟨by rfl, ?_⟩) hHeld ?_ ?_
      rotate_left
      · rintro w' ⟨s0, s1, s2, s3, s4, s5, s6, s7, s8, s9, s10, s11, s12, s13⟩
        go_simp
        with_reducible rfl
      rotate_left
      · simp only [Act.put, List.setIfInBounds_toArray, List.set_cons_zero, List.set_cons_succ, i64_w, i32_w]
        rfl
      refine pure_ (i := 4) (N := some 18) (v := ?_) (a' := ?_) #[true, true, true, true, true, false, false, false, false, false, false, false, false, false, false, false, false, false, false, false, false, false, false, false] rfl rfl (any_of HT_.out (by kernel_rfl)) (fun _ _ _ h => h) (Or.inl ⟨by rfl, ?_⟩) ?_ ?_
      rotate_left
      · intro w'
        go_simp
        with_reducible rfl
      rotate_left
      · simp only [Act.put, List.setIfInBounds_toArray, List.set_cons_zero, List.set_cons_succ, i64_w, i32_w]
        rfl
      refine pure_ (i := 5) (N := some 19) (v := ?_) (a' := ?_) #[true, true, true, true, true, true, false, false, false, false, false, false, false, false, false, false, false, false, false, false, false, false, false, false] rfl rfl (any_of HT_.out (by kernel_rfl)) (fun _ _ _ h => h) (Or.inl ⟨by rfl, ?_⟩) ?_ ?_
      rotate_left
      · intro w'
        go_simp
        with_reducible rfl
      rotate_left
      · simp only [Act.put, List.setIfInBounds_toArray, List.set_cons_zero, List.set_cons_succ, i64_w, i32_w]
        rfl
      refine pure_ (i := 6) (N := some 20) (v := ?_) (a' := ?_) #[true, true, true, true, true, true, true, false, false, false, false, false, false, false, false, false, false, false, false, false, false, false, false, false] rfl rfl (any_of HT_.out (by kernel_rfl)) (fun _ _ _ h => h) (Or.inl ⟨by rfl, ?_⟩) ?_ ?_
      rotate_left
      · intro w'
        go_simp
        with_reducible rfl
      rotate_left
      · simp only [Act.put, List.setIfInBounds_toArray, List.set_cons_zero, List.set_cons_succ, i64_w, i32_w]
        rfl
      refine take_ (i := 7) (N := some 21) (v := ?_) (a' := ?_) #[true, true, true, true, true, true, true, true, false, false, false, false, false, false, false, false, false, false, false, false, false, false, false, false] rfl rfl (take_ofW HT_.out HW_.out (by kernel_rfl)) (fun _ _ _ h => h) (Or.inl ⟨by rfl, ?_⟩) hHeld ?_ ?_
      rotate_left
      · rintro w' ⟨s0, s1, s2, s3, s4, s5, s6, s7, s8, s9, s10, s11, s12, s13⟩
        go_simp
        with_reducible rfl
      rotate_left
      · simp only [Act.put, List.setIfInBounds_toArray, List.set_cons_zero, List.set_cons_succ, i64_w, i32_w]
        rfl
      refine pure_ (i := 8) (N := some 22) (v := ?_) (a' := ?_) #[true, true, true, true, true, true, true, true, true, false, false, false, false, false, false, false, false, false, false, false, false, false, false, false] rfl rfl (any_of HT_.out (by kernel_rfl)) (fun _ _ _ h => h) (Or.inl ⟨by rfl, ?_⟩) ?_ ?_
      rotate_left
      · intro w'
        go_simp
        with_reducible rfl
      rotate_left
      · simp only [Act.put, List.setIfInBounds_toArray, List.set_cons_zero, List.set_cons_succ, i64_w, i32_w]
        rfl
      refine pure_ (i := 9) (N := some 23) (v := ?_) (a' := ?_) #[true, true, true, true, true, true, true, true, true, true, false, false, false, false, false, false, false, false, false, false, false, false, false, false] rfl rfl (any_of HT_.out (by kernel_rfl)) (fun _ _ _ h => h) (Or.inl ⟨by rfl, ?_⟩) ?_ ?_
      rotate_left
      · intro w'
        go_simp
        with_reducible rfl
      rotate_left
      · simp only [Act.put, List.setIfInBounds_toArray, List.set_cons_zero, List.set_cons_succ, i64_w, i32_w]
        rfl
      refine take_ (i := 10) (N := some 24) (v := ?_) (a' := ?_) #[true, true, true, true, true, true, true, true, true, true, true, false, false, false, false, false, false, false, false, false, false, false, false, false] rfl rfl (take_ofW HT_.out HW_.out (by kernel_rfl)) (fun _ _ _ h => h) (Or.inl ⟨by rfl, ?_⟩) hHeld ?_ ?_
      rotate_left
      · rintro w' ⟨s0, s1, s2, s3, s4, s5, s6, s7, s8, s9, s10, s11, s12, s13⟩
        go_simp
        with_reducible rfl
      rotate_left
      · simp only [Act.put, List.setIfInBounds_toArray, List.set_cons_zero, List.set_cons_succ, i64_w, i32_w]
        rfl
      refine pure_ (i := 11) (N := some 25) (v := ?_) (a' := ?_) #[true, true, true, true, true, true, true, true, true, true, true, true, false, false, false, false, false, false, false, false, false, false, false, false] rfl rfl (any_of HT_.out (by kernel_rfl)) (fun _ _ _ h => h) (Or.inl ⟨by rfl, ?_⟩) ?_ ?_
      rotate_left
      · intro w'
        go_simp
        with_reducible rfl
      rotate_left
      · simp only [Act.put, List.setIfInBounds_toArray, List.set_cons_zero, List.set_cons_succ, i64_w, i32_w]
        rfl
      refine pure_ (i := 12) (N := some 26) (v := ?_) (a' := ?_) #[true, true, true, true, true, true, true, true, true, true, true, true, true, false, false, false, false, false, false, false, false, false, false, false] rfl rfl (any_of HT_.out (by kernel_rfl)) (fun _ _ _ h => h) (Or.inl ⟨by rfl, ?_⟩) ?_ ?_
      rotate_left
      · intro w'
        go_simp
        with_reducible rfl
      rotate_left
      · simp only [Act.put, List.setIfInBounds_toArray, List.set_cons_zero, List.set_cons_succ, i64_w, i32_w]
        rfl
      refine pure_ (i := 13) (N := some 27) (v := ?_) (a' := ?_) #[true, true, true, true, true, true, true, true, true, true, true, true, true, true, false, false, false, false, false, false, false, false, false, false] rfl rfl (any_of HT_.out (by kernel_rfl)) (fun _ _ _ h => h) (Or.inl ⟨by rfl, ?_⟩) ?_ ?_
      rotate_left
      · intro w'
        go_simp
        with_reducible rfl
      rotate_left
      · simp only [Act.put, List.setIfInBounds_toArray, List.set_cons_zero, List.set_cons_succ, i64_w, i32_w]
        rfl
      refine pure_ (i := 14) (N := some 28) (v := ?_) (a' := ?_) #[true, true, true, true, true, true, true, true, true, true, true, true, true, true, true, false, false, false, false, false, false, false, false, false] rfl rfl (any_of HT_.out (by kernel_rfl)) (fun _ _ _ h => h) (Or.inl ⟨by rfl, ?_⟩) ?_ ?_
      rotate_left
      · intro w'
        go_simp
        with_reducible rfl
      rotate_left
      · simp only [Act.put, List.setIfInBounds_toArray, List.set_cons_zero, List.set_cons_succ, i64_w, i32_w]
        rfl
      refine take_ (i := 15) (N := some 29) (v := ?_) (a' := ?_) #[true, true, true, true, true, true, true, true, true, true, true, true, true, true, true, true, false, false, false, false, false, false, false, false] rfl rfl (take_ofW HT_.out HW_.out (by kernel_rfl)) (fun _ _ _ h => h) (Or.inl ⟨by rfl, ?_⟩) hHeld ?_ ?_
      rotate_left
      · rintro w' ⟨s0, s1, s2, s3, s4, s5, s6, s7, s8, s9, s10, s11, s12, s13⟩
        go_simp
        with_reducible rfl
      rotate_left
      · simp only [Act.put, List.setIfInBounds_toArray, List.set_cons_zero, List.set_cons_succ, i64_w, i32_w]
        rfl
      refine pure_ (i := 16) (N := some 30) (v := ?_) (a' := ?_) #[true, true, true, true, true, true, true, true, true, true, true, true, true, true, true, true, true, false, false, false, false, false, false, false] rfl rfl (any_of HT_.out (by kernel_rfl)) (fun _ _ _ h => h) (Or.inl ⟨by rfl, ?_⟩) ?_ ?_
      rotate_left
      · intro w'
        go_simp
        with_reducible rfl
      rotate_left
      · simp only [Act.put, List.setIfInBounds_toArray, List.set_cons_zero, List.set_cons_succ, i64_w, i32_w]
        rfl
      refine pure_ (i := 17) (N := some 31) (v := ?_) (a' := ?_) #[true, true, true, true, true, true, true, true, true, true, true, true, true, true, true, true, true, true, false, false, false, false, false, false] rfl rfl (any_of HT_.out (by kernel_rfl)) (fun _ _ _ h => h) (Or.inl ⟨by rfl, ?_⟩) ?_ ?_
      rotate_left
      · intro w'
        go_simp
        with_reducible rfl
      rotate_left
      · simp only [Act.put, List.setIfInBounds_toArray, List.set_cons_zero, List.set_cons_succ, i64_w, i32_w]
        rfl
      refine pure_ (i := 18) (N := some 32) (v := ?_) (a' := ?_) #[true, true, true, true, true, true, true, true, true, true, true, true, true, true, true, true, true, true, true, false, false, false, false, false] rfl rfl (any_of HT_.out (by kernel_rfl)) (fun _ _ _ h => h) (Or.inl ⟨by rfl, ?_⟩) ?_ ?_
      rotate_left
      · intro w'
        go_simp
        with_reducible rfl
      rotate_left
      · simp only [Act.put, List.setIfInBounds_toArray, List.set_cons_zero, List.set_cons_succ, i64_w, i32_w]
        rfl
      refine pure_ (i := 19) (N := some 33) (v := ?_) (a' := ?_) #[true, true, true, true, true, true, true, true, true, true, true, true, true, true, true, true, true, true, true, true, false, false, false, false] rfl rfl (any_of HT_.out (by kernel_rfl)) (fun _ _ _ h => h) (Or.inl ⟨by rfl, ?_⟩) ?_ ?_
      rotate_left
      · intro w'
        go_simp
        with_reducible rfl
      rotate_left
      · simp only [Act.put, List.setIfInBounds_toArray, List.set_cons_zero, List.set_cons_succ, i64_w, i32_w]
        rfl
      refine one_ (i := 20) (N := some 34) #[true, true, true, true, true, true, true, true, true, true, true, true, true, true, true, true, true, true, true, true, true, false, false, false] rfl rfl (one_of HT_.out (by kernel_rfl)) (by decide) (fun K hK => ?_)
      refine goes_ Try.func34 (by kernel_rfl) rfl #[.slice A3 (l0.drop 14).length (c0 - 14)] (by rfl) rfl rfl (by (try simp only [List.map_toArray, List.map_cons, List.map_nil]); first | done | (rw [show (l0.drop 14).length = l0.length - 14 from List.length_drop] <;> rfl) | rfl) ?_
      with_reducible refine (slices_Clone_byte_byte.calls _ _ (l0.drop 14) b _ ?side1 ?side2 A1.out).mono ?_
      (case side1 => exact Kd.C_below HR4.out HB.out)
      (case side2 => exact HC4.out)
      rintro e w3 ⟨v1, rfl, ho0, hb⟩
      refine ⟨_, rfl, ?_⟩
      have HO := Aside0.mk (Kd.R_lower ho0 (below_size HB.out))
      have n0_ := Aside0.mk (blk_below (g := gp) (o := .cells #[.int .u8 0, .int .u8 0, .int .u8 0, .int .u8 0, .int .u8 0, .int .u8 0, .int .u8 0, .int .u8 0, .int .u8 0, .int .u8 0, .int .u8 0, .int .u8 0, .int .u16 0, .slice none 0 0] 28 (0, 0)) HP.out hb)
      have n1_ := Aside0.mk (below_step HB.out hb)
      clear HP HB ho0 hb
      have HP := n0_
      have HB := n1_
      clear n0_ n1_
      obtain ⟨Bo, co, eo⟩ := Kd.R_slice HO.out
      subst eo
      refine hK.out _ _ ⟨(HB.out.cell (World.block_lt_of_cell? w _ HS0.out)).trans HS0.out, (HB.out.cell (World.block_lt_of_cell? w _ HS1.out)).trans HS1.out, (HB.out.cell (World.block_lt_of_cell? w _ HS2.out)).trans HS2.out, (HB.out.cell (World.block_lt_of_cell? w _ HS3.out)).trans HS3.out, (HB.out.cell (World.block_lt_of_cell? w _ HS4.out)).trans HS4.out, (HB.out.cell (World.block_lt_of_cell? w _ HS5.out)).trans HS5.out, (HB.out.cell (World.block_lt_of_cell? w _ HS6.out)).trans HS6.out, (HB.out.cell (World.block_lt_of_cell? w _ HS7.out)).trans HS7.out, (HB.out.cell (World.block_lt_of_cell? w _ HS8.out)).trans HS8.out, (HB.out.cell (World.block_lt_of_cell? w _ HS9.out)).trans HS9.out, (HB.out.cell (World.block_lt_of_cell? w _ HS10.out)).trans HS10.out, (HB.out.cell (World.block_lt_of_cell? w _ HS11.out)).trans HS11.out, (HB.out.cell (World.block_lt_of_cell? w _ HS12.out)).trans HS12.out, (HB.out.cell (World.block_lt_of_cell? w _ HS13.out)).trans HS13.out⟩ (fun hHeld => ?_)
      clear hK K
      refine norm_ (a' := ?_) ?_ ?_
      rotate_left
      · show Act.put _ (some 34) _ = _
        simp only [Act.put, List.setIfInBounds_toArray, List.set_cons_zero, List.set_cons_succ, i64_w, i32_w]
        rfl
      refine pure_ (i := 21) (N := some 35) (v := ?_) (a' := ?_) #[true, true, true, true, true, true, true, true, true, true, true, true, true, true, true, true, true, true, true, true, true, true, false, false] rfl rfl (any_of HT_.out (by kernel_rfl)) (fun _ _ _ h => h) (Or.inl ⟨by rfl, ?_⟩) ?_ ?_
      rotate_left
      · intro w'
        go_simp
        with_reducible rfl
      rotate_left
      · simp only [Act.put, List.setIfInBounds_toArray, List.set_cons_zero, List.set_cons_succ, i64_w, i32_w]
        rfl
      refine one_ (i := 22) (N := none) #[true, true, true, true, true, true, true, true, true, true, true, true, true, true, true, true, true, true, true, true, true, true, true, false] rfl rfl (one_of HT_.out (by kernel_rfl)) (by decide) (fun K hK => ?_)
      have hs0 : w3.cell? ⟨gp, 0, none⟩ = some (.int .u8 0) := (blk_cell HP.out 0).trans rfl
      have hfs0 := blk_frozen HP.out 0
      have hs1 : w3.cell? ⟨gp, 1, none⟩ = some (.int .u8 0) := (blk_cell HP.out 1).trans rfl
      have hfs1 := blk_frozen HP.out 1
      have hs2 : w3.cell? ⟨gp, 2, none⟩ = some (.int .u8 0) := (blk_cell HP.out 2).trans rfl
      have hfs2 := blk_frozen HP.out 2
      have hs3 : w3.cell? ⟨gp, 3, none⟩ = some (.int .u8 0) := (blk_cell HP.out 3).trans rfl
      have hfs3 := blk_frozen HP.out 3
      have hs4 : w3.cell? ⟨gp, 4, none⟩ = some (.int .u8 0) := (blk_cell HP.out 4).trans rfl
      have hfs4 := blk_frozen HP.out 4
      have hs5 : w3.cell? ⟨gp, 5, none⟩ = some (.int .u8 0) := (blk_cell HP.out 5).trans rfl
      have hfs5 := blk_frozen HP.out 5
      have hs6 : w3.cell? ⟨gp, 6, none⟩ = some (.int .u8 0) := (blk_cell HP.out 6).trans rfl
      have hfs6 := blk_frozen HP.out 6
      have hs7 : w3.cell? ⟨gp, 7, none⟩ = some (.int .u8 0) := (blk_cell HP.out 7).trans rfl
      have hfs7 := blk_frozen HP.out 7
      have hs8 : w3.cell? ⟨gp, 8, none⟩ = some (.int .u8 0) := (blk_cell HP.out 8).trans rfl
      have hfs8 := blk_frozen HP.out 8
      have hs9 : w3.cell? ⟨gp, 9, none⟩ = some (.int .u8 0) := (blk_cell HP.out 9).trans rfl
      have hfs9 := blk_frozen HP.out 9
      have hs10 : w3.cell? ⟨gp, 10, none⟩ = some (.int .u8 0) := (blk_cell HP.out 10).trans rfl
      have hfs10 := blk_frozen HP.out 10
      have hs11 : w3.cell? ⟨gp, 11, none⟩ = some (.int .u8 0) := (blk_cell HP.out 11).trans rfl
      have hfs11 := blk_frozen HP.out 11
      have hs12 : w3.cell? ⟨gp, 12, none⟩ = some (.int .u16 0) := (blk_cell HP.out 12).trans rfl
      have hfs12 := blk_frozen HP.out 12
      have hs13 : w3.cell? ⟨gp, 13, none⟩ = some (.slice none 0 0) := (blk_cell HP.out 13).trans rfl
      have hfs13 := blk_frozen HP.out 13
      refine skip_ (w1 := ((((((((((((((w3.setCell ⟨gp, 0, none⟩ (.int .u8 (rd l0 0))).setCell ⟨gp, 1, none⟩ (.int .u8 (rd l0 1))).setCell ⟨gp, 2, none⟩ (.int .u8 (rd l0 2))).setCell ⟨gp, 3, none⟩ (.int .u8 (rd l0 3))).setCell ⟨gp, 4, none⟩ (.int .u8 (rd l0 4))).setCell ⟨gp, 5, none⟩ (.int .u8 (rd l0 5))).setCell ⟨gp, 6, none⟩ (.int .u8 (rd l0 6))).setCell ⟨gp, 7, none⟩ (.int .u8 (rd l0 7))).setCell ⟨gp, 8, none⟩ (.int .u8 (rd l0 8))).setCell ⟨gp, 9, none⟩ (.int .u8 (rd l0 9))).setCell ⟨gp, 10, none⟩ (.int .u8 (rd l0 10))).setCell ⟨gp, 11, none⟩ (.int .u8 (rd l0 11))).setCell ⟨gp, 12, none⟩ (.int .u16 (Go.bits .or .u16 (IntKind.u16.wrap ((IntKind.u16.wrap (rd l0 12)) * 256)) (IntKind.u16.wrap (rd l0 13))))).setCell ⟨gp, 13, none⟩ (.slice Bo b.length co))) (by rfl) rfl ?_ ?_
      · go_simp
      have HF : Aside0 (∀ a : Addr, a.block ≠ gp → ((((((((((((((w3.setCell ⟨gp, 0, none⟩ (.int .u8 (rd l0 0))).setCell ⟨gp, 1, none⟩ (.int .u8 (rd l0 1))).setCell ⟨gp, 2, none⟩ (.int .u8 (rd l0 2))).setCell ⟨gp, 3, none⟩ (.int .u8 (rd l0 3))).setCell ⟨gp, 4, none⟩ (.int .u8 (rd l0 4))).setCell ⟨gp, 5, none⟩ (.int .u8 (rd l0 5))).setCell ⟨gp, 6, none⟩ (.int .u8 (rd l0 6))).setCell ⟨gp, 7, none⟩ (.int .u8 (rd l0 7))).setCell ⟨gp, 8, none⟩ (.int .u8 (rd l0 8))).setCell ⟨gp, 9, none⟩ (.int .u8 (rd l0 9))).setCell ⟨gp, 10, none⟩ (.int .u8 (rd l0 10))).setCell ⟨gp, 11, none⟩ (.int .u8 (rd l0 11))).setCell ⟨gp, 12, none⟩ (.int .u16 (Go.bits .or .u16 (IntKind.u16.wrap ((IntKind.u16.wrap (rd l0 12)) * 256)) (IntKind.u16.wrap (rd l0 13))))).setCell ⟨gp, 13, none⟩ (.slice Bo b.length co)).cell? a = w3.cell? a) := ⟨fun a ha => ((cell_far (W := (((((((((((((w3.setCell ⟨gp, 0, none⟩ (.int .u8 (rd l0 0))).setCell ⟨gp, 1, none⟩ (.int .u8 (rd l0 1))).setCell ⟨gp, 2, none⟩ (.int .u8 (rd l0 2))).setCell ⟨gp, 3, none⟩ (.int .u8 (rd l0 3))).setCell ⟨gp, 4, none⟩ (.int .u8 (rd l0 4))).setCell ⟨gp, 5, none⟩ (.int .u8 (rd l0 5))).setCell ⟨gp, 6, none⟩ (.int .u8 (rd l0 6))).setCell ⟨gp, 7, none⟩ (.int .u8 (rd l0 7))).setCell ⟨gp, 8, none⟩ (.int .u8 (rd l0 8))).setCell ⟨gp, 9, none⟩ (.int .u8 (rd l0 9))).setCell ⟨gp, 10, none⟩ (.int .u8 (rd l0 10))).setCell ⟨gp, 11, none⟩ (.int .u8 (rd l0 11))).setCell ⟨gp, 12, none⟩ (.int .u16 (Go.bits .or .u16 (IntKind.u16.wrap ((IntKind.u16.wrap (rd l0 12)) * 256)) (IntKind.u16.wrap (rd l0 13)))))) (p := ⟨gp, 13, none⟩) ha (.slice Bo b.length co)).trans ((cell_far (W := ((((((((((((w3.setCell ⟨gp, 0, none⟩ (.int .u8 (rd l0 0))).setCell ⟨gp, 1, none⟩ (.int .u8 (rd l0 1))).setCell ⟨gp, 2, none⟩ (.int .u8 (rd l0 2))).setCell ⟨gp, 3, none⟩ (.int .u8 (rd l0 3))).setCell ⟨gp, 4, none⟩ (.int .u8 (rd l0 4))).setCell ⟨gp, 5, none⟩ (.int .u8 (rd l0 5))).setCell ⟨gp, 6, none⟩ (.int .u8 (rd l0 6))).setCell ⟨gp, 7, none⟩ (.int .u8 (rd l0 7))).setCell ⟨gp, 8, none⟩ (.int .u8 (rd l0 8))).setCell ⟨gp, 9, none⟩ (.int .u8 (rd l0 9))).setCell ⟨gp, 10, none⟩ (.int .u8 (rd l0 10))).setCell ⟨gp, 11, none⟩ (.int .u8 (rd l0 11)))) (p := ⟨gp, 12, none⟩) ha (.int .u16 (Go.bits .or .u16 (IntKind.u16.wrap ((IntKind.u16.wrap (rd l0 12)) * 256)) (IntKind.u16.wrap (rd l0 13))))).trans ((cell_far (W := (((((((((((w3.setCell ⟨gp, 0, none⟩ (.int .u8 (rd l0 0))).setCell ⟨gp, 1, none⟩ (.int .u8 (rd l0 1))).setCell ⟨gp, 2, none⟩ (.int .u8 (rd l0 2))).setCell ⟨gp, 3, none⟩ (.int .u8 (rd l0 3))).setCell ⟨gp, 4, none⟩ (.int .u8 (rd l0 4))).setCell ⟨gp, 5, none⟩ (.int .u8 (rd l0 5))).setCell ⟨gp, 6, none⟩ (.int .u8 (rd l0 6))).setCell ⟨gp, 7, none⟩ (.int .u8 (rd l0 7))).setCell ⟨gp, 8, none⟩ (.int .u8 (rd l0 8))).setCell ⟨gp, 9, none⟩ (.int .u8 (rd l0 9))).setCell ⟨gp, 10, none⟩ (.int .u8 (rd l0 10)))) (p := ⟨gp, 11, none⟩) ha (.int .u8 (rd l0 11))).trans ((cell_far (W := ((((((((((w3.setCell ⟨gp, 0, none⟩ (.int .u8 (rd l0 0))).setCell ⟨gp, 1, none⟩ (.int .u8 (rd l0 1))).setCell ⟨gp, 2, none⟩ (.int .u8 (rd l0 2))).setCell ⟨gp, 3, none⟩ (.int .u8 (rd l0 3))).setCell ⟨gp, 4, none⟩ (.int .u8 (rd l0 4))).setCell ⟨gp, 5, none⟩ (.int .u8 (rd l0 5))).setCell ⟨gp, 6, none⟩ (.int .u8 (rd l0 6))).setCell ⟨gp, 7, none⟩ (.int .u8 (rd l0 7))).setCell ⟨gp, 8, none⟩ (.int .u8 (rd l0 8))).setCell ⟨gp, 9, none⟩ (.int .u8 (rd l0 9)))) (p := ⟨gp, 10, none⟩) ha (.int .u8 (rd l0 10))).trans ((cell_far (W := (((((((((w3.setCell ⟨gp, 0, none⟩ (.int .u8 (rd l0 0))).setCell ⟨gp, 1, none⟩ (.int .u8 (rd l0 1))).setCell ⟨gp, 2, none⟩ (.int .u8 (rd l0 2))).setCell ⟨gp, 3, none⟩ (.int .u8 (rd l0 3))).setCell ⟨gp, 4, none⟩ (.int .u8 (rd l0 4))).setCell ⟨gp, 5, none⟩ (.int .u8 (rd l0 5))).setCell ⟨gp, 6, none⟩ (.int .u8 (rd l0 6))).setCell ⟨gp, 7, none⟩ (.int .u8 (rd l0 7))).setCell ⟨gp, 8, none⟩ (.int .u8 (rd l0 8)))) (p := ⟨gp, 9, none⟩) ha (.int .u8 (rd l0 9))).trans ((cell_far (W := ((((((((w3.setCell ⟨gp, 0, none⟩ (.int .u8 (rd l0 0))).setCell ⟨gp, 1, none⟩ (.int .u8 (rd l0 1))).setCell ⟨gp, 2, none⟩ (.int .u8 (rd l0 2))).setCell ⟨gp, 3, none⟩ (.int .u8 (rd l0 3))).setCell ⟨gp, 4, none⟩ (.int .u8 (rd l0 4))).setCell ⟨gp, 5, none⟩ (.int .u8 (rd l0 5))).setCell ⟨gp, 6, none⟩ (.int .u8 (rd l0 6))).setCell ⟨gp, 7, none⟩ (.int .u8 (rd l0 7)))) (p := ⟨gp, 8, none⟩) ha (.int .u8 (rd l0 8))).trans ((cell_far (W := (((((((w3.setCell ⟨gp, 0, none⟩ (.int .u8 (rd l0 0))).setCell ⟨gp, 1, none⟩ (.int .u8 (rd l0 1))).setCell ⟨gp, 2, none⟩ (.int .u8 (rd l0 2))).setCell ⟨gp, 3, none⟩ (.int .u8 (rd l0 3))).setCell ⟨gp, 4, none⟩ (.int .u8 (rd l0 4))).setCell ⟨gp, 5, none⟩ (.int .u8 (rd l0 5))).setCell ⟨gp, 6, none⟩ (.int .u8 (rd l0 6)))) (p := ⟨gp, 7, none⟩) ha (.int .u8 (rd l0 7))).trans ((cell_far (W := ((((((w3.setCell ⟨gp, 0, none⟩ (.int .u8 (rd l0 0))).setCell ⟨gp, 1, none⟩ (.int .u8 (rd l0 1))).setCell ⟨gp, 2, none⟩ (.int .u8 (rd l0 2))).setCell ⟨gp, 3, none⟩ (.int .u8 (rd l0 3))).setCell ⟨gp, 4, none⟩ (.int .u8 (rd l0 4))).setCell ⟨gp, 5, none⟩ (.int .u8 (rd l0 5)))) (p := ⟨gp, 6, none⟩) ha (.int .u8 (rd l0 6))).trans ((cell_far (W := (((((w3.setCell ⟨gp, 0, none⟩ (.int .u8 (rd l0 0))).setCell ⟨gp, 1, none⟩ (.int .u8 (rd l0 1))).setCell ⟨gp, 2, none⟩ (.int .u8 (rd l0 2))).setCell ⟨gp, 3, none⟩ (.int .u8 (rd l0 3))).setCell ⟨gp, 4, none⟩ (.int .u8 (rd l0 4)))) (p := ⟨gp, 5, none⟩) ha (.int .u8 (rd l0 5))).trans ((cell_far (W := ((((w3.setCell ⟨gp, 0, none⟩ (.int .u8 (rd l0 0))).setCell ⟨gp, 1, none⟩ (.int .u8 (rd l0 1))).setCell ⟨gp, 2, none⟩ (.int .u8 (rd l0 2))).setCell ⟨gp, 3, none⟩ (.int .u8 (rd l0 3)))) (p := ⟨gp, 4, none⟩) ha (.int .u8 (rd l0 4))).trans ((cell_far (W := (((w3.setCell ⟨gp, 0, none⟩ (.int .u8 (rd l0 0))).setCell ⟨gp, 1, none⟩ (.int .u8 (rd l0 1))).setCell ⟨gp, 2, none⟩ (.int .u8 (rd l0 2)))) (p := ⟨gp, 3, none⟩) ha (.int .u8 (rd l0 3))).trans ((cell_far (W := ((w3.setCell ⟨gp, 0, none⟩ (.int .u8 (rd l0 0))).setCell ⟨gp, 1, none⟩ (.int .u8 (rd l0 1)))) (p := ⟨gp, 2, none⟩) ha (.int .u8 (rd l0 2))).trans ((cell_far (W := (w3.setCell ⟨gp, 0, none⟩ (.int .u8 (rd l0 0)))) (p := ⟨gp, 1, none⟩) ha (.int .u8 (rd l0 1))).trans (cell_far (W := w3) (p := ⟨gp, 0, none⟩) ha (.int .u8 (rd l0 0))))))))))))))))⟩
      have f2 := Aside0.mk (blk_put (cs' := #[.int .u8 (rd l0 0), .int .u8 (rd l0 1), .int .u8 (rd l0 2), .int .u8 (rd l0 3), .int .u8 (rd l0 4), .int .u8 (rd l0 5), .int .u8 (rd l0 6), .int .u8 (rd l0 7), .int .u8 (rd l0 8), .int .u8 (rd l0 9), .int .u8 (rd l0 10), .int .u8 (rd l0 11), .int .u16 (Go.bits .or .u16 (IntKind.u16.wrap ((IntKind.u16.wrap (rd l0 12)) * 256)) (IntKind.u16.wrap (rd l0 13))), .slice Bo b.length co]) (blk_put (cs' := #[.int .u8 (rd l0 0), .int .u8 (rd l0 1), .int .u8 (rd l0 2), .int .u8 (rd l0 3), .int .u8 (rd l0 4), .int .u8 (rd l0 5), .int .u8 (rd l0 6), .int .u8 (rd l0 7), .int .u8 (rd l0 8), .int .u8 (rd l0 9), .int .u8 (rd l0 10), .int .u8 (rd l0 11), .int .u16 (Go.bits .or .u16 (IntKind.u16.wrap ((IntKind.u16.wrap (rd l0 12)) * 256)) (IntKind.u16.wrap (rd l0 13))), .slice none 0 0]) (blk_put (cs' := #[.int .u8 (rd l0 0), .int .u8 (rd l0 1), .int .u8 (rd l0 2), .int .u8 (rd l0 3), .int .u8 (rd l0 4), .int .u8 (rd l0 5), .int .u8 (rd l0 6), .int .u8 (rd l0 7), .int .u8 (rd l0 8), .int .u8 (rd l0 9), .int .u8 (rd l0 10), .int .u8 (rd l0 11), .int .u16 0, .slice none 0 0]) (blk_put (cs' := #[.int .u8 (rd l0 0), .int .u8 (rd l0 1), .int .u8 (rd l0 2), .int .u8 (rd l0 3), .int .u8 (rd l0 4), .int .u8 (rd l0 5), .int .u8 (rd l0 6), .int .u8 (rd l0 7), .int .u8 (rd l0 8), .int .u8 (rd l0 9), .int .u8 (rd l0 10), .int .u8 0, .int .u16 0, .slice none 0 0]) (blk_put (cs' := #[.int .u8 (rd l0 0), .int .u8 (rd l0 1), .int .u8 (rd l0 2), .int .u8 (rd l0 3), .int .u8 (rd l0 4), .int .u8 (rd l0 5), .int .u8 (rd l0 6), .int .u8 (rd l0 7), .int .u8 (rd l0 8), .int .u8 (rd l0 9), .int .u8 0, .int .u8 0, .int .u16 0, .slice none 0 0]) (blk_put (cs' := #[.int .u8 (rd l0 0), .int .u8 (rd l0 1), .int .u8 (rd l0 2), .int .u8 (rd l0 3), .int .u8 (rd l0 4), .int .u8 (rd l0 5), .int .u8 (rd l0 6), .int .u8 (rd l0 7), .int .u8 (rd l0 8), .int .u8 0, .int .u8 0, .int .u8 0, .int .u16 0, .slice none 0 0]) (blk_put (cs' := #[.int .u8 (rd l0 0), .int .u8 (rd l0 1), .int .u8 (rd l0 2), .int .u8 (rd l0 3), .int .u8 (rd l0 4), .int .u8 (rd l0 5), .int .u8 (rd l0 6), .int .u8 (rd l0 7), .int .u8 0, .int .u8 0, .int .u8 0, .int .u8 0, .int .u16 0, .slice none 0 0]) (blk_put (cs' := #[.int .u8 (rd l0 0), .int .u8 (rd l0 1), .int .u8 (rd l0 2), .int .u8 (rd l0 3), .int .u8 (rd l0 4), .int .u8 (rd l0 5), .int .u8 (rd l0 6), .int .u8 0, .int .u8 0, .int .u8 0, .int .u8 0, .int .u8 0, .int .u16 0, .slice none 0 0]) (blk_put (cs' := #[.int .u8 (rd l0 0), .int .u8 (rd l0 1), .int .u8 (rd l0 2), .int .u8 (rd l0 3), .int .u8 (rd l0 4), .int .u8 (rd l0 5), .int .u8 0, .int .u8 0, .int .u8 0, .int .u8 0, .int .u8 0, .int .u8 0, .int .u16 0, .slice none 0 0]) (blk_put (cs' := #[.int .u8 (rd l0 0), .int .u8 (rd l0 1), .int .u8 (rd l0 2), .int .u8 (rd l0 3), .int .u8 (rd l0 4), .int .u8 0, .int .u8 0, .int .u8 0, .int .u8 0, .int .u8 0, .int .u8 0, .int .u8 0, .int .u16 0, .slice none 0 0]) (blk_put (cs' := #[.int .u8 (rd l0 0), .int .u8 (rd l0 1), .int .u8 (rd l0 2), .int .u8 (rd l0 3), .int .u8 0, .int .u8 0, .int .u8 0, .int .u8 0, .int .u8 0, .int .u8 0, .int .u8 0, .int .u8 0, .int .u16 0, .slice none 0 0]) (blk_put (cs' := #[.int .u8 (rd l0 0), .int .u8 (rd l0 1), .int .u8 (rd l0 2), .int .u8 0, .int .u8 0, .int .u8 0, .int .u8 0, .int .u8 0, .int .u8 0, .int .u8 0, .int .u8 0, .int .u8 0, .int .u16 0, .slice none 0 0]) (blk_put (cs' := #[.int .u8 (rd l0 0), .int .u8 (rd l0 1), .int .u8 0, .int .u8 0, .int .u8 0, .int .u8 0, .int .u8 0, .int .u8 0, .int .u8 0, .int .u8 0, .int .u8 0, .int .u8 0, .int .u16 0, .slice none 0 0]) (blk_put (cs' := #[.int .u8 (rd l0 0), .int .u8 0, .int .u8 0, .int .u8 0, .int .u8 0, .int .u8 0, .int .u8 0, .int .u8 0, .int .u8 0, .int .u8 0, .int .u8 0, .int .u8 0, .int .u16 0, .slice none 0 0]) HP.out 0 (.int .u8 (rd l0 0)) rfl) 1 (.int .u8 (rd l0 1)) rfl) 2 (.int .u8 (rd l0 2)) rfl) 3 (.int .u8 (rd l0 3)) rfl) 4 (.int .u8 (rd l0 4)) rfl) 5 (.int .u8 (rd l0 5)) rfl) 6 (.int .u8 (rd l0 6)) rfl) 7 (.int .u8 (rd l0 7)) rfl) 8 (.int .u8 (rd l0 8)) rfl) 9 (.int .u8 (rd l0 9)) rfl) 10 (.int .u8 (rd l0 10)) rfl) 11 (.int .u8 (rd l0 11)) rfl) 12 (.int .u16 (Go.bits .or .u16 (IntKind.u16.wrap ((IntKind.u16.wrap (rd l0 12)) * 256)) (IntKind.u16.wrap (rd l0 13)))) rfl) 13 (.slice Bo b.length co) rfl)
      have f3 := Aside0.mk (Below.setCell (p := ⟨gp, 13, none⟩) (Below.setCell (p := ⟨gp, 12, none⟩) (Below.setCell (p := ⟨gp, 11, none⟩) (Below.setCell (p := ⟨gp, 10, none⟩) (Below.setCell (p := ⟨gp, 9, none⟩) (Below.setCell (p := ⟨gp, 8, none⟩) (Below.setCell (p := ⟨gp, 7, none⟩) (Below.setCell (p := ⟨gp, 6, none⟩) (Below.setCell (p := ⟨gp, 5, none⟩) (Below.setCell (p := ⟨gp, 4, none⟩) (Below.setCell (p := ⟨gp, 3, none⟩) (Below.setCell (p := ⟨gp, 2, none⟩) (Below.setCell (p := ⟨gp, 1, none⟩) (Below.setCell (p := ⟨gp, 0, none⟩) HB.out GP.out (.int .u8 (rd l0 0))) GP.out (.int .u8 (rd l0 1))) GP.out (.int .u8 (rd l0 2))) GP.out (.int .u8 (rd l0 3))) GP.out (.int .u8 (rd l0 4))) GP.out (.int .u8 (rd l0 5))) GP.out (.int .u8 (rd l0 6))) GP.out (.int .u8 (rd l0 7))) GP.out (.int .u8 (rd l0 8))) GP.out (.int .u8 (rd l0 9))) GP.out (.int .u8 (rd l0 10))) GP.out (.int .u8 (rd l0 11))) GP.out (.int .u16 (Go.bits .or .u16 (IntKind.u16.wrap ((IntKind.u16.wrap (rd l0 12)) * 256)) (IntKind.u16.wrap (rd l0 13))))) GP.out (.slice Bo b.length co))
      have f4 := Aside0.mk (Kd.R_set (Kd.R_set (Kd.R_set (Kd.R_set (Kd.R_set (Kd.R_set (Kd.R_set (Kd.R_set (Kd.R_set (Kd.R_set (Kd.R_set (Kd.R_set (Kd.R_set (Kd.R_set HO.out HP.out (by decide) 0 (.int .u8 (rd l0 0))) (blk_put (cs' := #[.int .u8 (rd l0 0), .int .u8 0, .int .u8 0, .int .u8 0, .int .u8 0, .int .u8 0, .int .u8 0, .int .u8 0, .int .u8 0, .int .u8 0, .int .u8 0, .int .u8 0, .int .u16 0, .slice none 0 0]) HP.out 0 (.int .u8 (rd l0 0)) rfl) (by decide) 1 (.int .u8 (rd l0 1))) (blk_put (cs' := #[.int .u8 (rd l0 0), .int .u8 (rd l0 1), .int .u8 0, .int .u8 0, .int .u8 0, .int .u8 0, .int .u8 0, .int .u8 0, .int .u8 0, .int .u8 0, .int .u8 0, .int .u8 0, .int .u16 0, .slice none 0 0]) (blk_put (cs' := #[.int .u8 (rd l0 0), .int .u8 0, .int .u8 0, .int .u8 0, .int .u8 0, .int .u8 0, .int .u8 0, .int .u8 0, .int .u8 0, .int .u8 0, .int .u8 0, .int .u8 0, .int .u16 0, .slice none 0 0]) HP.out 0 (.int .u8 (rd l0 0)) rfl) 1 (.int .u8 (rd l0 1)) rfl) (by decide) 2 (.int .u8 (rd l0 2))) (blk_put (cs' := #[.int .u8 (rd l0 0), .int .u8 (rd l0 1), .int .u8 (rd l0 2), .int .u8 0, .int .u8 0, .int .u8 0, .int .u8 0, .int .u8 0, .int .u8 0, .int .u8 0, .int .u8 0, .int .u8 0, .int .u16 0, .slice none 0 0]) (blk_put (cs' := #[.int .u8 (rd l0 0), .int .u8 (rd l0 1), .int .u8 0, .int .u8 0, .int .u8 0, .int .u8 0, .int .u8 0, .int .u8 0, .int .u8 0, .int .u8 0, .int .u8 0, .int .u8 0, .int .u16 0, .slice none 0 0]) (blk_put (cs' := #[.int .u8 (rd l0 0), .int .u8 0, .int .u8 0, .int .u8 0, .int .u8 0, .int .u8 0, .int .u8 0, .int .u8 0, .int .u8 0, .int .u8 0, .int .u8 0, .int .u8 0, .int .u16 0, .slice none 0 0]) HP.out 0 (.int .u8 (rd l0 0)) rfl) 1 (.int .u8 (rd l0 1)) rfl) 2 (.int .u8 (rd l0 2)) rfl) (by decide) 3 (.int .u8 (rd l0 3))) (blk_put (cs' := #[.int .u8 (rd l0 0), .int .u8 (rd l0 1), .int .u8 (rd l0 2), .int .u8 (rd l0 3), .int .u8 0, .int .u8 0, .int .u8 0, .int .u8 0, .int .u8 0, .int .u8 0, .int .u8 0, .int .u8 0, .int .u16 0, .slice none 0 0]) (blk_put (cs' := #[.int .u8 (rd l0 0), .int .u8 (rd l0 1), .int .u8 (rd l0 2), .int .u8 0, .int .u8 0, .int .u8 0, .int .u8 0, .int .u8 0, .int .u8 0, .int .u8 0, .int .u8 0, .int .u8 0, .int .u16 0, .slice none 0 0]) (blk_put (cs' := #[.int .u8 (rd l0 0), .int .u8 (rd l0 1), .int .u8 0, .int .u8 0, .int .u8 0, .int .u8 0, .int .u8 0, .int .u8 0, .int .u8 0, .int .u8 0, .int .u8 0, .int .u8 0, .int .u16 0, .slice none 0 0]) (blk_put (cs' := #[.int .u8 (rd l0 0), .int .u8 0, .int .u8 0, .int .u8 0, .int .u8 0, .int .u8 0, .int .u8 0, .int .u8 0, .int .u8 0, .int .u8 0, .int .u8 0, .int .u8 0, .int .u16 0, .slice none 0 0]) HP.out 0 (.int .u8 (rd l0 0)) rfl) 1 (.int .u8 (rd l0 1)) rfl) 2 (.int .u8 (rd l0 2)) rfl) 3 (.int .u8 (rd l0 3)) rfl) (by decide) 4 (.int .u8 (rd l0 4))) (blk_put (cs' := #[.int .u8 (rd l0 0), .int .u8 (rd l0 1), .int .u8 (rd l0 2), .int .u8 (rd l0 3), .int .u8 (rd l0 4), .int .u8 0, .int .u8 0, .int .u8 0, .int .u8 0, .int .u8 0, .int .u8 0, .int .u8 0, .int .u16 0, .slice none 0 0]) (blk_put (cs' := #[.int .u8 (rd l0 0), .int .u8 (rd l0 1), .int .u8 (rd l0 2), .int .u8 (rd l0 3), .int .u8 0, .int .u8 0, .int .u8 0, .int .u8 0, .int .u8 0, .int .u8 0, .int .u8 0, .int .u8 0, .int .u16 0, .slice none 0 0]) (blk_put (cs' := #[.int .u8 (rd l0 0), .int .u8 (rd l0 1), .int .u8 (rd l0 2), .int .u8 0, .int .u8 0, .int .u8 0, .int .u8 0, .int .u8 0, .int .u8 0, .int .u8 0, .int .u8 0, .int .u8 0, .int .u16 0, .slice none 0 0]) (blk_put (cs' := #[.int .u8 (rd l0 0), .int .u8 (rd l0 1), .int .u8 0, .int .u8 0, .int .u8 0, .int .u8 0, .int .u8 0, .int .u8 0, .int .u8 0, .int .u8 0, .int .u8 0, .int .u8 0, .int .u16 0, .slice none 0 0]) (blk_put (cs' := #[.int .u8 (rd l0 0), .int .u8 0, .int .u8 0, .int .u8 0, .int .u8 0, .int .u8 0, .int .u8 0, .int .u8 0, .int .u8 0, .int .u8 0, .int .u8 0, .int .u8 0, .int .u16 0, .slice none 0 0]) HP.out 0 (.int .u8 (rd l0 0)) rfl) 1 (.int .u8 (rd l0 1)) rfl) 2 (.int .u8 (rd l0 2)) rfl) 3 (.int .u8 (rd l0 3)) rfl) 4 (.int .u8 (rd l0 4)) rfl) (by decide) 5 (.int .u8 (rd l0 5))) (blk_put (cs' := #[.int .u8 (rd l0 0), .int .u8 (rd l0 1), .int .u8 (rd l0 2), .int .u8 (rd l0 3), .int .u8 (rd l0 4), .int .u8 (rd l0 5), .int .u8 0, .int .u8 0, .int .u8 0, .int .u8 0, .int .u8 0, .int .u8 0, .int .u16 0, .slice none 0 0]) (blk_put (cs' := #[.int .u8 (rd l0 0), .int .u8 (rd l0 1), .int .u8 (rd l0 2), .int .u8 (rd l0 3), .int .u8 (rd l0 4), .int .u8 0, .int .u8 0, .int .u8 0, .int .u8 0, .int .u8 0, .int .u8 0, .int .u8 0, .int .u16 0, .slice none 0 0]) (blk_put (cs' := #[.int .u8 (rd l0 0), .int .u8 (rd l0 1), .int .u8 (rd l0 2), .int .u8 (rd l0 3), .int .u8 0, .int .u8 0, .int .u8 0, .int .u8 0, .int .u8 0, .int .u8 0, .int .u8 0, .int .u8 0, .int .u16 0, .slice none 0 0]) (blk_put (cs' := #[.int .u8 (rd l0 0), .int .u8 (rd l0 1), .int .u8 (rd l0 2), .int .u8 0, .int .u8 0, .int .u8 0, .int .u8 0, .int .u8 0, .int .u8 0, .int .u8 0, .int .u8 0, .int .u8 0, .int .u16 0, .slice none 0 0]) (blk_put (cs' := #[.int .u8 (rd l0 0), .int .u8 (rd l0 1), .int .u8 0, .int .u8 0, .int .u8 0, .int .u8 0, .int .u8 0, .int .u8 0, .int .u8 0, .int .u8 0, .int .u8 0, .int .u8 0, .int .u16 0, .slice none 0 0]) (blk_put (cs' := #[.int .u8 (rd l0 0), .int .u8 0, .int .u8 0, .int .u8 0, .int .u8 0, .int .u8 0, .int .u8 0, .int .u8 0, .int .u8 0, .int .u8 0, .int .u8 0, .int .u8 0, .int .u16 0, .slice none 0 0]) HP.out 0 (.int .u8 (rd l0 0)) rfl) 1 (.int .u8 (rd l0 1)) rfl) 2 (.int .u8 (rd l0 2)) rfl) 3 (.int .u8 (rd l0 3)) rfl) 4 (.int .u8 (rd l0 4)) rfl) 5 (.int .u8 (rd l0 5)) rfl) (by decide) 6 (.int .u8 (rd l0 6))) (blk_put (cs' := #[.int .u8 (rd l0 0), .int .u8 (rd l0 1), .int .u8 (rd l0 2), .int .u8 (rd l0 3), .int .u8 (rd l0 4), .int .u8 (rd l0 5), .int .u8 (rd l0 6), .int .u8 0, .int .u8 0, .int .u8 0, .int .u8 0, .int .u8 0, .int .u16 0, .slice none 0 0]) (blk_put (cs' := #[.int .u8 (rd l0 0), .int .u8 (rd l0 1), .int .u8 (rd l0 2), .int .u8 (rd l0 3), .int .u8 (rd l0 4), .int .u8 (rd l0 5), .int .u8 0, .int .u8 0, .int .u8 0, .int .u8 0, .int .u8 0, .int .u8 0, .int .u16 0, .slice none 0 0]) (blk_put (cs' := #[.int .u8 (rd l0 0), .int .u8 (rd l0 1), .int .u8 (rd l0 2), .int .u8 (rd l0 3), .int .u8 (rd l0 4), .int .u8 0, .int .u8 0, .int .u8 0, .int .u8 0, .int .u8 0, .int .u8 0, .int .u8 0, .int .u16 0, .slice none 0 0]) (blk_put (cs' := #[.int .u8 (rd l0 0), .int .u8 (rd l0 1), .int .u8 (rd l0 2), .int .u8 (rd l0 3), .int .u8 0, .int .u8 0, .int .u8 0, .int .u8 0, .int .u8 0, .int .u8 0, .int .u8 0, .int .u8 0, .int .u16 0, .slice none 0 0]) (blk_put (cs' := #[.int .u8 (rd l0 0), .int .u8 (rd l0 1), .int .u8 (rd l0 2), .int .u8 0, .int .u8 0, .int .u8 0, .int .u8 0, .int .u8 0, .int .u8 0, .int .u8 0, .int .u8 0, .int .u8 0, .int .u16 0, .slice none 0 0]) (blk_put (cs' := #[.int .u8 (rd l0 0), .int .u8 (rd l0 1), .int .u8 0, .int .u8 0, .int .u8 0, .int .u8 0, .int .u8 0, .int .u8 0, .int .u8 0, .int .u8 0, .int .u8 0, .int .u8 0, .int .u16 0, .slice none 0 0]) (blk_put (cs' := #[.int .u8 (rd l0 0), .int .u8 0, .int .u8 0, .int .u8 0, .int .u8 0, .int .u8 0, .int .u8 0, .int .u8 0, .int .u8 0, .int .u8 0, .int .u8 0, .int .u8 0, .int .u16 0, .slice none 0 0]) HP.out 0 (.int .u8 (rd l0 0)) rfl) 1 (.int .u8 (rd l0 1)) rfl) 2 (.int .u8 (rd l0 2)) rfl) 3 (.int .u8 (rd l0 3)) rfl) 4 (.int .u8 (rd l0 4)) rfl) 5 (.int .u8 (rd l0 5)) rfl) 6 (.int .u8 (rd l0 6)) rfl) (by decide) 7 (.int .u8 (rd l0 7))) (blk_put (cs' := #[.int .u8 (rd l0 0), .int .u8 (rd l0 1), .int .u8 (rd l0 2), .int .u8 (rd l0 3), .int .u8 (rd l0 4), .int .u8 (rd l0 5), .int .u8 (rd l0 6), .int .u8 (rd l0 7), .int .u8 0, .int .u8 0, .int .u8 0, .int .u8 0, .int .u16 0, .slice none 0 0]) (blk_put (cs' := #[.int .u8 (rd l0 0), .int .u8 (rd l0 1), .int .u8 (rd l0 2), .int .u8 (rd l0 3), .int .u8 (rd l0 4), .int .u8 (rd l0 5), .int .u8 (rd l0 6), .int .u8 0, .int .u8 0, .int .u8 0, .int .u8 0, .int .u8 0, .int .u16 0, .slice none 0 0]) (blk_put (cs' := #[.int .u8 (rd l0 0), .int .u8 (rd l0 1), .int .u8 (rd l0 2), .int .u8 (rd l0 3), .int .u8 (rd l0 4), .int .u8 (rd l0 5), .int .u8 0, .int .u8 0, .int .u8 0, .int .u8 0, .int .u8 0, .int .u8 0, .int .u16 0, .slice none 0 0]) (blk_put (cs' := #[.int .u8 (rd l0 0), .int .u8 (rd l0 1), .int .u8 (rd l0 2), .int .u8 (rd l0 3), .int .u8 (rd l0 4), .int .u8 0, .int .u8 0, .int .u8 0, .int .u8 0, .int .u8 0, .int .u8 0, .int .u8 0, .int .u16 0, .slice none 0 0]) (blk_put (cs' := #[.int .u8 (rd l0 0), .int .u8 (rd l0 1), .int .u8 (rd l0 2), .int .u8 (rd l0 3), .int .u8 0, .int .u8 0, .int .u8 0, .int .u8 0, .int .u8 0, .int .u8 0, .int .u8 0, .int .u8 0, .int .u16 0, .slice none 0 0]) (blk_put (cs' := #[.int .u8 (rd l0 0), .int .u8 (rd l0 1), .int .u8 (rd l0 2), .int .u8 0, .int .u8 0, .int .u8 0, .int .u8 0, .int .u8 0, .int .u8 0, .int .u8 0, .int .u8 0, .int .u8 0, .int .u16 0, .slice none 0 0]) (blk_put (cs' := #[.int .u8 (rd l0 0), .int .u8 (rd l0 1), .int .u8 0, .int .u8 0, .int .u8 0, .int .u8 0, .int .u8 0, .int .u8 0, .int .u8 0, .int .u8 0, .int .u8 0, .int .u8 0, .int .u16 0, .slice none 0 0]) (blk_put (cs' := #[.int .u8 (rd l0 0), .int .u8 0, .int .u8 0, .int .u8 0, .int .u8 0, .int .u8 0, .int .u8 0, .int .u8 0, .int .u8 0, .int .u8 0, .int .u8 0, .int .u8 0, .int .u16 0, .slice none 0 0]) HP.out 0 (.int .u8 (rd l0 0)) rfl) 1 (.int .u8 (rd l0 1)) rfl) 2 (.int .u8 (rd l0 2)) rfl) 3 (.int .u8 (rd l0 3)) rfl) 4 (.int .u8 (rd l0 4)) rfl) 5 (.int .u8 (rd l0 5)) rfl) 6 (.int .u8 (rd l0 6)) rfl) 7 (.int .u8 (rd l0 7)) rfl) (by decide) 8 (.int .u8 (rd l0 8))) (blk_put (cs' := #[.int .u8 (rd l0 0), .int .u8 (rd l0 1), .int .u8 (rd l0 2), .int .u8 (rd l0 3), .int .u8 (rd l0 4), .int .u8 (rd l0 5), .int .u8 (rd l0 6), .int .u8 (rd l0 7), .int .u8 (rd l0 8), .int .u8 0, .int .u8 0, .int .u8 0, .int .u16 0, .slice none 0 0]) (blk_put (cs' := #[.int .u8 (rd l0 0), .int .u8 (rd l0 1), .int .u8 (rd l0 2), .int .u8 (rd l0 3), .int .u8 (rd l0 4), .int .u8 (rd l0 5), .int .u8 (rd l0 6), .int .u8 (rd l0 7), .int .u8 0, .int .u8 0, .int .u8 0, .int .u8 0, .int .u16 0, .slice none 0 0]) (blk_put (cs' := #[.int .u8 (rd l0 0), .int .u8 (rd l0 1), .int .u8 (rd l0 2), .int .u8 (rd l0 3), .int .u8 (rd l0 4), .int .u8 (rd l0 5), .int .u8 (rd l0 6), .int .u8 0, .int .u8 0, .int .u8 0, .int .u8 0, .int .u8 0, .int .u16 0, .slice none 0 0]) (blk_put (cs' := #[.int .u8 (rd l0 0), .int .u8 (rd l0 1), .int .u8 (rd l0 2), .int .u8 (rd l0 3), .int .u8 (rd l0 4), .int .u8 (rd l0 5), .int .u8 0, .int .u8 0, .int .u8 0, .int .u8 0, .int .u8 0, .int .u8 0, .int .u16 0, .slice none 0 0]) (blk_put (cs' := #[.int .u8 (rd l0 0), .int .u8 (rd l0 1), .int .u8 (rd l0 2), .int .u8 (rd l0 3), .int .u8 (rd l0 4), .int .u8 0, .int .u8 0, .int .u8 0, .int .u8 0, .int .u8 0, .int .u8 0, .int .u8 0, .int .u16 0, .slice none 0 0]) (blk_put (cs' := #[.int .u8 (rd l0 0), .int .u8 (rd l0 1), .int .u8 (rd l0 2), .int .u8 (rd l0 3), .int .u8 0, .int .u8 0, .int .u8 0, .int .u8 0, .int .u8 0, .int .u8 0, .int .u8 0, .int .u8 0, .int .u16 0, .slice none 0 0]) (blk_put (cs' := #[.int .u8 (rd l0 0), .int .u8 (rd l0 1), .int .u8 (rd l0 2), .int .u8 0, .int .u8 0, .int .u8 0, .int .u8 0, .int .u8 0, .int .u8 0, .int .u8 0, .int .u8 0, .int .u8 0, .int .u16 0, .slice none 0 0]) (blk_put (cs' := #[.int .u8 (rd l0 0), .int .u8 (rd l0 1), .int .u8 0, .int .u8 0, .int .u8 0, .int .u8 0, .int .u8 0, .int .u8 0, .int .u8 0, .int .u8 0, .int .u8 0, .int .u8 0, .int .u16 0, .slice none 0 0]) (blk_put (cs' := #[.int .u8 (rd l0 0), .int .u8 0, .int .u8 0, .int .u8 0, .int .u8 0, .int .u8 0, .int .u8 0, .int .u8 0, .int .u8 0, .int .u8 0, .int .u8 0, .int .u8 0, .int .u16 0, .slice none 0 0]) HP.out 0 (.int .u8 (rd l0 0)) rfl) 1 (.int .u8 (rd l0 1)) rfl) 2 (.int .u8 (rd l0 2)) rfl) 3 (.int .u8 (rd l0 3)) rfl) 4 (.int .u8 (rd l0 4)) rfl) 5 (.int .u8 (rd l0 5)) rfl) 6 (.int .u8 (rd l0 6)) rfl) 7 (.int .u8 (rd l0 7)) rfl) 8 (.int .u8 (rd l0 8)) rfl) (by decide) 9 (.int .u8 (rd l0 9))) (blk_put (cs' := #[.int .u8 (rd l0 0), .int .u8 (rd l0 1), .int .u8 (rd l0 2), .int .u8 (rd l0 3), .int .u8 (rd l0 4), .int .u8 (rd l0 5), .int .u8 (rd l0 6), .int .u8 (rd l0 7), .int .u8 (rd l0 8), .int .u8 (rd l0 9), .int .u8 0, .int .u8 0, .int .u16 0, .slice none 0 0]) (blk_put (cs' := #[.int .u8 (rd l0 0), .int .u8 (rd l0 1), .int .u8 (rd l0 2), .int .u8 (rd l0 3), .int .u8 (rd l0 4), .int .u8 (rd l0 5), .int .u8 (rd l0 6), .int .u8 (rd l0 7), .int .u8 (rd l0 8), .int .u8 0, .int .u8 0, .int .u8 0, .int .u16 0, .slice none 0 0]) (blk_put (cs' := #[.int .u8 (rd l0 0), .int .u8 (rd l0 1), .int .u8 (rd l0 2), .int .u8 (rd l0 3), .int .u8 (rd l0 4), .int .u8 (rd l0 5), .int .u8 (rd l0 6), .int .u8 (rd l0 7), .int .u8 0, .int .u8 0, .int .u8 0, .int .u8 0, .int .u16 0, .slice none 0 0]) (blk_put (cs' := #[.int .u8 (rd l0 0), .int .u8 (rd l0 1), .int .u8 (rd l0 2), .int .u8 (rd l0 3), .int .u8 (rd l0 4), .int .u8 (rd l0 5), .int .u8 (rd l0 6), .int .u8 0, .int .u8 0, .int .u8 0, .int .u8 0, .int .u8 0, .int .u16 0, .slice none 0 0]) (blk_put (cs' := #[.int .u8 (rd l0 0), .int .u8 (rd l0 1), .int .u8 (rd l0 2), .int .u8 (rd l0 3), .int .u8 (rd l0 4), .int .u8 (rd l0 5), .int .u8 0, .int .u8 0, .int .u8 0, .int .u8 0, .int .u8 0, .int .u8 0, .int .u16 0, .slice none 0 0]) (blk_put (cs' := #[.int .u8 (rd l0 0), .int .u8 (rd l0 1), .int .u8 (rd l0 2), .int .u8 (rd l0 3), .int .u8 (rd l0 4), .int .u8 0, .int .u8 0, .int .u8 0, .int .u8 0, .int .u8 0, .int .u8 0, .int .u8 0, .int .u16 0, .slice none 0 0]) (blk_put (cs' := #[.int .u8 (rd l0 0), .int .u8 (rd l0 1), .int .u8 (rd l0 2), .int .u8 (rd l0 3), .int .u8 0, .int .u8 0, .int .u8 0, .int .u8 0, .int .u8 0, .int .u8 0, .int .u8 0, .int .u8 0, .int .u16 0, .slice none 0 0]) (blk_put (cs' := #[.int .u8 (rd l0 0), .int .u8 (rd l0 1), .int .u8 (rd l0 2), .int .u8 0, .int .u8 0, .int .u8 0, .int .u8 0, .int .u8 0, .int .u8 0, .int .u8 0, .int .u8 0, .int .u8 0, .int .u16 0, .slice none 0 0]) (blk_put (cs' := #[.int .u8 (rd l0 0), .int .u8 (rd l0 1), .int .u8 0, .int .u8 0, .int .u8 0, .int .u8 0, .int .u8 0, .int .u8 0, .int .u8 0, .int .u8 0, .int .u8 0, .int .u8 0, .int .u16 0, .slice none 0 0]) (blk_put (cs' := #[.int .u8 (rd l0 0), .int .u8 0, .int .u8 0, .int .u8 0, .int .u8 0, .int .u8 0, .int .u8 0, .int .u8 0, .int .u8 0, .int .u8 0, .int .u8 0, .int .u8 0, .int .u16 0, .slice none 0 0]) HP.out 0 (.int .u8 (rd l0 0)) rfl) 1 (.int .u8 (rd l0 1)) rfl) 2 (.int .u8 (rd l0 2)) rfl) 3 (.int .u8 (rd l0 3)) rfl) 4 (.int .u8 (rd l0 4)) rfl) 5 (.int .u8 (rd l0 5)) rfl) 6 (.int .u8 (rd l0 6)) rfl) 7 (.int .u8 (rd l0 7)) rfl) 8 (.int .u8 (rd l0 8)) rfl) 9 (.int .u8 (rd l0 9)) rfl) (by decide) 10 (.int .u8 (rd l0 10))) (blk_put (cs' := #[.int .u8 (rd l0 0), .int .u8 (rd l0 1), .int .u8 (rd l0 2), .int .u8 (rd l0 3), .int .u8 (rd l0 4), .int .u8 (rd l0 5), .int .u8 (rd l0 6), .int .u8 (rd l0 7), .int .u8 (rd l0 8), .int .u8 (rd l0 9), .int .u8 (rd l0 10), .int .u8 0, .int .u16 0, .slice none 0 0]) (blk_put (cs' := #[.int .u8 (rd l0 0), .int .u8 (rd l0 1), .int .u8 (rd l0 2), .int .u8 (rd l0 3), .int .u8 (rd l0 4), .int .u8 (rd l0 5), .int .u8 (rd l0 6), .int .u8 (rd l0 7), .int .u8 (rd l0 8), .int .u8 (rd l0 9), .int .u8 0, .int .u8 0, .int .u16 0, .slice none 0 0]) (blk_put (cs' := #[.int .u8 (rd l0 0), .int .u8 (rd l0 1), .int .u8 (rd l0 2), .int .u8 (rd l0 3), .int .u8 (rd l0 4), .int .u8 (rd l0 5), .int .u8 (rd l0 6), .int .u8 (rd l0 7), .int .u8 (rd l0 8), .int .u8 0, .int .u8 0, .int .u8 0, .int .u16 0, .slice none 0 0]) (blk_put (cs' := #[.int .u8 (rd l0 0), .int .u8 (rd l0 1), .int .u8 (rd l0 2), .int .u8 (rd l0 3), .int .u8 (rd l0 4), .int .u8 (rd l0 5), .int .u8 (rd l0 6), .int .u8 (rd l0 7), .int .u8 0, .int .u8 0, .int .u8 0, .int .u8 0, .int .u16 0, .slice none 0 0]) (blk_put (cs' := #[.int .u8 (rd l0 0), .int .u8 (rd l0 1), .int .u8 (rd l0 2), .int .u8 (rd l0 3), .int .u8 (rd l0 4), .int .u8 (rd l0 5), .int .u8 (rd l0 6), .int .u8 0, .int .u8 0, .int .u8 0, .int .u8 0, .int .u8 0, .int .u16 0, .slice none 0 0]) (blk_put (cs' := #[.int .u8 (rd l0 0), .int .u8 (rd l0 1), .int .u8 (rd l0 2), .int .u8 (rd l0 3), .int .u8 (rd l0 4), .int .u8 (rd l0 5), .int .u8 0, .int .u8 0, .int .u8 0, .int .u8 0, .int .u8 0, .int .u8 0, .int .u16 0, .slice none 0 0]) (blk_put (cs' := #[.int .u8 (rd l0 0), .int .u8 (rd l0 1), .int .u8 (rd l0 2), .int .u8 (rd l0 3), .int .u8 (rd l0 4), .int .u8 0, .int .u8 0, .int .u8 0, .int .u8 0, .int .u8 0, .int .u8 0, .int .u8 0, .int .u16 0, .slice none 0 0]) (blk_put (cs' := #[.int .u8 (rd l0 0), .int .u8 (rd l0 1), .int .u8 (rd l0 2), .int .u8 (rd l0 3), .int .u8 0, .int .u8 0, .int .u8 0, .int .u8 0, .int .u8 0, .int .u8 0, .int .u8 0, .int .u8 0, .int .u16 0, .slice none 0 0]) (blk_put (cs' := #[.int .u8 (rd l0 0), .int .u8 (rd l0 1), .int .u8 (rd l0 2), .int .u8 0, .int .u8 0, .int .u8 0, .int .u8 0, .int .u8 0, .int .u8 0, .int .u8 0, .int .u8 0, .int .u8 0, .int .u16 0, .slice none 0 0]) (blk_put (cs' := #[.int .u8 (rd l0 0), .int .u8 (rd l0 1), .int .u8 0, .int .u8 0, .int .u8 0, .int .u8 0, .int .u8 0, .int .u8 0, .int .u8 0, .int .u8 0, .int .u8 0, .int .u8 0, .int .u16 0, .slice none 0 0]) (blk_put (cs' := #[.int .u8 (rd l0 0), .int .u8 0, .int .u8 0, .int .u8 0, .int .u8 0, .int .u8 0, .int .u8 0, .int .u8 0, .int .u8 0, .int .u8 0, .int .u8 0, .int .u8 0, .int .u16 0, .slice none 0 0]) HP.out 0 (.int .u8 (rd l0 0)) rfl) 1 (.int .u8 (rd l0 1)) rfl) 2 (.int .u8 (rd l0 2)) rfl) 3 (.int .u8 (rd l0 3)) rfl) 4 (.int .u8 (rd l0 4)) rfl) 5 (.int .u8 (rd l0 5)) rfl) 6 (.int .u8 (rd l0 6)) rfl) 7 (.int .u8 (rd l0 7)) rfl) 8 (.int .u8 (rd l0 8)) rfl) 9 (.int .u8 (rd l0 9)) rfl) 10 (.int .u8 (rd l0 10)) rfl) (by decide) 11 (.int .u8 (rd l0 11))) (blk_put (cs' := #[.int .u8 (rd l0 0), .int .u8 (rd l0 1), .int .u8 (rd l0 2), .int .u8 (rd l0 3), .int .u8 (rd l0 4), .int .u8 (rd l0 5), .int .u8 (rd l0 6), .int .u8 (rd l0 7), .int .u8 (rd l0 8), .int .u8 (rd l0 9), .int .u8 (rd l0 10), .int .u8 (rd l0 11), .int .u16 0, .slice none 0 0]) (blk_put (cs' := #[.int .u8 (rd l0 0), .int .u8 (rd l0 1), .int .u8 (rd l0 2), .int .u8 (rd l0 3), .int .u8 (rd l0 4), .int .u8 (rd l0 5), .int .u8 (rd l0 6), .int .u8 (rd l0 7), .int .u8 (rd l0 8), .int .u8 (rd l0 9), .int .u8 (rd l0 10), .int .u8 0, .int .u16 0, .slice none 0 0]) (blk_put (cs' := #[.int .u8 (rd l0 0), .int .u8 (rd l0 1), .int .u8 (rd l0 2), .int .u8 (rd l0 3), .int .u8 (rd l0 4), .int .u8 (rd l0 5), .int .u8 (rd l0 6), .int .u8 (rd l0 7), .int .u8 (rd l0 8), .int .u8 (rd l0 9), .int .u8 0, .int .u8 0, .int .u16 0, .slice none 0 0]) (blk_put (cs' := #[.int .u8 (rd l0 0), .int .u8 (rd l0 1), .int .u8 (rd l0 2), .int .u8 (rd l0 3), .int .u8 (rd l0 4), .int .u8 (rd l0 5), .int .u8 (rd l0 6), .int .u8 (rd l0 7), .int .u8 (rd l0 8), .int .u8 0, .int .u8 0, .int .u8 0, .int .u16 0, .slice none 0 0]) (blk_put (cs' := #[.int .u8 (rd l0 0), .int .u8 (rd l0 1), .int .u8 (rd l0 2), .int .u8 (rd l0 3), .int .u8 (rd l0 4), .int .u8 (rd l0 5), .int .u8 (rd l0 6), .int .u8 (rd l0 7), .int .u8 0, .int .u8 0, .int .u8 0, .int .u8 0, .int .u16 0, .slice none 0 0]) (blk_put (cs' := #[.int .u8 (rd l0 0), .int .u8 (rd l0 1), .int .u8 (rd l0 2), .int .u8 (rd l0 3), .int .u8 (rd l0 4), .int .u8 (rd l0 5), .int .u8 (rd l0 6), .int .u8 0, .int .u8 0, .int .u8 0, .int .u8 0, .int .u8 0, .int .u16 0, .slice none 0 0]) (blk_put (cs' := #[.int .u8 (rd l0 0), .int .u8 (rd l0 1), .int .u8 (rd l0 2), .int .u8 (rd l0 3), .int .u8 (rd l0 4), .int .u8 (rd l0 5), .int .u8 0, .int .u8 0, .int .u8 0, .int .u8 0, .int .u8 0, .int .u8 0, .int .u16 0, .slice none 0 0]) (blk_put (cs' := #[.int .u8 (rd l0 0), .int .u8 (rd l0 1), .int .u8 (rd l0 2), .int .u8 (rd l0 3), .int .u8 (rd l0 4), .int .u8 0, .int .u8 0, .int .u8 0, .int .u8 0, .int .u8 0, .int .u8 0, .int .u8 0, .int .u16 0, .slice none 0 0]) (blk_put (cs' := #[.int .u8 (rd l0 0), .int .u8 (rd l0 1), .int .u8 (rd l0 2), .int .u8 (rd l0 3), .int .u8 0, .int .u8 0, .int .u8 0, .int .u8 0, .int .u8 0, .int .u8 0, .int .u8 0, .int .u8 0, .int .u16 0, .slice none 0 0]) (blk_put (cs' := #[.int .u8 (rd l0 0), .int .u8 (rd l0 1), .int .u8 (rd l0 2), .int .u8 0, .int .u8 0, .int .u8 0, .int .u8 0, .int .u8 0, .int .u8 0, .int .u8 0, .int .u8 0, .int .u8 0, .int .u16 0, .slice none 0 0]) (blk_put (cs' := #[.int .u8 (rd l0 0), .int .u8 (rd l0 1), .int .u8 0, .int .u8 0, .int .u8 0, .int .u8 0, .int .u8 0, .int .u8 0, .int .u8 0, .int .u8 0, .int .u8 0, .int .u8 0, .int .u16 0, .slice none 0 0]) (blk_put (cs' := #[.int .u8 (rd l0 0), .int .u8 0, .int .u8 0, .int .u8 0, .int .u8 0, .int .u8 0, .int .u8 0, .int .u8 0, .int .u8 0, .int .u8 0, .int .u8 0, .int .u8 0, .int .u16 0, .slice none 0 0]) HP.out 0 (.int .u8 (rd l0 0)) rfl) 1 (.int .u8 (rd l0 1)) rfl) 2 (.int .u8 (rd l0 2)) rfl) 3 (.int .u8 (rd l0 3)) rfl) 4 (.int .u8 (rd l0 4)) rfl) 5 (.int .u8 (rd l0 5)) rfl) 6 (.int .u8 (rd l0 6)) rfl) 7 (.int .u8 (rd l0 7)) rfl) 8 (.int .u8 (rd l0 8)) rfl) 9 (.int .u8 (rd l0 9)) rfl) 10 (.int .u8 (rd l0 10)) rfl) 11 (.int .u8 (rd l0 11)) rfl) (by decide) 12 (.int .u16 (Go.bits .or .u16 (IntKind.u16.wrap ((IntKind.u16.wrap (rd l0 12)) * 256)) (IntKind.u16.wrap (rd l0 13))))) (blk_put (cs' := #[.int .u8 (rd l0 0), .int .u8 (rd l0 1), .int .u8 (rd l0 2), .int .u8 (rd l0 3), .int .u8 (rd l0 4), .int .u8 (rd l0 5), .int .u8 (rd l0 6), .int .u8 (rd l0 7), .int .u8 (rd l0 8), .int .u8 (rd l0 9), .int .u8 (rd l0 10), .int .u8 (rd l0 11), .int .u16 (Go.bits .or .u16 (IntKind.u16.wrap ((IntKind.u16.wrap (rd l0 12)) * 256)) (IntKind.u16.wrap (rd l0 13))), .slice none 0 0]) (blk_put (cs' := #[.int .u8 (rd l0 0), .int .u8 (rd l0 1), .int .u8 (rd l0 2), .int .u8 (rd l0 3), .int .u8 (rd l0 4), .int .u8 (rd l0 5), .int .u8 (rd l0 6), .int .u8 (rd l0 7), .int .u8 (rd l0 8), .int .u8 (rd l0 9), .int .u8 (rd l0 10), .int .u8 (rd l0 11), .int .u16 0, .slice none 0 0]) (blk_put (cs' := #[.int .u8 (rd l0 0), .int .u8 (rd l0 1), .int .u8 (rd l0 2), .int .u8 (rd l0 3), .int .u8 (rd l0 4), .int .u8 (rd l0 5), .int .u8 (rd l0 6), .int .u8 (rd l0 7), .int .u8 (rd l0 8), .int .u8 (rd l0 9), .int .u8 (rd l0 10), .int .u8 0, .int .u16 0, .slice none 0 0]) (blk_put (cs' := #[.int .u8 (rd l0 0), .int .u8 (rd l0 1), .int .u8 (rd l0 2), .int .u8 (rd l0 3), .int .u8 (rd l0 4), .int .u8 (rd l0 5), .int .u8 (rd l0 6), .int .u8 (rd l0 7), .int .u8 (rd l0 8), .int .u8 (rd l0 9), .int .u8 0, .int .u8 0, .int .u16 0, .slice none 0 0]) (blk_put (cs' := #[.int .u8 (rd l0 0), .int .u8 (rd l0 1), .int .u8 (rd l0 2), .int .u8 (rd l0 3), .int .u8 (rd l0 4), .int .u8 (rd l0 5), .int .u8 (rd l0 6), .int .u8 (rd l0 7), .int .u8 (rd l0 8), .int .u8 0, .int .u8 0, .int .u8 0, .int .u16 0, .slice none 0 0]) (blk_put (cs' := #[.int .u8 (rd l0 0), .int .u8 (rd l0 1), .int .u8 (rd l0 2), .int .u8 (rd l0 3), .int .u8 (rd l0 4), .int .u8 (rd l0 5), .int .u8 (rd l0 6), .int .u8 (rd l0 7), .int .u8 0, .int .u8 0, .int .u8 0, .int .u8 0, .int .u16 0, .slice none 0 0]) (blk_put (cs' := #[.int .u8 (rd l0 0), .int .u8 (rd l0 1), .int .u8 (rd l0 2), .int .u8 (rd l0 3), .int .u8 (rd l0 4), .int .u8 (rd l0 5), .int .u8 (rd l0 6), .int .u8 0, .int .u8 0, .int .u8 0, .int .u8 0, .int .u8 0, .int .u16 0, .slice none 0 0]) (blk_put (cs' := #[.int .u8 (rd l0 0), .int .u8 (rd l0 1), .int .u8 (rd l0 2), .int .u8 (rd l0 3), .int .u8 (rd l0 4), .int .u8 (rd l0 5), .int .u8 0, .int .u8 0, .int .u8 0, .int .u8 0, .int .u8 0, .int .u8 0, .int .u16 0, .slice none 0 0]) (blk_put (cs' := #[.int .u8 (rd l0 0), .int .u8 (rd l0 1), .int .u8 (rd l0 2), .int .u8 (rd l0 3), .int .u8 (rd l0 4), .int .u8 0, .int .u8 0, .int .u8 0, .int .u8 0, .int .u8 0, .int .u8 0, .int .u8 0, .int .u16 0, .slice none 0 0]) (blk_put (cs' := #[.int .u8 (rd l0 0), .int .u8 (rd l0 1), .int .u8 (rd l0 2), .int .u8 (rd l0 3), .int .u8 0, .int .u8 0, .int .u8 0, .int .u8 0, .int .u8 0, .int .u8 0, .int .u8 0, .int .u8 0, .int .u16 0, .slice none 0 0]) (blk_put (cs' := #[.int .u8 (rd l0 0), .int .u8 (rd l0 1), .int .u8 (rd l0 2), .int .u8 0, .int .u8 0, .int .u8 0, .int .u8 0, .int .u8 0, .int .u8 0, .int .u8 0, .int .u8 0, .int .u8 0, .int .u16 0, .slice none 0 0]) (blk_put (cs' := #[.int .u8 (rd l0 0), .int .u8 (rd l0 1), .int .u8 0, .int .u8 0, .int .u8 0, .int .u8 0, .int .u8 0, .int .u8 0, .int .u8 0, .int .u8 0, .int .u8 0, .int .u8 0, .int .u16 0, .slice none 0 0]) (blk_put (cs' := #[.int .u8 (rd l0 0), .int .u8 0, .int .u8 0, .int .u8 0, .int .u8 0, .int .u8 0, .int .u8 0, .int .u8 0, .int .u8 0, .int .u8 0, .int .u8 0, .int .u8 0, .int .u16 0, .slice none 0 0]) HP.out 0 (.int .u8 (rd l0 0)) rfl) 1 (.int .u8 (rd l0 1)) rfl) 2 (.int .u8 (rd l0 2)) rfl) 3 (.int .u8 (rd l0 3)) rfl) 4 (.int .u8 (rd l0 4)) rfl) 5 (.int .u8 (rd l0 5)) rfl) 6 (.int .u8 (rd l0 6)) rfl) 7 (.int .u8 (rd l0 7)) rfl) 8 (.int .u8 (rd l0 8)) rfl) 9 (.int .u8 (rd l0 9)) rfl) 10 (.int .u8 (rd l0 10)) rfl) 11 (.int .u8 (rd l0 11)) rfl) 12 (.int .u16 (Go.bits .or .u16 (IntKind.u16.wrap ((IntKind.u16.wrap (rd l0 12)) * 256)) (IntKind.u16.wrap (rd l0 13)))) rfl) (by decide) 13 (.slice Bo b.length co))
      clear hs0 hfs0 hs1 hfs1 hs2 hfs2 hs3 hfs3 hs4 hfs4 hs5 hfs5 hs6 hfs6 hs7 hfs7 hs8 hfs8 hs9 hfs9 hs10 hfs10 hs11 hfs11 hs12 hfs12 hs13 hfs13
      generalize ((((((((((((((w3.setCell ⟨gp, 0, none⟩ (.int .u8 (rd l0 0))).setCell ⟨gp, 1, none⟩ (.int .u8 (rd l0 1))).setCell ⟨gp, 2, none⟩ (.int .u8 (rd l0 2))).setCell ⟨gp, 3, none⟩ (.int .u8 (rd l0 3))).setCell ⟨gp, 4, none⟩ (.int .u8 (rd l0 4))).setCell ⟨gp, 5, none⟩ (.int .u8 (rd l0 5))).setCell ⟨gp, 6, none⟩ (.int .u8 (rd l0 6))).setCell ⟨gp, 7, none⟩ (.int .u8 (rd l0 7))).setCell ⟨gp, 8, none⟩ (.int .u8 (rd l0 8))).setCell ⟨gp, 9, none⟩ (.int .u8 (rd l0 9))).setCell ⟨gp, 10, none⟩ (.int .u8 (rd l0 10))).setCell ⟨gp, 11, none⟩ (.int .u8 (rd l0 11))).setCell ⟨gp, 12, none⟩ (.int .u16 (Go.bits .or .u16 (IntKind.u16.wrap ((IntKind.u16.wrap (rd l0 12)) * 256)) (IntKind.u16.wrap (rd l0 13))))).setCell ⟨gp, 13, none⟩ (.slice Bo b.length co)) = wd at HF f2 f3 f4 ⊢
      have HNE : ad.block ≠ gp := Nat.ne_of_lt (Nat.lt_of_lt_of_le HLT GP.out)
      have hH2 := hHeld
      obtain ⟨s0, s1, s2, s3, s4, s5, s6, s7, s8, s9, s10, s11, s12, s13⟩ := hH2
      refine hK.out _ _ ⟨(HF.out ad HNE).trans s0, (HF.out ⟨ad.block, ad.off + 1, none⟩ HNE).trans s1, (HF.out ⟨ad.block, ad.off + 2, none⟩ HNE).trans s2, (HF.out ⟨ad.block, ad.off + 3, none⟩ HNE).trans s3, (HF.out ⟨ad.block, ad.off + 4, none⟩ HNE).trans s4, (HF.out ⟨ad.block, ad.off + 5, none⟩ HNE).trans s5, (HF.out ⟨ad.block, ad.off + 6, none⟩ HNE).trans s6, (HF.out ⟨ad.block, ad.off + 7, none⟩ HNE).trans s7, (HF.out ⟨ad.block, ad.off + 8, none⟩ HNE).trans s8, (HF.out ⟨ad.block, ad.off + 9, none⟩ HNE).trans s9, (HF.out ⟨ad.block, ad.off + 10, none⟩ HNE).trans s10, (HF.out ⟨ad.block, ad.off + 11, none⟩ HNE).trans s11, (HF.out ⟨ad.block, ad.off + 12, none⟩ HNE).trans s12, (HF.out ⟨ad.block, ad.off + 13, none⟩ HNE).trans s13⟩ (fun hHeld => ?_)
      clear hK K s0 s1 s2 s3 s4 s5 s6 s7 s8 s9 s10 s11 s12 s13
      refine pure_ (i := 23) (N := some 3) (v := ?_) (a' := ?_) #[true, true, true, true, true, true, true, true, true, true, true, true, true, true, true, true, true, true, true, true, true, true, true, true] rfl rfl (any_of HT_.out (by kernel_rfl)) (fun _ _ _ h => h) (Or.inl ⟨by rfl, ?_⟩) ?_ ?_
      rotate_left
      · intro w'
        go_simp
        with_reducible rfl
      rotate_left
      · simp only [Act.put, List.setIfInBounds_toArray, List.set_cons_zero, List.set_cons_succ, i64_w, i32_w]
        rfl
      refine done_ (done_of HT_.out (by kernel_rfl)) ?_
      (try simp only [Exit.inBlock, Exit.then])
      try go_wp2
      (try simp only [Exit.inBlock, Exit.then])
      refine bodyPost_ret (results_ct rfl _ _ gp 28 #[.int .u8 (rd l0 0), .int .u8 (rd l0 1), .int .u8 (rd l0 2), .int .u8 (rd l0 3), .int .u8 (rd l0 4), .int .u8 (rd l0 5), .int .u8 (rd l0 6), .int .u8 (rd l0 7), .int .u8 (rd l0 8), .int .u8 (rd l0 9), .int .u8 (rd l0 10), .int .u8 (rd l0 11), .int .u16 (Go.bits .or .u16 (IntKind.u16.wrap ((IntKind.u16.wrap (rd l0 12)) * 256)) (IntKind.u16.wrap (rd l0 13))), .slice Bo b.length co] (0, 0) _ rfl f2.out Try.underlying28 rfl (by kernel_rfl)) rfl ?_
      exact ⟨_, rfl, f4.out, f3.out⟩

end Go.Proofs.Ytnfgmcjgmccggaa.PA
