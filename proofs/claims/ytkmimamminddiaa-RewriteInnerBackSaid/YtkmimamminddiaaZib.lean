/- Texts of this claim, merged: Sq, RwLib, PBx0, RwM, Sz, PBx11, PBx50, RwTp, PBx17, PBx18, PBx51, RwOf, PBx8, PBx13, PBx14, PBx15, PBx6, PBx19, PBx20, PBx42, PBx2, PBx43, PBx44, PBx45, PBx46, PBx47, PBx48, PBx49. -/
import Derived.Test.YtkmimamminddiaaZia
import Derived.KernelRfl
import Derived.Test.YtkmimamminddiaaProg
import Derived.Below
import Derived.Deep.Draws
import Derived.Deep.AppendLies
import Derived.Maps.AppendAt
import Derived.OwnWalk
import Derived.Laws.BytesArg
import Derived.Laws.MakeOwn
import Derived.Laws.OwnMore
import Derived.Deep.OwnRows
import Derived.Tactics
import Derived.Deep.Cut
import Derived.Deep.CutRange
import Derived.Deep.CutBlock
import Derived.Deep.WholeRow
import Derived.Deep.MidRow
import Derived.Lib.ConvBytes
import Derived.Laws.Slices
import Derived.WalkKit
import Derived.RowKit3
import Derived.Deep.LoopGhost
import Derived.Deep.QuietTactic
import Derived.BigQuiet
import Derived.WideLaws
import Derived.Deep.DeepCutAuto
import Derived.Deep.RegionHeld3
import Derived.Laws.Rows
import Derived.Lib.AppendStr
import Derived.ArgAppend
import Derived.Laws.IdiomCopy
import Derived.OrdersHeld
import Derived.Laws.BitsLemmas
import Derived.RowKit
import Derived.Defers
import Derived.Recover
import Derived.ChangeKeysEq
set_option maxHeartbeats 40000000
set_option maxRecDepth 100000
set_option linter.unusedVariables false
set_option linter.unusedSimpArgs false
namespace Go.Proofs.YtkmimamminddiaaW.PrintLast
open Go.RowKit Go.Proofs.YtkmimamminddiaaW.PrintWords
theorem put_l (t : List Value) (d : _) (n : Tmp) (v : Value) : Act.put ⟨t.toArray, d⟩ (some n) v = ⟨(t.set n v).toArray, d⟩ := by simp [Act.put]
theorem put_n (a : Act) (v : Value) : Act.put a none v = a := rfl
theorem set_z (x y : Value) (l : List Value) : (x :: l).set 0 y = y :: l := rfl
theorem set_s (x y : Value) (l : List Value) (n : Nat) : (x :: l).set (n + 1) y = x :: l.set n y := rfl
theorem ps_ : (∀ (t : List Value) (d : _) (n : Tmp) (v : Value), Act.put ⟨t.toArray, d⟩ (some n) v = ⟨(t.set n v).toArray, d⟩) /\ (∀ (a : Act) (v : Value), Act.put a none v = a) /\ (∀ (x y : Value) (l : List Value), (x :: l).set 0 y = y :: l) /\ (∀ (x y : Value) (l : List Value) (n : Nat), (x :: l).set (n + 1) y = x :: l.set n y) /\ (∀ n : Int, IntKind.i64.wrap n = wrap64 n) /\ (∀ n : Int, IntKind.i32.wrap n = wrap32 n) := ⟨put_l, put_n, set_z, set_s, i64_w, i32_w⟩
section
variable {P : Program} {ops : Array Oper} {Q : Exit -> Act -> World -> Prop} {md : Region.Mode} {S : World -> Prop} {ds : List Nat} {T : Bool × List (List Nat × List Nat)} {B : List Nat} {l : Array Bool} {N : Option Tmp} {oi : Oper} {v : Value} {fuel : Nat} {a a' : Act} {w : World}
theorem gz (i : Nat) (hT : Aside0 (rtab md ops = T)) (hr : Yields P ops oi v a) (hi : ops[i]? = some oi := by rfl) (hN : oi.dst = N := by rfl) (hc : anyT T l.toList (l.setIfInBounds i true).toList i = true := by kernel_rfl) (hQ : ∀ c a w, Q (.panic c) (a.put oi.dst v) w -> Q (.panic c) a w := by exact fun _ _ _ h => h)
  (ha : a.put N v = a' := by (simp only [ps_]; rfl)) (h : wpAnyLast P md ops Q S ds fuel (l.setIfInBounds i true) a' w) : wpAnyLast P md ops Q S ds (fuel + 1) l a w :=
 pure_ (l.setIfInBounds i true) hi hN (any_of hT.out hc) hQ hr ha h
theorem pz (i n : Nat) (hT : Aside0 (rtab md ops = T)) (h : wpAnyLast P md ops Q S ds fuel (l.setIfInBounds i true) a' w) (hi : ops[i]? = some oi := by rfl) (hN : oi.dst = some n := by rfl) (hc : anyT T l.toList (l.setIfInBounds i true).toList i = true := by kernel_rfl) (hQ : ∀ c a w, Q (.panic c) (a.put oi.dst v) w -> Q (.panic c) a w := by exact fun _ _ _ h => h)
  (hw : Region.wanted oi (yielded ops a.tmps) = true := by rfl) (hr : ∀ w', (execOp a.eval oi).run P w' = .ok (.value v) w' := by (intro w'; go_simp; with_reducible rfl)) (ha : a.put (some n) v = a' := by (simp only [ps_]; rfl)) : wpAnyLast P md ops Q S ds (fuel + 1) l a w :=
 pure_ (l.setIfInBounds i true) hi hN (any_of hT.out hc) hQ (Or.inl ⟨hw, hr⟩) ha h
theorem tz (i n : Nat) (hT : Aside0 (rtab md ops = T)) (hB : Aside0 (waitsOk T.2 B = true)) (hS : S w) (h : wpAnyLast P md ops Q S ds fuel (l.setIfInBounds i true) a' w) (hi : ops[i]? = some oi := by rfl) (hN : oi.dst = some n := by rfl) (hc : takeW T B ds l.toList (l.setIfInBounds i true).toList i = true := by kernel_rfl) (hQ : ∀ c a w, Q (.panic c) (a.put oi.dst v) w -> Q (.panic c) a w := by exact fun _ _ _ h => h)
  (hw : Region.wanted oi (yielded ops a.tmps) = true := by rfl) (hr : ∀ w', S w' -> (execOp a.eval oi).run P w' = .ok (.value v) w' := by (intro w' s0; go_simp; with_reducible rfl)) (ha : a.put (some n) v = a' := by (simp only [ps_]; rfl)) : wpAnyLast P md ops Q S ds (fuel + 1) l a w :=
 take_ (l.setIfInBounds i true) hi hN (take_ofW hT.out hB.out hc) hQ (Or.inl ⟨hw, hr⟩) hS ha h
theorem oz (i : Nat) (N : Option Tmp) (hT : Aside0 (rtab md ops = T)) (h : ∀ K : Act -> World -> Prop, Shut (∀ a' w', S w' -> (S w' -> wpAnyLast P md ops Q S ds fuel (l.setIfInBounds i true) a' w') -> K a' w') -> if Region.wanted oi (yielded ops a.tmps) = true then Oper.wp P oi a w K Q else K (a.put N undef) w) (hi : ops[i]? = some oi := by rfl) (hN : oi.dst = N := by rfl) (hc : (readyT T.2 l.toList == [i] && l.toList.set i true == (l.setIfInBounds i true).toList) = true := by kernel_rfl) (hd : i ∉ ds := by decide) : wpAnyLast P md ops Q S ds (fuel + 1) l a w :=
 one_ (l.setIfInBounds i true) hi hN (one_of hT.out hc) hd h
theorem nz (n : Tmp) {b : Act} (h : wpAnyLast P md ops Q S ds fuel l a' w) (ha : Act.put b (some n) v = a' := by (simp only [ps_]; rfl)) : wpAnyLast P md ops Q S ds fuel l (Act.put b (some n) v) w := norm_ ha h
theorem dz {n : Nat} (hT : Aside0 (rtab md ops = T)) (h : Q .normal a w) (hc : (readyT T.2 l.toList == []) = true := by kernel_rfl) : wpAnyLast P md ops Q S ds n l a w := done_ (done_of hT.out hc) h
end
theorem cz {w : World} {g : Nat} {cs : Array Value} {t : TypeId} {f : Nat × Nat} {v : Value} (h : w.heap[g]? = some (.cells cs t f)) (i : Nat) (e : cs[i]? = some v) : w.cell? ⟨g, i, none⟩ = some v := (cell_of_row w g i cs t f h).trans e
theorem far1 {w : World} {a : Addr} {v : Value} {g : Nat} (h : w.cell? a = some v) (hg : w.heap.size <= g) : a.block ≠ g := Nat.ne_of_lt (Nat.lt_of_lt_of_le (World.block_lt_of_cell? w a h) hg)
theorem far2 {w : World} {a : Addr} {v : Value} {g i : Nat} (h : w.cell? (a.add i) = some v) (hg : w.heap.size <= g) : a.block ≠ g := by
 have h1 := far1 h hg
 rwa [add_block] at h1
end Go.Proofs.YtkmimamminddiaaW.PrintLast
namespace Go.Proofs.Ytkmimamminddiaa.PB
open Go.RowKit Go.Proofs.YtkmimamminddiaaW.PrintWords Go.Proofs.YtkmimamminddiaaW.PrintLast Go.Proofs.YtkmimamminddiaaW.PrintMore
theorem rw_bind {α β : Type} {x : Option α} {f : α -> Option β} {r : β} (h : x.bind f = some r) : ∃ y, x = some y /\ f y = some r := by
 cases x with
 | none => cases h
 | some y => exact ⟨y, rfl, h⟩
theorem rw_blknew (w : World) (o : Obj) : (w.alloc o).heap[w.heap.size]? = some o := by simp [World.alloc, -World.alloc_eq]
structure Off (W w1 : World) (g : Nat) : Prop where
 os : w1.os = W.os
 tape : w1.tape = W.tape
 output : w1.output = W.output
 size : w1.heap.size = W.heap.size
 far : ∀ k, k ≠ g -> w1.heap[k]? = W.heap[k]?
theorem Off.setCell (W : World) (g i : Nat) (v : Value) : Off W (W.setCell ⟨g, i, none⟩ v) g := ⟨rfl, rfl, rfl, by simp [World.setCell], fun k hk => Below.heap_setCell W ⟨g, i, none⟩ v k hk⟩
theorem Off.below {W w1 w : World} {g B : Nat} (h : Off W w1 g) (hB : Below B w W) (hg : B <= g) : Below B w w1 :=
 ⟨h.os.trans hB.os, h.tape.trans hB.tape, h.output.trans hB.output, by rw [h.size]; exact hB.size, fun i hi => (h.far i (by omega)).trans (hB.block i hi)⟩
theorem Off.blk {W w1 : World} {g g' t t' : Nat} {cs ds : Array Value} {f : Nat × Nat} (h : Off W w1 g) (hx : W.heap[g']? = some (.cells cs t' f)) (hg : W.heap[g]? = some (.cells ds t (0, 0))) (ht : t' ≠ t) : w1.heap[g']? = some (.cells cs t' f) :=
 (h.far g' (fun e => by subst e; rw [hx] at hg; injection hg with hg; injection hg with h1 h2; exact ht h2)).trans hx
theorem Off.blkne {W w1 : World} {g g' : Nat} {o : Obj} (h : Off W w1 g) (hx : W.heap[g']? = some o) (hn : g' ≠ g) : w1.heap[g']? = some o := (h.far g' hn).trans hx
theorem Off.R {k : IntKind} {e : Nat} {W w1 : World} {base : Nat} {v : Value} {xs : List Int} {g t : Nat} {ds : Array Value} (h : Off W w1 g) (hr : Kd.R (Kd.int k) e W base (fun _ => True) v xs) (hg : W.heap[g]? = some (.cells ds t (0, 0))) (ht : e ≠ t) : Kd.R (Kd.int k) e w1 base (fun _ => True) v xs :=
 Kd.R_mono (Kd.R_step (Kd.R_types hr hg (fun q hq => by have e_ : q = e := (List.mem_cons.1 hq).resolve_right (fun h => nomatch h); rw [e_]; exact ht)) (fun k hk _ => h.far k hk.2)) (fun _ hk => hk.1)
section
variable {P : Program} {ops : Array Oper} {rest : List Oper} {o : Oper} {a : Act} {Q : Exit -> Act -> World -> Prop}
theorem rw_skip {W w1 : World} (hgd : o.guard = none) (hd : o.dst = none) (hrun : (execOp a.eval o).run P W = .ok .skip w1) (h : wpList P ops Q rest a w1) : wpList P ops Q (o :: rest) a W := by
 refine wpList_plain hgd fun K hK => ?_
 unfold Oper.wp; rw [hrun]; refine hK _ _ ?_; rw [hd]; exact h
theorem rw_set {W : World} {g t i : Nat} {cs cs' : Array Value} {v : Value} (hgd : o.guard = none) (hd : o.dst = none) (hb : W.heap[g]? = some (.cells cs t (0, 0))) (he : cs.setIfInBounds i v = cs') (hrun : (execOp a.eval o).run P W = .ok .skip (W.setCell ⟨g, i, none⟩ v))
  (h : ∀ w1, w1.heap[g]? = some (.cells cs' t (0, 0)) -> Off W w1 g -> wpList P ops Q rest a w1) : wpList P ops Q (o :: rest) a W :=
 rw_skip hgd hd hrun (h _ (blk_put hb i v he) (Off.setCell W g i v))
theorem rw_load {w : World} {c : Array Value} {g : Nat} {t ty : TypeId} {p : Operand} {d : TypeDesc} (ho : o.op = .load ty p) (hp : a.eval p = .pointer (some ⟨g, 0, none⟩)) (hg : w.heap[g]? = some (.cells c t (0, 0))) (hu : P.underlying ty = some d) (hd : (match d with | .struct _ | .array _ _ => true | _ => false) = true) (hi : (P.info? ty).map (·.size) = some c.size) :
  (execOp a.eval o).run P w = .ok (.value (.agg c)) w := by
 have h := run_loadVar_row (P := P) w g t ty c (0, 0) d hg hu hd hi; unfold execOp; simp only [ho, hp]
 simp [Instr.loadAt, Instr.sureAddr, h, Sem.run_bind, Result.andThen]
theorem rw_store {w : World} {old c' : Array Value} {g : Nat} {t ty : TypeId} {p x : Operand} (ho : o.op = .store ty p x) (hp : a.eval p = .pointer (some ⟨g, 0, none⟩)) (hx : a.eval x = .agg c') (hg : w.heap[g]? = some (.cells old t (0, 0))) (hi : (P.info? ty).map (·.size) = some c'.size) (hs : old.size = c'.size) (h1 : c'.all (·.oneCell') = true) :
  (execOp a.eval o).run P w = .ok .skip (w.setRow g c') := by
 have h := run_storeVar_row (P := P) w g t ty old c' hg hi hs h1; unfold execOp; simp only [ho, hp, hx]
 simp [Instr.storeAt, Instr.sureAddr, h, Sem.run_bind, Result.andThen]
theorem rw_new {w : World} {c c' : Array Value} {t : TypeId} {p x : Operand} (ho : o.op = .store t p x) (hp : a.eval p = .pointer (some ⟨w.heap.size, 0, none⟩)) (hx : a.eval x = .agg c') (hi : (P.info? t).map (·.size) = some c'.size) (hs : c.size = c'.size) (h1 : c'.all (·.oneCell') = true) :
  (execOp a.eval o).run P (w.alloc (.cells c t)) = .ok .skip (w.alloc (.cells c' t)) := by
 have h := run_storeAt_new (P := P) w t c c' hi hs h1; unfold execOp; simp only [ho, hp, hx]
 simp [h, Sem.run_bind, Result.andThen]
end
section
variable {P : Program} {ops : Array Oper} {rest : List Oper} {o : Oper} {a : Act} {Q : Exit -> Act -> World -> Prop}
theorem rw_lit {W : World} (hgd : o.guard = none) {cs : Array Value} {t : TypeId} {n : Nat} (hrun : (execOp a.eval o).run P W = .ok (.value (.slice (some ⟨W.heap.size, 0, none⟩) n n)) (W.alloc (.cells cs t)))
  (h : ∀ g, ∀ w1, w1.heap[g]? = some (.cells cs t (0, 0)) -> g = W.heap.size -> Below W.heap.size W w1 -> wpList P ops Q rest (a.put o.dst (.slice (some ⟨g, 0, none⟩) n n)) w1) : wpList P ops Q (o :: rest) a W := Kd.event_run hgd hrun (h _ _ (rw_blknew _ _) rfl (below_alloc (Below.refl _ _) _))
theorem rw_litR (k : IntKind) {w0 W : World} (base e : Nat) (hgd : o.guard = none) {N : Tmp} (hd : o.dst = some N) (xs : List Int) (hrun : (execOp a.eval o).run P W = .ok (.value (.slice (some ⟨W.heap.size, 0, none⟩) xs.length xs.length)) (W.alloc (.cells (xs.map (Value.int k)).toArray e))) (HB : Below base w0 W) (hbase : base <= W.heap.size) (hm : xs.length <= 9223372036854775807)
  (h : ∀ A c w1, Kd.R (Kd.int k) e w1 base (fun _ => True) (.slice A xs.length c) xs -> Below base w0 w1 -> W.grownBy w1 none -> wpList P ops Q rest (a.put o.dst (.slice A xs.length c)) w1) : wpList P ops Q (o :: rest) a W :=
 Kd.R_lit (Kd.int k) base e hgd hd (xs := xs) (inner := xs.map (Value.int k)) (ok := fun _ => True) (okp := fun _ => True) hrun (Kd.reps_scalar (enc := Value.int k) xs) (fun _ h => h) trivial HB hbase hm (fun v1 w1 ho hb hg _ => by
  obtain ⟨A, c, rfl⟩ := Kd.R_slice ho
  exact h A c w1 ho hb hg)
end
theorem rw_row {W : World} {g t : Nat} {c : Array Value} {f : Nat × Nat} (cs : Array Value) (h : W.heap[g]? = some (.cells c t f)) : (W.setRow g cs).heap[g]? = some (.cells cs t f) := setRow_heap W g c cs t f h
theorem Off.setRow {W : World} (g : Nat) (cs : Array Value) : Off W (W.setRow g cs) g := ⟨rfl, rfl, rfl, by simp [World.setRow], fun k hk => setRow_other W g k cs (fun e => hk e)⟩
theorem rw_C_blk {k : IntKind} {w : World} {g t m : Nat} {xs : List Int} {cs : Array Value} {f : Nat × Nat} (h : w.heap[g]? = some (.cells cs t f)) (hc : cs = (xs.map (Value.int k)).toArray) (hm : m <= xs.length) (hd : xs.length <= 1000000) : Kd.C (Kd.int k) w (some ⟨g, 0, none⟩) (xs.take m).length (xs.take m) :=
 Kd.C_of_reads (enc := Value.int k) (d := (0 : Int)) (h1 := fun _ => rfl) ⟨rfl, by rw [List.length_take]; omega, fun _ => ⟨_, rfl, fun j hj => by
  rw [List.length_take] at hj
  have ha : (⟨g, 0, none⟩ : Addr).add j = ⟨g, j, none⟩ := add_plain g j; rw [ha]; subst hc; refine (cell_of_row w g j _ t f h).trans ?_
  simp [List.getD_eq_getElem?_getD, List.getElem?_eq_getElem (show j < xs.length by omega), List.getElem?_take, show j < m by omega]⟩⟩
theorem rw_cut {P : Program} (t e : TypeId) (kh : IntKind) {i : TypeInfo} (ht : P.underlying t = some (.slice e)) (hi : P.info? e = some i) (A : Option Addr) (n c : Nat) (j : Int) (m : Nat) (hj : j = (m : Int)) (hm : m <= n) (hc : n <= c) : ∀ W : World, (Instr.slice t (.slice A n c) none (some (.int kh j)) none).run P W = .ok (.slice A m c) W := by
 subst hj; have := cut_to (P := P) t e kh ht hi A n c (m : Int) (by omega) (by omega) hc
 simpa using this
attribute [local go_sem] max2_int min2_int max_two min_two max_three min_three max_four min_four
def errW : Option Int -> Value
 | none => .nilIface
 | some c => .iface 0 (.int .i64 c)
theorem errW_none : errW none = .nilIface := rfl
theorem errW_some (c : Int) : errW (some c) = .iface 0 (.int .i64 c) := rfl
theorem info5 : (Try.prog.info? 5).map (fun i => (i.zero, i.size, i.bytes)) = some (some (.int .u8 0), 1, 1) := by kernel_rfl
theorem info45 : (Try.prog.info? 45).map (fun i => (i.zero, i.size, i.bytes)) = some (some (.int .u16 0), 1, 2) := by kernel_rfl
def rd_L1 (xs : List (List Int)) (i : Int) : (List Int) := xs.getD i.toNat ([] : List Int)
structure S65 where
 f0 : Int
 f1 : Int
def z65 : S65 := ⟨(0 : Int), (0 : Int)⟩
def k65 : Kd S65 := Kd.iso (Kd.pair (Kd.int .u32) (Kd.int .u16)) (fun x : S65 => (x.f0, x.f1))
theorem k65_open {w : World} {x : S65} {cs : List Value} (h : k65.K w x cs) : cs = [.int .u32 x.f0, .int .u16 x.f1] := by
 obtain ⟨_, _, rfl, rfl, rfl⟩ := h; exact rfl
theorem k65_mkM (w : World) (base : Nat) (ok : Nat -> Prop) (x : S65)  : k65.M w base ok x [.int .u32 x.f0, .int .u16 x.f1] := ⟨[.int .u32 x.f0], [.int .u16 x.f1], rfl, rfl, rfl⟩
def rd_T65 (xs : List S65) (i : Int) : S65 := xs.getD i.toNat z65
theorem at_T65 {w : World} {A : Option Addr} {n : Nat} {xs : List S65} (h : Kd.C k65 w A n xs) (i : Int) (h0 : 0 <= i) (h1 : i < n) : ∃ ad , A = some ad /\ w.cell? (ad.add (i.toNat * 2)) = some (.int .u32 (rd_T65 xs i).f0) /\ w.cell? ⟨(ad.add (i.toNat * 2)).block, (ad.add (i.toNat * 2)).off + 1, none⟩ = some (.int .u16 (rd_T65 xs i).f1) := by
 obtain ⟨ad, c, e, _, hK, hc0⟩ := Kd.C_get h z65 i h0 h1; have hc : ∀ j u, c[j]? = some u -> w.cell? (ad.add (i.toNat * 2 + j)) = some u := hc0; obtain rfl := k65_open hK; exact ⟨ad, e, hc 0 _ rfl, by rw [<- add_field _ _ 1 (by omega)]; exact hc 1 _ rfl⟩
theorem mB {w W w2 : World} (h : Aside0 (Below w.heap.size w W)) (k : Below W.heap.size W w2) : Aside0 (Below w.heap.size w w2) := ⟨below_step h.out k⟩
theorem mX {w w1 : World} {g : Nat} {o : Obj} (h : Aside0 (w.heap[g]? = some o)) (hb : Below w.heap.size w w1) : Aside0 (w1.heap[g]? = some o) := ⟨blk_below h.out hb⟩
theorem mR {k : IntKind} {e base : Nat} {ok : Nat -> Prop} {w w1 : World} {v : Value} {xs : List Int} (h : Aside0 (Kd.R (Kd.int k) e w base ok v xs)) (hb : Below w.heap.size w w1) : Aside0 (Kd.R (Kd.int k) e w1 base ok v xs) := ⟨Kd.R_below h.out hb⟩
theorem mI {e base : Nat} {ok : Nat -> Prop} {w w1 : World} {v : Value} {xs : List S65} (h : Aside0 (Kd.R k65 e w base ok v xs)) (hb : Below w.heap.size w w1) : Aside0 (Kd.R k65 e w1 base ok v xs) := ⟨Kd.R_below h.out hb⟩
theorem mC {k : IntKind} {w w1 : World} {A : Option Addr} {n : Nat} {xs : List Int} (h : Aside0 (Kd.C (Kd.int k) w A n xs)) (hb : Below w.heap.size w w1) : Aside0 (Kd.C (Kd.int k) w1 A n xs) := ⟨Kd.C_below h.out hb⟩
theorem Off.R65 {W w1 : World} {base : Nat} {v : Value} {xs : List S65} {g t : Nat} {ds : Array Value} (h : Off W w1 g) (hr : Kd.R k65 65 W base (fun _ => True) v xs) (hg : W.heap[g]? = some (.cells ds t (0, 0))) (ht : 65 ≠ t) : Kd.R k65 65 w1 base (fun _ => True) v xs :=
 Kd.R_mono (Kd.R_step (Kd.R_types hr hg (fun q hq => by have e_ : q = 65 := (List.mem_cons.1 hq).resolve_right (fun h => nomatch h); rw [e_]; exact ht)) (fun k hk _ => h.far k hk.2)) (fun _ hk => hk.1)
section
variable {W w1 : World} {g t : Nat} {ds : Array Value}
theorem oB {w : World} (o : Off W w1 g) (h : Aside0 (Below w.heap.size w W)) (hg : Aside0 (w.heap.size <= g)) : Aside0 (Below w.heap.size w w1) := ⟨Off.below o h.out hg.out⟩
theorem oX {g' t' : Nat} {cs : Array Value} {f : Nat × Nat} (o : Off W w1 g) (h : Aside0 (W.heap[g']? = some (.cells cs t' f))) (hg : Aside0 (W.heap[g]? = some (.cells ds t (0, 0)))) (ht : t' ≠ t) : Aside0 (w1.heap[g']? = some (.cells cs t' f)) := ⟨Off.blk o h.out hg.out ht⟩
theorem oN {g' : Nat} {o' : Obj} (o : Off W w1 g) (h : Aside0 (W.heap[g']? = some o')) (hn : Aside0 (g' ≠ g)) : Aside0 (w1.heap[g']? = some o') := ⟨Off.blkne o h.out hn.out⟩
theorem oR {k : IntKind} {e base : Nat} {v : Value} {xs : List Int} (o : Off W w1 g) (h : Aside0 (Kd.R (Kd.int k) e W base (fun _ => True) v xs)) (hg : Aside0 (W.heap[g]? = some (.cells ds t (0, 0)))) (ht : e ≠ t) : Aside0 (Kd.R (Kd.int k) e w1 base (fun _ => True) v xs) := ⟨Off.R o h.out hg.out ht⟩
theorem oI {base : Nat} {v : Value} {xs : List S65} (o : Off W w1 g) (h : Aside0 (Kd.R k65 65 W base (fun _ => True) v xs)) (hg : Aside0 (W.heap[g]? = some (.cells ds t (0, 0)))) (ht : 65 ≠ t) : Aside0 (Kd.R k65 65 w1 base (fun _ => True) v xs) := ⟨Off.R65 o h.out hg.out ht⟩
theorem ne_sym {a b : Nat} (h : Aside0 (a ≠ b)) : Aside0 (b ≠ a) := ⟨Ne.symm h.out⟩
theorem blk_less {W : World} {g' : Nat} {o : Obj} (h : Aside0 (W.heap[g']? = some o)) : Aside0 (g' ≠ W.heap.size) := ⟨Nat.ne_of_lt (blk_lt h.out)⟩
theorem bsz {w W : World} (h : Aside0 (Below w.heap.size w W)) : Aside0 (w.heap.size <= W.heap.size) := ⟨below_size h.out⟩
end
section
variable {P : Program} {ops : Array Oper} {rest : List Oper} {o : Oper} {a : Act} {Q : Exit -> Act -> World -> Prop}
theorem rw_putrow {W : World} {old c' : Array Value} {g t ty : Nat} {p x : Operand} (hgd : o.guard = none) (hd : o.dst = none) (ho : o.op = .store ty p x) (hp : a.eval p = .pointer (some ⟨g, 0, none⟩)) (hx : a.eval x = .agg c') (hg : W.heap[g]? = some (.cells old t (0, 0))) (hi : (P.info? ty).map (·.size) = some c'.size) (hs : old.size = c'.size) (h1 : c'.all (·.oneCell') = true)
  (h : ∀ w1, w1.heap[g]? = some (.cells c' t (0, 0)) -> Off W w1 g -> wpList P ops Q rest a w1) : wpList P ops Q (o :: rest) a W :=
 rw_skip hgd hd (rw_store ho hp hx hg hi hs h1) (h _ (rw_row c' hg) (Off.setRow g c'))
theorem rw_newrow {w : World} {c c' : Array Value} {t : Nat} {p x : Operand} (hgd : o.guard = none) (hd : o.dst = none) (ho : o.op = .store t p x) (hp : a.eval p = .pointer (some ⟨w.heap.size, 0, none⟩)) (hx : a.eval x = .agg c') (hi : (P.info? t).map (·.size) = some c'.size) (hs : c.size = c'.size) (h1 : c'.all (·.oneCell') = true)
  (h : ∀ w1, w1.heap[w.heap.size]? = some (.cells c' t (0, 0)) -> Below w.heap.size w w1 -> wpList P ops Q rest a w1) : wpList P ops Q (o :: rest) a (w.alloc (.cells c t)) :=
 rw_skip hgd hd (rw_new ho hp hx hi hs h1) (h _ (rw_blknew _ _) (below_alloc (Below.refl _ _) _))
end
section
variable {P : Program} {ops : Array Oper} {oi : Oper} {a : Act} {W : World} {K : Act -> World -> Prop} {Q : Exit -> Act -> World -> Prop}
theorem skip_row {old c' : Array Value} {g t ty : Nat} {p x : Operand} (hw : Region.wanted oi (yielded ops a.tmps) = true) (hN : oi.dst = none) (ho : oi.op = .store ty p x) (hp : a.eval p = .pointer (some ⟨g, 0, none⟩)) (hx : a.eval x = .agg c') (hg : W.heap[g]? = some (.cells old t (0, 0))) (hi : (P.info? ty).map (·.size) = some c'.size) (hs : old.size = c'.size) (h1 : c'.all (·.oneCell') = true)
  (h : ∀ w1, w1.heap[g]? = some (.cells c' t (0, 0)) -> Off W w1 g -> K a w1) : if Region.wanted oi (yielded ops a.tmps) = true then Oper.wp P oi a W K Q else K (a.put none undef) W :=
 skip_ hw hN (rw_store ho hp hx hg hi hs h1) (h _ (rw_row c' hg) (Off.setRow g c'))
theorem skip_cell {cs cs' : Array Value} {v : Value} {g t i : Nat} (hw : Region.wanted oi (yielded ops a.tmps) = true) (hN : oi.dst = none) (hb : W.heap[g]? = some (.cells cs t (0, 0))) (he : cs.setIfInBounds i v = cs') (hrun : (execOp a.eval oi).run P W = .ok .skip (W.setCell ⟨g, i, none⟩ v))
  (h : ∀ w1, w1.heap[g]? = some (.cells cs' t (0, 0)) -> Off W w1 g -> K a w1) : if Region.wanted oi (yielded ops a.tmps) = true then Oper.wp P oi a W K Q else K (a.put none undef) W :=
 skip_ hw hN hrun (h _ (blk_put hb i v he) (Off.setCell W g i v))
end
theorem rLow {k : IntKind} {e : Nat} {ok : Nat -> Prop} {w w1 w2 : World} {v : Value} {xs : List Int} (h : Kd.R (Kd.int k) e w2 w1.heap.size ok v xs) (hB : Aside0 (Below w.heap.size w w1)) : Aside0 (Kd.R (Kd.int k) e w2 w.heap.size (fun _ => True) v xs) := ⟨Kd.R_mono (Kd.R_lower h (below_size hB.out)) (fun _ _ => trivial)⟩
section
variable {P : Program} {md : Region.Mode} {ops : Array Oper} {T : Bool × List (List Nat × List Nat)} {B : List Nat} {oi : Oper} {v : Value} {a : Act} {w : World} {S : World -> Prop} {ds : List Nat} {fuel : Nat} {l : Array Bool} {Q : Exit -> Act -> World -> Prop}
theorem pv (i n : Nat) (v : Value) (hT : Aside0 (rtab md ops = T)) (hr : ∀ w', (execOp a.eval oi).run P w' = .ok (.value v) w') (h : wpAnyLast P md ops Q S ds fuel (l.setIfInBounds i true) (a.put (some n) v) w) (hi : ops[i]? = some oi := by rfl) (hN : oi.dst = some n := by rfl) (hc : anyT T l.toList (l.setIfInBounds i true).toList i = true := by kernel_rfl) (hQ : ∀ c a w, Q (.panic c) (a.put oi.dst v) w -> Q (.panic c) a w := by exact fun _ _ _ h => h)
  (hw : Region.wanted oi (yielded ops a.tmps) = true := by rfl) : wpAnyLast P md ops Q S ds (fuel + 1) l a w :=
 pure_ (l.setIfInBounds i true) hi hN (any_of hT.out hc) hQ (Or.inl ⟨hw, hr⟩) rfl h
theorem tv (i n : Nat) (v : Value) (hT : Aside0 (rtab md ops = T)) (hB : Aside0 (waitsOk T.2 B = true)) (hS : S w) (hr : ∀ w', S w' -> (execOp a.eval oi).run P w' = .ok (.value v) w') (h : wpAnyLast P md ops Q S ds fuel (l.setIfInBounds i true) (a.put (some n) v) w) (hi : ops[i]? = some oi := by rfl) (hN : oi.dst = some n := by rfl) (hc : takeW T B ds l.toList (l.setIfInBounds i true).toList i = true := by kernel_rfl) (hQ : ∀ c a w, Q (.panic c) (a.put oi.dst v) w -> Q (.panic c) a w := by exact fun _ _ _ h => h)
  (hw : Region.wanted oi (yielded ops a.tmps) = true := by rfl) : wpAnyLast P md ops Q S ds (fuel + 1) l a w :=
 take_ (l.setIfInBounds i true) hi hN (take_ofW hT.out hB.out hc) hQ (Or.inl ⟨hw, hr⟩) hS rfl h
end
end Go.Proofs.Ytkmimamminddiaa.PB
namespace Go.Proofs.YtkmimamminddiaaW.PrintLast
open Go.RowKit Go.Proofs.YtkmimamminddiaaW.PrintWords Go.Proofs.YtkmimamminddiaaW.PrintMore
theorem bz {B : Nat} {w W W0 : World} (H : Aside0 (Below B w W0)) (h : Below B w W0 -> Below B w W := by (intro h_; repeat (first | (with_reducible first | exact h_ | apply below_alloc | apply pw_below_drewN | apply below_drew1 | refine below_set ?_ (Aside0.out (by assumption))) | exact h_))) : Below B w W := h H.out
theorem kz {g : Nat} {o : Obj} {W W0 : World} (H : Aside0 (W0.heap[g]? = some o)) (h : W0.heap[g]? = some o -> W.heap[g]? = some o := by (intro h_; (with_reducible repeat (first | refine blk_drewN ?_ _ | refine blk_drew ?_ | refine blk_alloc ?_ _)); exact h_)) : W.heap[g]? = some o := h H.out
section
variable {P : Program} {ops : Array Oper} {Q : Exit -> Act -> World -> Prop}
theorem gL {rest : List Oper} {oi : Oper} {a : Act} {w : World} (n : Tmp) {f : FuncId} {fn : Func} {ar : Array Operand} {ts : Array TypeId} (hf : P.funcs[f]? = some fn) (args : Array Value)
  (h : Calls P f args w fun e w' => ∃ v, e = .returned v /\ wpList P ops Q rest (a.put (some n) v) w') (hd : oi.dst = some n := by rfl) (hg : oi.guard = none := by rfl) (hname : (fn.name == "runtime.NumGoroutine") = false := by kernel_rfl) (hb : fn.body.isSome = true := by rfl)
  (hop : oi.op = .call { callee := .value (.func f), args := ar, argTypes := ts } := by rfl) (hargs : ar.map a.eval = args := by ((try simp only [List.map_toArray, List.map_cons, List.map_nil]); first | done | rfl | (simp only [List.length_drop, List.length_take]; rfl) | (go_simp; done) | (simp [Act.eval, IntKind.signed]; done) | (simp [Act.eval, IntKind.signed]; rfl))) : wpList P ops Q (oi :: rest) a w :=
 goesL_ (some n) hd hg hf hname hb args hop hargs h
theorem gG {oi : Oper} {N : Option Tmp} {a : Act} {w : World} {K : Act -> World -> Prop} {f : FuncId} {fn : Func} {ar : Array Operand} {ts : Array TypeId} (hf : P.funcs[f]? = some fn) (args : Array Value)
  (h : Calls P f args w fun e w' => ∃ v, e = .returned v /\ K (a.put N v) w') (hname : (fn.name == "runtime.NumGoroutine") = false := by kernel_rfl) (hb : fn.body.isSome = true := by rfl) (hw : Region.wanted oi (yielded ops a.tmps) = true := by rfl) (hN : oi.dst = N := by rfl) (hop : oi.op = .call { callee := .value (.func f), args := ar, argTypes := ts } := by rfl)
  (hargs : ar.map a.eval = args := by ((try simp only [List.map_toArray, List.map_cons, List.map_nil]); first | done | rfl | (simp only [List.length_drop, List.length_take]; rfl) | (go_simp; done) | (simp [Act.eval, IntKind.signed]; done) | (simp [Act.eval, IntKind.signed]; rfl))) : if Region.wanted oi (yielded ops a.tmps) = true then Oper.wp P oi a w K Q else K (a.put N undef) w :=
 goes_ hf hname hb args hw hN hop hargs h
end
theorem cs2 {w : World} {g t : Nat} {f : Nat × Nat} {c0 c1 : Value} (h : w.heap[g]? = some (.cells #[c0, c1] t f)) : w.cell? ⟨g, 0, none⟩ = some c0 /\ w.cell? ⟨g, 1, none⟩ = some c1 := ⟨cz h 0 rfl, cz h 1 rfl⟩
theorem cs4 {w : World} {g t : Nat} {f : Nat × Nat} {c0 c1 c2 c3 : Value} (h : w.heap[g]? = some (.cells #[c0, c1, c2, c3] t f)) : w.cell? ⟨g, 0, none⟩ = some c0 /\ w.cell? ⟨g, 1, none⟩ = some c1 /\ w.cell? ⟨g, 2, none⟩ = some c2 /\ w.cell? ⟨g, 3, none⟩ = some c3 := ⟨cz h 0 rfl, cz h 1 rfl, cz h 2 rfl, cz h 3 rfl⟩
theorem cs5 {w : World} {g t : Nat} {f : Nat × Nat} {c0 c1 c2 c3 c4 : Value} (h : w.heap[g]? = some (.cells #[c0, c1, c2, c3, c4] t f)) : w.cell? ⟨g, 0, none⟩ = some c0 /\ w.cell? ⟨g, 1, none⟩ = some c1 /\ w.cell? ⟨g, 2, none⟩ = some c2 /\ w.cell? ⟨g, 3, none⟩ = some c3 /\ w.cell? ⟨g, 4, none⟩ = some c4 := ⟨cz h 0 rfl, cz h 1 rfl, cz h 2 rfl, cz h 3 rfl, cz h 4 rfl⟩
theorem cs10 {w : World} {g t : Nat} {f : Nat × Nat} {c0 c1 c2 c3 c4 c5 c6 c7 c8 c9 : Value} (h : w.heap[g]? = some (.cells #[c0, c1, c2, c3, c4, c5, c6, c7, c8, c9] t f)) : w.cell? ⟨g, 0, none⟩ = some c0 /\ w.cell? ⟨g, 1, none⟩ = some c1 /\ w.cell? ⟨g, 2, none⟩ = some c2 /\ w.cell? ⟨g, 3, none⟩ = some c3 /\ w.cell? ⟨g, 4, none⟩ = some c4 /\ w.cell? ⟨g, 5, none⟩ = some c5 /\ w.cell? ⟨g, 6, none⟩ = some c6 /\ w.cell? ⟨g, 7, none⟩ = some c7 /\ w.cell? ⟨g, 8, none⟩ = some c8 /\ w.cell? ⟨g, 9, none⟩ = some c9 := ⟨cz h 0 rfl, cz h 1 rfl, cz h 2 rfl, cz h 3 rfl, cz h 4 rfl, cz h 5 rfl, cz h 6 rfl, cz h 7 rfl, cz h 8 rfl, cz h 9 rfl⟩
end Go.Proofs.YtkmimamminddiaaW.PrintLast
namespace Go.Proofs.YtkmimamminddiaaW.PrintWords
open Go.RowKit Go.Proofs.YtkmimamminddiaaW.PrintLast
theorem Kd.rz {α : Type} {d : Kd α} {e : TypeId} {W W0 : World} {base : Nat} {ok : Nat -> Prop} {v : Value} {xs : List α} (H : Aside0 (d.R e W0 base ok v xs)) (h : d.R e W0 base ok v xs -> d.R e W base ok v xs := by (intro h_; (with_reducible repeat (first | apply Kd.R_alloc | apply Kd.R_drewN | apply Kd.R_drew)); exact h_)) : d.R e W base ok v xs := h H.out
end Go.Proofs.YtkmimamminddiaaW.PrintWords
namespace Go.Proofs.Ytkmimamminddiaa.PB
open Go.RowKit Go.Proofs.YtkmimamminddiaaW.PrintWords Go.Proofs.YtkmimamminddiaaW.PrintLast Go.Proofs.YtkmimamminddiaaW.PrintMore
attribute [local go_sem] max2_int min2_int max_two min_two max_three min_three max_four min_four
def slices_Clone_byte_byte.f (l0 : List Int) : Option (List Int) := if l0.length < 140737488355328 then some l0 else none
theorem slices_Clone_byte_byte.calls (A0 : Option Addr) (c0 : Nat) (l0 : List Int) (r : List Int) (w : World) (hr0 : Kd.C (Kd.int .u8) w A0 l0.length l0) (hc0 : l0.length <= c0) (h : slices_Clone_byte_byte.f l0 = some r) :
    Calls Try.prog 97 #[.slice A0 l0.length c0] w fun e w' => ∃ v0_ : Value, e = .returned (v0_) /\ Kd.R (Kd.int .u8) 5 w' w.heap.size (fun _ => True) v0_ r /\ Below w.heap.size w w' := by
  unfold slices_Clone_byte_byte.f at h
  by_cases c7 : l0.length < 140737488355328
  · rw [if_pos c7] at h
    obtain rfl := Option.some.inj h; clear h; have LMc7 := Aside0.mk c7; clear c7; have HR0 := Aside0.mk hr0; have HC0 := Aside0.mk hc0; clear hr0 hc0; have HB := Aside0.mk (Below.refl w.heap.size w)
    cases A0 with
    | none =>
      have e := kd_none_nil HR0.out; subst e; have hq := fun (W : World) (n c : Nat) => Go.Lib.run_eql_slice_nil (P := Try.prog) W 23 5 none n c 0 0 Try.underlying23
      go_enter Try.func97, Try.ntmps97
      go_wp2
      go_ret
      exact ⟨_, rfl, Kd.R_nil _ _ _ _ _, Below.refl _ _⟩
    | some ad =>
      have hq := fun (W : World) (n c : Nat) => Go.Lib.run_eql_slice_nil (P := Try.prog) W 23 5 (some ad) n c 0 0 Try.underlying23
      go_enter Try.func97, Try.ntmps97
      have HO1 : Aside0 (Kd.R (Kd.int .u8) 5 (w.alloc (.cells #[] 5)) w.heap.size (fun _ => True) (.slice (some ⟨w.heap.size, 0, none⟩) 0 0) ([] : List Int)) := ⟨kd_empty_new w .u8 5⟩
      have HB1 : Aside0 (Below w.heap.size w (w.alloc (.cells #[] 5))) := ⟨below_alloc HB.out _⟩
      go_wp2_with (first
       | ((with_reducible refine gate_builtin (b := .append) (xs := #[.tmp 5, .tmp 6]) rfl ?_); at_builtin; refine Kd.R_append_rows (Kd.int .u8) (w0 := w) w.heap.size rfl (.tmp 5) (.tmp 6) 23 5 (.int .u8 0) 1 rfl Try.underlying23 info5 rfl (by decide) (by omega) (.slice (some ⟨w.heap.size, 0, none⟩) 0 0) ([] : List Int) l0 _ _ _ (fun _ => True) (fun _ => False) rfl rfl ?aO ?aR (fun _ _ h => h) (fun _ h => h.elim) ?aF ?aB ?aS ?aL ?_; (case aR => exact Kd.C_below HR0.out HB1.out); (case aB => exact HB1.out); (case aF => exact (fun _ _ => trivial)); (case aO => exact HO1.out); (case aS => exact (below_size HB1.out)); (case aL => have := LMc7.out; simp; omega); intro v2 w2 ho hb hg hat; clear hg hat; have HB2 := Aside0.mk hb; have HO2 := Aside0.mk ho; clear hb ho))
      go_ret
      exact ⟨_, rfl, by simpa using HO2.out, HB2.out⟩
  · rw [if_neg c7] at h
    cases h
attribute [local go_sem] max2_int min2_int max_two min_two max_three min_three max_four min_four
def tcpP.R8.T : Bool × List (List Nat × List Nat) := (true, [([], []), ([0], [0]), ([1], [1]), ([], []), ([3], [3]), ([4, 2], [4]), ([], []), ([6], [6]), ([7, 5], [7]), ([], []), ([9], [9]), ([10, 8], [10]), ([], []), ([12], [12]), ([13], [13]), ([], []), ([15], [15]), ([16, 11], [16]), ([], []), ([18], [18]), ([19, 17], [19]), ([], []), ([21], [21]), ([22, 20], [22]), ([], []), ([], []), ([], []), ([24, 25, 26], [24, 25, 26]), ([27, 23], [27]), ([], []), ([], []), ([29, 30], [29, 30]), ([31, 28], [31]), ([2, 5, 8, 11, 14, 17, 20, 23, 28, 32], [2, 5, 8, 11, 14, 17, 20, 23, 28, 32]), ([33, 32, 0, 1, 2, 3, 4, 5, 6, 7, 8, 9, 10, 11, 12, 13, 14, 15, 16, 17, 18, 19, 20, 21, 22, 23, 24, 25, 26, 27, 28, 29, 30, 31, 32, 33], [33]), ([34, 0, 1, 2, 3, 4, 5, 6, 7, 8, 9, 10, 11, 12, 13, 14, 15, 16, 17, 18, 19, 20, 21, 22, 23, 24, 25, 26, 27, 28, 29, 30, 31, 32, 33, 34], [])])
theorem tcpP.R8.tab : rtab .any (opsOf Try.f122 8) = tcpP.R8.T := by kernel_rfl
theorem tcpP.R8.bits : waitsOk tcpP.R8.T.2 [0, 1, 3, 0, 8, 31, 0, 64, 255, 0, 512, 2047, 0, 4096, 12288, 0, 32768, 102399, 0, 262144, 1019903, 0, 2097152, 8359935, 0, 0, 0, 117440512, 268406783, 0, 0, 1610612736, 4294938623, 8589934591, 17179869183, 34359738367] = true := by kernel_rfl
attribute [local go_sem] max2_int min2_int max_two min_two max_three min_three max_four min_four
attribute [local go_sem] max2_int min2_int max_two min_two max_three min_three max_four min_four
attribute [local go_sem] max2_int min2_int max_two min_two max_three min_three max_four min_four
def icmp_Parse.f (l0 : List Int) : Option (Int × Int × Int × Int × List Int × Int) := if (l0.length : Int) < 8 then (some (0, 0, 0, 0, ([] : List Int), 20)) else (if 0 < (l0.length : Int) then (if 1 < (l0.length : Int) then (if 2 < (l0.length : Int) then (if 3 < (l0.length : Int) then (if 4 < (l0.length : Int) then (if 5 < (l0.length : Int) then (if 6 < (l0.length : Int) then (if 7 < (l0.length : Int) then (if 8 <= (l0.length : Int) then ((slices_Clone_byte_byte.f (l0.drop 8)).bind fun t676 => (some (rd l0 0, rd l0 1, Go.bits .or .u16 (IntKind.u16.wrap ((IntKind.u16.wrap (rd l0 2)) * 256)) (IntKind.u16.wrap (rd l0 3)), Go.bits .or .u32 (Go.bits .or .u32 (Go.bits .or .u32 ((((rd l0 4) % 4294967296) * 16777216) % 4294967296) ((((rd l0 5) % 4294967296) * 65536) % 4294967296)) ((((rd l0 6) % 4294967296) * 256) % 4294967296)) ((rd l0 7) % 4294967296), t676, 0))) else (none)) else (none)) else (none)) else (none)) else (none)) else (none)) else (none)) else (none)) else (none))
def icmp_Parse.T3 : Bool × List (List Nat × List Nat) := (true, [([], []), ([0], [0]), ([1], [1]), ([], []), ([3], [3]), ([4], [4]), ([], []), ([6], [6]), ([7], [7]), ([8], [8]), ([9], [9]), ([], []), ([11], [11]), ([12], [12]), ([13], [13]), ([10, 14], [10, 14]), ([], []), ([16], [16]), ([17], [17]), ([18], [18]), ([19], [19]), ([], []), ([21], [21]), ([22], [22]), ([23], [23]), ([24], [24]), ([20, 25], [20, 25]), ([], []), ([27], [27]), ([28], [28]), ([29], [29]), ([30], [30]), ([26, 31], [26, 31]), ([], []), ([33], [33]), ([34], [34]), ([35], [35]), ([32, 36], [32, 36]), ([], []), ([38], [38]), ([39], [39]), ([2, 5, 15, 37, 40], [2, 5, 15, 37, 40]), ([41, 40, 0, 1, 2, 3, 4, 5, 6, 7, 8, 9, 10, 11, 12, 13, 14, 15, 16, 17, 18, 19, 20, 21, 22, 23, 24, 25, 26, 27, 28, 29, 30, 31, 32, 33, 34, 35, 36, 37, 38, 39, 40, 41], [41]), ([42, 0, 1, 2, 3, 4, 5, 6, 7, 8, 9, 10, 11, 12, 13, 14, 15, 16, 17, 18, 19, 20, 21, 22, 23, 24, 25, 26, 27, 28, 29, 30, 31, 32, 33, 34, 35, 36, 37, 38, 39, 40, 41, 42], [])])
def icmp_Parse.B3 : List Nat := [0, 1, 3, 0, 8, 24, 0, 64, 192, 448, 960, 0, 2048, 6144, 14336, 32704, 0, 65536, 196608, 458752, 983040, 0, 2097152, 6291456, 14680064, 31457280, 67043328, 0, 134217728, 402653184, 939524096, 2013265920, 4294901760, 0, 8589934592, 25769803776, 60129542144, 137438887936, 0, 274877906944, 824633720832, 2199023255551, 4398046511103, 8796093022207]
theorem icmp_Parse.tab3 : rtab .any (opsOf Try.f123 3) = icmp_Parse.T3 := by kernel_rfl
theorem icmp_Parse.bits3 : waitsOk icmp_Parse.T3.2 icmp_Parse.B3 = true := by kernel_rfl
theorem icmp_Parse.calls (A0 : Option Addr) (c0 : Nat) (l0 : List Int) (r1 : Int) (r2 : Int) (r3 : Int) (r4 : Int) (r5 : List Int) (r6 : Int) (w : World) (hr0 : Kd.C (Kd.int .u8) w A0 l0.length l0) (hc0 : l0.length <= c0) (h : icmp_Parse.f l0 = some (r1, r2, r3, r4, r5, r6)) :
  Calls Try.prog 123 #[.slice A0 l0.length c0] w fun e w' => ∃ v4_ : Value, e = .returned (.tuple #[.agg #[.int .u8 r1, .int .u8 r2, .int .u16 r3, .int .u32 r4, v4_], .int .i64 r6]) /\ Kd.R (Kd.int .u8) 5 w' w.heap.size (fun _ => True) v4_ r5 /\ Below w.heap.size w w' := by
 have hu101 := Try.underlying101; have HR0 := Aside0.mk hr0; have HC0 := Aside0.mk hc0; clear hr0 hc0; have HB := Aside0.mk (Below.refl w.heap.size w)
 have H : (if (l0.length : Int) < 8 then (some (0, 0, 0, 0, ([] : List Int), 20)) else (if 0 < (l0.length : Int) then (if 1 < (l0.length : Int) then (if 2 < (l0.length : Int) then (if 3 < (l0.length : Int) then (if 4 < (l0.length : Int) then (if 5 < (l0.length : Int) then (if 6 < (l0.length : Int) then (if 7 < (l0.length : Int) then (if 8 <= (l0.length : Int) then ((slices_Clone_byte_byte.f (l0.drop 8)).bind fun t676 => (some (rd l0 0, rd l0 1, Go.bits .or .u16 (IntKind.u16.wrap ((IntKind.u16.wrap (rd l0 2)) * 256)) (IntKind.u16.wrap (rd l0 3)), Go.bits .or .u32 (Go.bits .or .u32 (Go.bits .or .u32 ((((rd l0 4) % 4294967296) * 16777216) % 4294967296) ((((rd l0 5) % 4294967296) * 65536) % 4294967296)) ((((rd l0 6) % 4294967296) * 256) % 4294967296)) ((rd l0 7) % 4294967296), t676, 0))) else (none)) else (none)) else (none)) else (none)) else (none)) else (none)) else (none)) else (none)) else (none))) = some (r1, r2, r3, r4, r5, r6) := h
 clear h
 by_cases c2 : (l0.length : Int) < 8
 ·rw [if_pos c2] at H
  have c2b0 : decide ((l0.length : Int) < 8) = true := decide_eq_true c2; have c2b1 : decide (l0.length < 8) = true := decide_eq_true (by omega); clear c2; simp only [Option.some.injEq, Prod.mk.injEq] at H
  obtain ⟨rfl, rfl, rfl, rfl, rfl, rfl⟩ := H
  go_enter Try.func123, Try.ntmps123
  go_wp2_with (first | ((with_reducible refine gate_dst (N := 2) rfl ?_); refine box_event ?hg (N := 2) ?hd (cs := #[.int .u8 0, .int .u8 0, .int .u16 0, .int .u32 0, .slice none 0 0]) (t := 101) ?hr ?_; (case hd => rfl); (case hg => rfl); (case hr => first | (go_simp; done) | (go_simp; rfl)); intro gb666 hg w3 hbox hb; have n0_ := Aside0.mk (below_step (bz HB) hb); have n1_ := Aside0.mk (hbox); have n2_ := Aside0.mk ((by rw [hg]; exact (below_size (bz HB)) : w.heap.size <= gb666)); have n3_ := Aside0.mk ((by rw [hg]; exact (below_size (bz HB)) : w.heap.size <= gb666)); clear HB; have HB := n0_; have BK666 := n1_; have GW666 := n2_; have GE666 := n3_; clear n0_ n1_ n2_ n3_; clear hb hbox hg; have hcz4_0 : w3.cell? ⟨gb666, 0, none⟩ = some (.int .u8 0) := cz BK666.out 0 rfl; have hcz4_1 : w3.cell? ⟨gb666, 1, none⟩ = some (.int .u8 0) := cz BK666.out 1 rfl; have hcz4_2 : w3.cell? ⟨gb666, 2, none⟩ = some (.int .u16 0) := cz BK666.out 2 rfl; have hcz4_3 : w3.cell? ⟨gb666, 3, none⟩ = some (.int .u32 0) := cz BK666.out 3 rfl; have hcz4_4 : w3.cell? ⟨gb666, 4, none⟩ = some (.slice none 0 0) := cz BK666.out 4 rfl; have hfz4_0 := blk_frozen BK666.out 0; have hfz4_1 := blk_frozen BK666.out 1; have hfz4_2 := blk_frozen BK666.out 2; have hfz4_3 := blk_frozen BK666.out 3; have hfz4_4 := blk_frozen BK666.out 4))
  refine bodyPost_ret (results_ct rfl _ _ gb666 101 #[.int .u8 0, .int .u8 0, .int .u16 0, .int .u32 0, .slice none 0 0] (0, 0) _ rfl (by (repeat (first | with_reducible refine blk_drewN ?_ _ | with_reducible refine blk_drew ?_ | with_reducible refine blk_alloc ?_ _ | refine blk_put (cs := #[.int .u8 0, .int .u8 0, .int .u16 0, .int .u32 0, .slice none 0 0]) ?_ _ _ rfl)); (with_reducible repeat (first | refine blk_drewN ?_ _ | refine blk_drew ?_ | refine blk_alloc ?_ _)); exact BK666.out) Try.underlying101 rfl (by kernel_rfl)) rfl ?_; exact ⟨_, by first | rfl | (simp [errW_none, errW_some] <;> rfl) | (simp [*, errW_none, errW_some] <;> rfl), by first | exact Kd.R_nil _ _ _ _ _ | exact Kd.N_nil _ _ _ _ _ | exact Kd.V_nil _ _ _ _ _ | exact Kd.Q_nil _ _ _ _ _ | exact Kd.S_nil _ _ _ _ _, bz HB⟩
 ·rw [if_neg c2] at H
  have c2b0 : decide ((l0.length : Int) < 8) = false := decide_eq_false c2; have c2b1 : decide (l0.length < 8) = false := decide_eq_false (by omega); clear c2
  by_cases c5 : 0 < (l0.length : Int)
  ·rw [if_pos c5] at H
   have c5b0 : decide (0 < (l0.length : Int)) = true := decide_eq_true c5; have c5b1 : decide (0 < l0.length) = true := decide_eq_true (by omega); clear c5
   by_cases c6 : 1 < (l0.length : Int)
   ·rw [if_pos c6] at H
    have c6b0 : decide (1 < (l0.length : Int)) = true := decide_eq_true c6; have c6b1 : decide (1 < l0.length) = true := decide_eq_true (by omega); clear c6
    by_cases c7 : 2 < (l0.length : Int)
    ·rw [if_pos c7] at H
     have c7b0 : decide (2 < (l0.length : Int)) = true := decide_eq_true c7; have c7b1 : decide (2 < l0.length) = true := decide_eq_true (by omega); clear c7
     by_cases c8 : 3 < (l0.length : Int)
     ·rw [if_pos c8] at H
      have c8b0 : decide (3 < (l0.length : Int)) = true := decide_eq_true c8; have c8b1 : decide (3 < l0.length) = true := decide_eq_true (by omega); clear c8
      by_cases c9 : 4 < (l0.length : Int)
      ·rw [if_pos c9] at H
       have c9b0 : decide (4 < (l0.length : Int)) = true := decide_eq_true c9; have c9b1 : decide (4 < l0.length) = true := decide_eq_true (by omega); clear c9
       by_cases c10 : 5 < (l0.length : Int)
       ·rw [if_pos c10] at H
        have c10b0 : decide (5 < (l0.length : Int)) = true := decide_eq_true c10; have c10b1 : decide (5 < l0.length) = true := decide_eq_true (by omega); clear c10
        by_cases c11 : 6 < (l0.length : Int)
        ·rw [if_pos c11] at H
         have c11b0 : decide (6 < (l0.length : Int)) = true := decide_eq_true c11; have c11b1 : decide (6 < l0.length) = true := decide_eq_true (by omega); clear c11
         by_cases c12 : 7 < (l0.length : Int)
         ·rw [if_pos c12] at H
          have c12b0 : decide (7 < (l0.length : Int)) = true := decide_eq_true c12; have c12b1 : decide (7 < l0.length) = true := decide_eq_true (by omega); clear c12
          by_cases c13 : 8 <= (l0.length : Int)
          ·rw [if_pos c13] at H
           have c13b0 := eq_true c13; have c13b1 : decide (8 <= (l0.length : Int)) = true := decide_eq_true c13; clear c13; replace H := Option.bind_eq_some_iff.mp H; obtain ⟨t676, A140, H⟩ := H
           (try dsimp -simprocs only at H)
           have A14 := Aside0.mk A140; clear A140; simp only [Option.some.injEq, Prod.mk.injEq] at H
           obtain ⟨rfl, rfl, rfl, rfl, rfl, rfl⟩ := H
           go_enter Try.func123, Try.ntmps123
           try go_wp2_with (first | ((with_reducible refine gate_dst (N := 2) rfl ?_); refine box_event ?hg (N := 2) ?hd (cs := #[.int .u8 0, .int .u8 0, .int .u16 0, .int .u32 0, .slice none 0 0]) (t := 101) ?hr ?_; (case hd => rfl); (case hg => rfl); (case hr => first | (go_simp; done) | (go_simp; rfl)); intro gb666 hg w15 hbox hb; have n0_ := Aside0.mk (below_step (bz HB) hb); have n1_ := Aside0.mk (hbox); have n2_ := Aside0.mk ((by rw [hg]; exact (below_size (bz HB)) : w.heap.size <= gb666)); have n3_ := Aside0.mk ((by rw [hg]; exact (below_size (bz HB)) : w.heap.size <= gb666)); clear HB; have HB := n0_; have BK666 := n1_; have GW666 := n2_; have GE666 := n3_; clear n0_ n1_ n2_ n3_; clear hb hbox hg))
           have n0_ := Aside0.mk (blk_drew BK666.out); have n1_ := Aside0.mk (below_drew1 HB.out); clear BK666; clear HB; have BK666 := n0_; have HB := n1_; clear n0_ n1_; have p667 : 0 <= (0 : Int) := (by omega)
           have q667 : 0 < (l0.length : Int) := odt; obtain ⟨ad667, e667, hx667_0⟩ := Kd.at_int HR0.out 0 p667 q667; have hw667_0 := hx667_0
           (try rw [show ((0 : Int)).toNat = 0 from rfl] at hw667_0)
           (try rw [show 0 * 1 = 0 from rfl] at hw667_0)
           (try rw [Addr.add_zero'] at hw667_0)
           cases e667
           have qi667 : (0 < l0.length) = True := eq_true (by omega)
           (try rw [show ((0 : Int)).toNat = 0 from rfl] at hx667_0)
           (try rw [Addr.add_zero'] at hx667_0)
           replace hx667_0 := (HB.out.cell (World.block_lt_of_cell? w _ hx667_0)).trans hx667_0; replace p667 := eq_true p667; replace q667 := eq_true q667; have p668 : 0 <= (1 : Int) := (by omega)
           have q668 : 1 < (l0.length : Int) := odt; obtain ⟨ad668, e668, hx668_0⟩ := Kd.at_int HR0.out 1 p668 q668; have hw668_0 := hx668_0
           (try rw [show ((1 : Int)).toNat = 1 from rfl] at hw668_0)
           (try rw [show 1 * 1 = 1 from rfl] at hw668_0)
           (try simp only [Nat.reduceMul, Nat.reduceEqDiff, Go.Addr.add, ↓reduceIte] at hw668_0)
           obtain rfl : ad667 = ad668 := (by injection e668)
           (try simp only [show (1 : Int).toNat = 1 from rfl, Nat.reduceMul, Nat.reduceEqDiff, Go.Addr.add, ↓reduceIte] at hx668_0)
           have qi668 : (1 < l0.length) = True := eq_true (by omega)
           (try rw [show ((1 : Int)).toNat = 1 from rfl] at hx668_0)
           replace hx668_0 := (HB.out.cell (World.block_lt_of_cell? w _ hx668_0)).trans hx668_0; replace p668 := eq_true p668; replace q668 := eq_true q668; have p669 : 0 <= (2 : Int) := (by omega)
           have q669 : 2 < (l0.length : Int) := odt; obtain ⟨ad669, e669, hx669_0⟩ := Kd.at_int HR0.out 2 p669 q669; have hw669_0 := hx669_0
           (try rw [show ((2 : Int)).toNat = 2 from rfl] at hw669_0)
           (try rw [show 2 * 1 = 2 from rfl] at hw669_0)
           (try simp only [Nat.reduceMul, Nat.reduceEqDiff, Go.Addr.add, ↓reduceIte] at hw669_0)
           obtain rfl : ad667 = ad669 := (by injection e669)
           (try simp only [show (2 : Int).toNat = 2 from rfl, Nat.reduceMul, Nat.reduceEqDiff, Go.Addr.add, ↓reduceIte] at hx669_0)
           have qi669 : (2 < l0.length) = True := eq_true (by omega)
           (try rw [show ((2 : Int)).toNat = 2 from rfl] at hx669_0)
           replace hx669_0 := (HB.out.cell (World.block_lt_of_cell? w _ hx669_0)).trans hx669_0; replace p669 := eq_true p669; replace q669 := eq_true q669; have p670 : 0 <= (3 : Int) := (by omega)
           have q670 : 3 < (l0.length : Int) := odt; obtain ⟨ad670, e670, hx670_0⟩ := Kd.at_int HR0.out 3 p670 q670; have hw670_0 := hx670_0
           (try rw [show ((3 : Int)).toNat = 3 from rfl] at hw670_0)
           (try rw [show 3 * 1 = 3 from rfl] at hw670_0)
           (try simp only [Nat.reduceMul, Nat.reduceEqDiff, Go.Addr.add, ↓reduceIte] at hw670_0)
           obtain rfl : ad667 = ad670 := (by injection e670)
           (try simp only [show (3 : Int).toNat = 3 from rfl, Nat.reduceMul, Nat.reduceEqDiff, Go.Addr.add, ↓reduceIte] at hx670_0)
           have qi670 : (3 < l0.length) = True := eq_true (by omega)
           (try rw [show ((3 : Int)).toNat = 3 from rfl] at hx670_0)
           replace hx670_0 := (HB.out.cell (World.block_lt_of_cell? w _ hx670_0)).trans hx670_0; replace p670 := eq_true p670; replace q670 := eq_true q670; have p671 : 0 <= (4 : Int) := (by omega)
           have q671 : 4 < (l0.length : Int) := odt; obtain ⟨ad671, e671, hx671_0⟩ := Kd.at_int HR0.out 4 p671 q671; have hw671_0 := hx671_0
           (try rw [show ((4 : Int)).toNat = 4 from rfl] at hw671_0)
           (try rw [show 4 * 1 = 4 from rfl] at hw671_0)
           (try simp only [Nat.reduceMul, Nat.reduceEqDiff, Go.Addr.add, ↓reduceIte] at hw671_0)
           obtain rfl : ad667 = ad671 := (by injection e671)
           (try simp only [show (4 : Int).toNat = 4 from rfl, Nat.reduceMul, Nat.reduceEqDiff, Go.Addr.add, ↓reduceIte] at hx671_0)
           have qi671 : (4 < l0.length) = True := eq_true (by omega)
           (try rw [show ((4 : Int)).toNat = 4 from rfl] at hx671_0)
           replace hx671_0 := (HB.out.cell (World.block_lt_of_cell? w _ hx671_0)).trans hx671_0; replace p671 := eq_true p671; replace q671 := eq_true q671; have p672 : 0 <= (5 : Int) := (by omega)
           have q672 : 5 < (l0.length : Int) := odt; obtain ⟨ad672, e672, hx672_0⟩ := Kd.at_int HR0.out 5 p672 q672; have hw672_0 := hx672_0
           (try rw [show ((5 : Int)).toNat = 5 from rfl] at hw672_0)
           (try rw [show 5 * 1 = 5 from rfl] at hw672_0)
           (try simp only [Nat.reduceMul, Nat.reduceEqDiff, Go.Addr.add, ↓reduceIte] at hw672_0)
           obtain rfl : ad667 = ad672 := (by injection e672)
           (try simp only [show (5 : Int).toNat = 5 from rfl, Nat.reduceMul, Nat.reduceEqDiff, Go.Addr.add, ↓reduceIte] at hx672_0)
           have qi672 : (5 < l0.length) = True := eq_true (by omega)
           (try rw [show ((5 : Int)).toNat = 5 from rfl] at hx672_0)
           replace hx672_0 := (HB.out.cell (World.block_lt_of_cell? w _ hx672_0)).trans hx672_0; replace p672 := eq_true p672; replace q672 := eq_true q672; have p673 : 0 <= (6 : Int) := (by omega)
           have q673 : 6 < (l0.length : Int) := odt; obtain ⟨ad673, e673, hx673_0⟩ := Kd.at_int HR0.out 6 p673 q673; have hw673_0 := hx673_0
           (try rw [show ((6 : Int)).toNat = 6 from rfl] at hw673_0)
           (try rw [show 6 * 1 = 6 from rfl] at hw673_0)
           (try simp only [Nat.reduceMul, Nat.reduceEqDiff, Go.Addr.add, ↓reduceIte] at hw673_0)
           obtain rfl : ad667 = ad673 := (by injection e673)
           (try simp only [show (6 : Int).toNat = 6 from rfl, Nat.reduceMul, Nat.reduceEqDiff, Go.Addr.add, ↓reduceIte] at hx673_0)
           have qi673 : (6 < l0.length) = True := eq_true (by omega)
           (try rw [show ((6 : Int)).toNat = 6 from rfl] at hx673_0)
           replace hx673_0 := (HB.out.cell (World.block_lt_of_cell? w _ hx673_0)).trans hx673_0; replace p673 := eq_true p673; replace q673 := eq_true q673; have p674 : 0 <= (7 : Int) := (by omega)
           have q674 : 7 < (l0.length : Int) := odt; obtain ⟨ad674, e674, hx674_0⟩ := Kd.at_int HR0.out 7 p674 q674; have hw674_0 := hx674_0
           (try rw [show ((7 : Int)).toNat = 7 from rfl] at hw674_0)
           (try rw [show 7 * 1 = 7 from rfl] at hw674_0)
           (try simp only [Nat.reduceMul, Nat.reduceEqDiff, Go.Addr.add, ↓reduceIte] at hw674_0)
           obtain rfl : ad667 = ad674 := (by injection e674)
           (try simp only [show (7 : Int).toNat = 7 from rfl, Nat.reduceMul, Nat.reduceEqDiff, Go.Addr.add, ↓reduceIte] at hx674_0)
           have qi674 : (7 < l0.length) = True := eq_true (by omega)
           (try rw [show ((7 : Int)).toNat = 7 from rfl] at hx674_0)
           replace hx674_0 := (HB.out.cell (World.block_lt_of_cell? w _ hx674_0)).trans hx674_0; replace p674 := eq_true p674; replace q674 := eq_true q674; obtain ⟨i017, hi017, _, hsz17, _⟩ := info_parts info5; obtain ⟨A17, hcut17, hA17, hC17⟩ := print_drop_of (P := Try.prog) (Value.int .u8) 0 23 5 .i64 Try.underlying23 hi017 hsz17 (some ad667) c0 l0 8 (by omega) odt HC0.out; have HR675 := Aside0.mk (Kd.C_of_reads (h1 := fun _ => rfl) (hA17 _ (Kd.reads_of_C HR0.out))); have HC675 := Aside0.mk hC17; clear hA17 hC17 hi017 hsz17
           refine start_ (n := 44) (S := fun w' => w'.cell? ad667 = some (.int .u8 (rd l0 0)) /\ w'.cell? ⟨ad667.block, ad667.off + 1, none⟩ = some (.int .u8 (rd l0 1)) /\ w'.cell? ⟨ad667.block, ad667.off + 2, none⟩ = some (.int .u8 (rd l0 2)) /\ w'.cell? ⟨ad667.block, ad667.off + 3, none⟩ = some (.int .u8 (rd l0 3)) /\ w'.cell? ⟨ad667.block, ad667.off + 4, none⟩ = some (.int .u8 (rd l0 4)) /\ w'.cell? ⟨ad667.block, ad667.off + 5, none⟩ = some (.int .u8 (rd l0 5)) /\ w'.cell? ⟨ad667.block, ad667.off + 6, none⟩ = some (.int .u8 (rd l0 6)) /\ w'.cell? ⟨ad667.block, ad667.off + 7, none⟩ = some (.int .u8 (rd l0 7))) (ds := []) #[false, false, false, false, false, false, false, false, false, false, false, false, false, false, false, false, false, false, false, false, false, false, false, false, false, false, false, false, false, false, false, false, false, false, false, false, false, false, false, false, false, false, false, false] (by kernel_rfl) rfl rfl ⟨((HB.out.cell (World.block_lt_of_cell? w _ hw667_0)).trans hw667_0), ((HB.out.cell (World.block_lt_of_cell? w _ hw668_0)).trans hw668_0), ((HB.out.cell (World.block_lt_of_cell? w _ hw669_0)).trans hw669_0), ((HB.out.cell (World.block_lt_of_cell? w _ hw670_0)).trans hw670_0), ((HB.out.cell (World.block_lt_of_cell? w _ hw671_0)).trans hw671_0), ((HB.out.cell (World.block_lt_of_cell? w _ hw672_0)).trans hw672_0), ((HB.out.cell (World.block_lt_of_cell? w _ hw673_0)).trans hw673_0), ((HB.out.cell (World.block_lt_of_cell? w _ hw674_0)).trans hw674_0)⟩ (fun hHeld => ?_); refine with_tabW icmp_Parse.tab3 icmp_Parse.bits3 (fun HT_ HW_ => ?_)
           generalize w15.drew = w16 at BK666 HB HR675 hx667_0 hx668_0 hx669_0 hx670_0 hx671_0 hx672_0 hx673_0 hx674_0 hHeld |-
           refine pz 0 8 HT_ ?_; refine pz 1 9 HT_ ?_; refine pz 3 11 HT_ ?_; refine pz 4 12 HT_ ?_; refine pz 6 14 HT_ ?_; refine pz 7 15 HT_ ?_; refine pz 11 19 HT_ ?_; refine pz 12 20 HT_ ?_; refine pz 16 24 HT_ ?_; refine pz 17 25 HT_ ?_; refine pz 21 29 HT_ ?_; refine pz 22 30 HT_ ?_; refine pz 27 35 HT_ ?_; refine pz 28 36 HT_ ?_; refine pz 33 41 HT_ ?_; refine pz 34 42 HT_ ?_; refine pz 38 46 HT_ ?_; refine pz 39 47 HT_ ?_; refine take_ (i := 2) (N := some 10) (v := ?_) (a' := ?_) #[true, true, true, true, true, false, true, true, false, false, false, true, true, false, false, false, true, true, false, false, false, true, true, false, false, false, false, true, true, false, false, false, false, true, true, false, false, false, true, true, false, false, false, false] rfl rfl (take_ofW HT_.out HW_.out (by kernel_rfl)) (fun _ _ _ h => h) (Or.inl ⟨by rfl, ?_⟩) hHeld ?_ ?_
           rotate_left
           ·rintro w' ⟨s0, s1, s2, s3, s4, s5, s6, s7⟩
            go_simp
            with_reducible rfl
           rotate_left
           ·simp only [ps_]
            rfl
           refine take_ (i := 5) (N := some 13) (v := ?_) (a' := ?_) #[true, true, true, true, true, true, true, true, false, false, false, true, true, false, false, false, true, true, false, false, false, true, true, false, false, false, false, true, true, false, false, false, false, true, true, false, false, false, true, true, false, false, false, false] rfl rfl (take_ofW HT_.out HW_.out (by kernel_rfl)) (fun _ _ _ h => h) (Or.inl ⟨by rfl, ?_⟩) hHeld ?_ ?_
           rotate_left
           ·rintro w' ⟨s0, s1, s2, s3, s4, s5, s6, s7⟩
            go_simp
            with_reducible rfl
           rotate_left
           ·simp only [ps_]
            rfl
           refine take_ (i := 8) (N := some 16) (v := ?_) (a' := ?_) #[true, true, true, true, true, true, true, true, true, false, false, true, true, false, false, false, true, true, false, false, false, true, true, false, false, false, false, true, true, false, false, false, false, true, true, false, false, false, true, true, false, false, false, false] rfl rfl (take_ofW HT_.out HW_.out (by kernel_rfl)) (fun _ _ _ h => h) (Or.inl ⟨by rfl, ?_⟩) hHeld ?_ ?_
           rotate_left
           ·rintro w' ⟨s0, s1, s2, s3, s4, s5, s6, s7⟩
            go_simp
            with_reducible rfl
           rotate_left
           ·simp only [ps_]
            rfl
           refine pz 9 17 HT_ ?_; refine pz 10 18 HT_ ?_; refine take_ (i := 13) (N := some 21) (v := ?_) (a' := ?_) #[true, true, true, true, true, true, true, true, true, true, true, true, true, true, false, false, true, true, false, false, false, true, true, false, false, false, false, true, true, false, false, false, false, true, true, false, false, false, true, true, false, false, false, false] rfl rfl (take_ofW HT_.out HW_.out (by kernel_rfl)) (fun _ _ _ h => h) (Or.inl ⟨by rfl, ?_⟩) hHeld ?_ ?_
           rotate_left
           ·rintro w' ⟨s0, s1, s2, s3, s4, s5, s6, s7⟩
            go_simp
            with_reducible rfl
           rotate_left
           ·simp only [ps_]
            rfl
           refine pz 14 22 HT_ ?_; refine pz 15 23 HT_ ?_; refine take_ (i := 18) (N := some 26) (v := ?_) (a' := ?_) #[true, true, true, true, true, true, true, true, true, true, true, true, true, true, true, true, true, true, true, false, false, true, true, false, false, false, false, true, true, false, false, false, false, true, true, false, false, false, true, true, false, false, false, false] rfl rfl (take_ofW HT_.out HW_.out (by kernel_rfl)) (fun _ _ _ h => h) (Or.inl ⟨by rfl, ?_⟩) hHeld ?_ ?_
           rotate_left
           ·rintro w' ⟨s0, s1, s2, s3, s4, s5, s6, s7⟩
            go_simp
            with_reducible rfl
           rotate_left
           ·simp only [ps_]
            rfl
           refine pz 19 27 HT_ ?_; refine pz 20 28 HT_ ?_; refine take_ (i := 23) (N := some 31) (v := ?_) (a' := ?_) #[true, true, true, true, true, true, true, true, true, true, true, true, true, true, true, true, true, true, true, true, true, true, true, true, false, false, false, true, true, false, false, false, false, true, true, false, false, false, true, true, false, false, false, false] rfl rfl (take_ofW HT_.out HW_.out (by kernel_rfl)) (fun _ _ _ h => h) (Or.inl ⟨by rfl, ?_⟩) hHeld ?_ ?_
           rotate_left
           ·rintro w' ⟨s0, s1, s2, s3, s4, s5, s6, s7⟩
            go_simp
            with_reducible rfl
           rotate_left
           ·simp only [ps_]
            rfl
           refine pz 24 32 HT_ ?_; refine pz 25 33 HT_ ?_; refine pz 26 34 HT_ ?_; refine take_ (i := 29) (N := some 37) (v := ?_) (a' := ?_) #[true, true, true, true, true, true, true, true, true, true, true, true, true, true, true, true, true, true, true, true, true, true, true, true, true, true, true, true, true, true, false, false, false, true, true, false, false, false, true, true, false, false, false, false] rfl rfl (take_ofW HT_.out HW_.out (by kernel_rfl)) (fun _ _ _ h => h) (Or.inl ⟨by rfl, ?_⟩) hHeld ?_ ?_
           rotate_left
           ·rintro w' ⟨s0, s1, s2, s3, s4, s5, s6, s7⟩
            go_simp
            with_reducible rfl
           rotate_left
           ·simp only [ps_]
            rfl
           refine pz 30 38 HT_ ?_; refine pz 31 39 HT_ ?_; refine pz 32 40 HT_ ?_; refine take_ (i := 35) (N := some 43) (v := ?_) (a' := ?_) #[true, true, true, true, true, true, true, true, true, true, true, true, true, true, true, true, true, true, true, true, true, true, true, true, true, true, true, true, true, true, true, true, true, true, true, true, false, false, true, true, false, false, false, false] rfl rfl (take_ofW HT_.out HW_.out (by kernel_rfl)) (fun _ _ _ h => h) (Or.inl ⟨by rfl, ?_⟩) hHeld ?_ ?_
           rotate_left
           ·rintro w' ⟨s0, s1, s2, s3, s4, s5, s6, s7⟩
            go_simp
            with_reducible rfl
           rotate_left
           ·simp only [ps_]
            rfl
           refine pz 36 44 HT_ ?_; refine pz 37 45 HT_ ?_; refine oz 40 (some 48) HT_ (fun K hK => ?_); refine goes_ Try.func97 (by kernel_rfl) rfl #[.slice A17 (l0.drop 8).length (c0 - 8)] (by rfl) rfl rfl (by (try simp only [List.map_toArray, List.map_cons, List.map_nil]); first | done | (rw [show (l0.drop 8).length = (l0.length - 8) from List.length_drop] <;> rfl) | rfl | (simp only [List.length_drop, List.length_take]; rfl) | (go_simp; done) | (simp [Act.eval, IntKind.signed]; done) | (simp [Act.eval, IntKind.signed]; rfl)) ?_
           with_reducible refine (slices_Clone_byte_byte.calls _ _ (l0.drop 8) t676 _ ?side1 ?side2 A14.out).mono ?_
           (case side1 => exact Kd.C_below HR675.out (bz HB))
           (case side2 => exact HC675.out)
           rintro e w18 ⟨v677, rfl, ho0, hb⟩; refine ⟨_, rfl, ?_⟩; have n0_ := Aside0.mk (Kd.R_lower ho0 (below_size (bz HB))); have n1_ := Aside0.mk (blk_below (kz BK666) hb); have n2_ := Aside0.mk (below_step (bz HB) hb); clear BK666; clear HB; have HO678 := n0_; have BK666 := n1_; have HB := n2_; clear n0_ n1_ n2_
           (try clear hb)
           (try clear hb2)
           (try clear hk)
           (try clear hi)
           (try clear ho0)
           obtain ⟨Ao19, co19, eo19⟩ := Kd.R_slice HO678.out
           (first | subst eo19 | (injection eo19 with f1_ f2_ f3_; have f4_ := f1_.symm; have f5_ := f3_.symm; clear f1_ f2_ f3_; subst f4_; subst f5_))
           refine hK.out _ _ ⟨((HB.out.cell (World.block_lt_of_cell? w _ hw667_0)).trans hw667_0), ((HB.out.cell (World.block_lt_of_cell? w _ hw668_0)).trans hw668_0), ((HB.out.cell (World.block_lt_of_cell? w _ hw669_0)).trans hw669_0), ((HB.out.cell (World.block_lt_of_cell? w _ hw670_0)).trans hw670_0), ((HB.out.cell (World.block_lt_of_cell? w _ hw671_0)).trans hw671_0), ((HB.out.cell (World.block_lt_of_cell? w _ hw672_0)).trans hw672_0), ((HB.out.cell (World.block_lt_of_cell? w _ hw673_0)).trans hw673_0), ((HB.out.cell (World.block_lt_of_cell? w _ hw674_0)).trans hw674_0)⟩ (fun hHeld => ?_); clear hK K; refine nz 48 ?_; refine pz 41 49 HT_ ?_; refine oz 42 (none) HT_ (fun K hK => ?_); have hs20_ := cs5 BK666.out; have hfs20_ := blk_frozen BK666.out; refine skip_ (w1 := ?_) (by rfl) rfl ?_ ?_
           rotate_left
           ·go_simp
            rfl
           refine hK.out _ _ ⟨((cell_far (p := ⟨gb666, _, none⟩) (by first | exact far1 hw667_0 GW666.out | exact far2 hw667_0 GW666.out) _).trans (((cell_far (p := ⟨gb666, _, none⟩) (by first | exact far1 hw667_0 GW666.out | exact far2 hw667_0 GW666.out) _).trans (((cell_far (p := ⟨gb666, _, none⟩) (by first | exact far1 hw667_0 GW666.out | exact far2 hw667_0 GW666.out) _).trans (((cell_far (p := ⟨gb666, _, none⟩) (by first | exact far1 hw667_0 GW666.out | exact far2 hw667_0 GW666.out) _).trans (((cell_far (p := ⟨gb666, _, none⟩) (by first | exact far1 hw667_0 GW666.out | exact far2 hw667_0 GW666.out) _).trans (hHeld.1)))))))))), ((cell_far (p := ⟨gb666, _, none⟩) (by first | exact far1 hw668_0 GW666.out | exact far2 hw668_0 GW666.out) _).trans (((cell_far (p := ⟨gb666, _, none⟩) (by first | exact far1 hw668_0 GW666.out | exact far2 hw668_0 GW666.out) _).trans (((cell_far (p := ⟨gb666, _, none⟩) (by first | exact far1 hw668_0 GW666.out | exact far2 hw668_0 GW666.out) _).trans (((cell_far (p := ⟨gb666, _, none⟩) (by first | exact far1 hw668_0 GW666.out | exact far2 hw668_0 GW666.out) _).trans (((cell_far (p := ⟨gb666, _, none⟩) (by first | exact far1 hw668_0 GW666.out | exact far2 hw668_0 GW666.out) _).trans (hHeld.2.1)))))))))), ((cell_far (p := ⟨gb666, _, none⟩) (by first | exact far1 hw669_0 GW666.out | exact far2 hw669_0 GW666.out) _).trans (((cell_far (p := ⟨gb666, _, none⟩) (by first | exact far1 hw669_0 GW666.out | exact far2 hw669_0 GW666.out) _).trans (((cell_far (p := ⟨gb666, _, none⟩) (by first | exact far1 hw669_0 GW666.out | exact far2 hw669_0 GW666.out) _).trans (((cell_far (p := ⟨gb666, _, none⟩) (by first | exact far1 hw669_0 GW666.out | exact far2 hw669_0 GW666.out) _).trans (((cell_far (p := ⟨gb666, _, none⟩) (by first | exact far1 hw669_0 GW666.out | exact far2 hw669_0 GW666.out) _).trans (hHeld.2.2.1)))))))))), ((cell_far (p := ⟨gb666, _, none⟩) (by first | exact far1 hw670_0 GW666.out | exact far2 hw670_0 GW666.out) _).trans (((cell_far (p := ⟨gb666, _, none⟩) (by first | exact far1 hw670_0 GW666.out | exact far2 hw670_0 GW666.out) _).trans (((cell_far (p := ⟨gb666, _, none⟩) (by first | exact far1 hw670_0 GW666.out | exact far2 hw670_0 GW666.out) _).trans (((cell_far (p := ⟨gb666, _, none⟩) (by first | exact far1 hw670_0 GW666.out | exact far2 hw670_0 GW666.out) _).trans (((cell_far (p := ⟨gb666, _, none⟩) (by first | exact far1 hw670_0 GW666.out | exact far2 hw670_0 GW666.out) _).trans (hHeld.2.2.2.1)))))))))), ((cell_far (p := ⟨gb666, _, none⟩) (by first | exact far1 hw671_0 GW666.out | exact far2 hw671_0 GW666.out) _).trans (((cell_far (p := ⟨gb666, _, none⟩) (by first | exact far1 hw671_0 GW666.out | exact far2 hw671_0 GW666.out) _).trans (((cell_far (p := ⟨gb666, _, none⟩) (by first | exact far1 hw671_0 GW666.out | exact far2 hw671_0 GW666.out) _).trans (((cell_far (p := ⟨gb666, _, none⟩) (by first | exact far1 hw671_0 GW666.out | exact far2 hw671_0 GW666.out) _).trans (((cell_far (p := ⟨gb666, _, none⟩) (by first | exact far1 hw671_0 GW666.out | exact far2 hw671_0 GW666.out) _).trans (hHeld.2.2.2.2.1)))))))))), ((cell_far (p := ⟨gb666, _, none⟩) (by first | exact far1 hw672_0 GW666.out | exact far2 hw672_0 GW666.out) _).trans (((cell_far (p := ⟨gb666, _, none⟩) (by first | exact far1 hw672_0 GW666.out | exact far2 hw672_0 GW666.out) _).trans (((cell_far (p := ⟨gb666, _, none⟩) (by first | exact far1 hw672_0 GW666.out | exact far2 hw672_0 GW666.out) _).trans (((cell_far (p := ⟨gb666, _, none⟩) (by first | exact far1 hw672_0 GW666.out | exact far2 hw672_0 GW666.out) _).trans (((cell_far (p := ⟨gb666, _, none⟩) (by first | exact far1 hw672_0 GW666.out | exact far2 hw672_0 GW666.out) _).trans (hHeld.2.2.2.2.2.1)))))))))), ((cell_far (p := ⟨gb666, _, none⟩) (by first | exact far1 hw673_0 GW666.out | exact far2 hw673_0 GW666.out) _).trans (((cell_far (p := ⟨gb666, _, none⟩) (by first | exact far1 hw673_0 GW666.out | exact far2 hw673_0 GW666.out) _).trans (((cell_far (p := ⟨gb666, _, none⟩) (by first | exact far1 hw673_0 GW666.out | exact far2 hw673_0 GW666.out) _).trans (((cell_far (p := ⟨gb666, _, none⟩) (by first | exact far1 hw673_0 GW666.out | exact far2 hw673_0 GW666.out) _).trans (((cell_far (p := ⟨gb666, _, none⟩) (by first | exact far1 hw673_0 GW666.out | exact far2 hw673_0 GW666.out) _).trans (hHeld.2.2.2.2.2.2.1)))))))))), ((cell_far (p := ⟨gb666, _, none⟩) (by first | exact far1 hw674_0 GW666.out | exact far2 hw674_0 GW666.out) _).trans (((cell_far (p := ⟨gb666, _, none⟩) (by first | exact far1 hw674_0 GW666.out | exact far2 hw674_0 GW666.out) _).trans (((cell_far (p := ⟨gb666, _, none⟩) (by first | exact far1 hw674_0 GW666.out | exact far2 hw674_0 GW666.out) _).trans (((cell_far (p := ⟨gb666, _, none⟩) (by first | exact far1 hw674_0 GW666.out | exact far2 hw674_0 GW666.out) _).trans (((cell_far (p := ⟨gb666, _, none⟩) (by first | exact far1 hw674_0 GW666.out | exact far2 hw674_0 GW666.out) _).trans (hHeld.2.2.2.2.2.2.2))))))))))⟩ (fun hHeld => ?_)
           clear hK K; refine pz 43 3 HT_ ?_; refine dz HT_ ?_
           try go_wp2
           refine bodyPost_ret (results_ct rfl _ _ gb666 101 #[.int .u8 (rd l0 0), .int .u8 (rd l0 1), .int .u16 (Go.bits .or .u16 (IntKind.u16.wrap ((IntKind.u16.wrap (rd l0 2)) * 256)) (IntKind.u16.wrap (rd l0 3))), .int .u32 (Go.bits .or .u32 (Go.bits .or .u32 (Go.bits .or .u32 ((((rd l0 4) % 4294967296) * 16777216) % 4294967296) ((((rd l0 5) % 4294967296) * 65536) % 4294967296)) ((((rd l0 6) % 4294967296) * 256) % 4294967296)) ((rd l0 7) % 4294967296)), .slice Ao19 t676.length co19] (0, 0) _ rfl (by (with_reducible repeat (first | refine blk_drewN ?_ _ | refine blk_drew ?_ | refine blk_alloc ?_ _)); refine blk_put (cs := #[.int .u8 (rd l0 0), .int .u8 (rd l0 1), .int .u16 (Go.bits .or .u16 (IntKind.u16.wrap ((IntKind.u16.wrap (rd l0 2)) * 256)) (IntKind.u16.wrap (rd l0 3))), .int .u32 (Go.bits .or .u32 (Go.bits .or .u32 (Go.bits .or .u32 ((((rd l0 4) % 4294967296) * 16777216) % 4294967296) ((((rd l0 5) % 4294967296) * 65536) % 4294967296)) ((((rd l0 6) % 4294967296) * 256) % 4294967296)) ((rd l0 7) % 4294967296)), .slice none 0 0]) ?_ 4 _ rfl; (with_reducible repeat (first | refine blk_drewN ?_ _ | refine blk_drew ?_ | refine blk_alloc ?_ _)); refine blk_put (cs := #[.int .u8 (rd l0 0), .int .u8 (rd l0 1), .int .u16 (Go.bits .or .u16 (IntKind.u16.wrap ((IntKind.u16.wrap (rd l0 2)) * 256)) (IntKind.u16.wrap (rd l0 3))), .int .u32 0, .slice none 0 0]) ?_ 3 _ rfl; (with_reducible repeat (first | refine blk_drewN ?_ _ | refine blk_drew ?_ | refine blk_alloc ?_ _)); refine blk_put (cs := #[.int .u8 (rd l0 0), .int .u8 (rd l0 1), .int .u16 0, .int .u32 0, .slice none 0 0]) ?_ 2 _ rfl; (with_reducible repeat (first | refine blk_drewN ?_ _ | refine blk_drew ?_ | refine blk_alloc ?_ _)); refine blk_put (cs := #[.int .u8 (rd l0 0), .int .u8 0, .int .u16 0, .int .u32 0, .slice none 0 0]) ?_ 1 _ rfl; (with_reducible repeat (first | refine blk_drewN ?_ _ | refine blk_drew ?_ | refine blk_alloc ?_ _)); refine blk_put (cs := #[.int .u8 0, .int .u8 0, .int .u16 0, .int .u32 0, .slice none 0 0]) ?_ 0 _ rfl; (with_reducible repeat (first | refine blk_drewN ?_ _ | refine blk_drew ?_ | refine blk_alloc ?_ _)); exact BK666.out) Try.underlying101 rfl (by kernel_rfl)) rfl ?_
           exact ⟨_, by first | rfl | (simp [errW_none, errW_some] <;> rfl) | (simp [*, errW_none, errW_some] <;> rfl), by (with_reducible repeat (first | apply Kd.R_alloc | apply Kd.R_drewN | apply Kd.R_drew)); exact Kd.R_mono (Kd.R_far (p := ⟨gb666, 4, none⟩) (Kd.R_far (p := ⟨gb666, 3, none⟩) (Kd.R_far (p := ⟨gb666, 2, none⟩) (Kd.R_far (p := ⟨gb666, 1, none⟩) (Kd.R_far (p := ⟨gb666, 0, none⟩) (Kd.R_types HO678.out BK666.out (by decide)) (fun _ hk => hk.2) (.int .u8 (rd l0 0))) (fun _ hk => hk.2) (.int .u8 (rd l0 1))) (fun _ hk => hk.2) (.int .u16 (Go.bits .or .u16 (IntKind.u16.wrap ((IntKind.u16.wrap (rd l0 2)) * 256)) (IntKind.u16.wrap (rd l0 3))))) (fun _ hk => hk.2) (.int .u32 (Go.bits .or .u32 (Go.bits .or .u32 (Go.bits .or .u32 ((((rd l0 4) % 4294967296) * 16777216) % 4294967296) ((((rd l0 5) % 4294967296) * 65536) % 4294967296)) ((((rd l0 6) % 4294967296) * 256) % 4294967296)) ((rd l0 7) % 4294967296)))) (fun _ hk => hk.2) (.slice Ao19 t676.length co19)) (fun _ hk => trivial), bz HB⟩
          ·rw [if_neg c13] at H
           exact absurd H (by simp)
         ·rw [if_neg c12] at H
          exact absurd H (by simp)
        ·rw [if_neg c11] at H
         exact absurd H (by simp)
       ·rw [if_neg c10] at H
        exact absurd H (by simp)
      ·rw [if_neg c9] at H
       exact absurd H (by simp)
     ·rw [if_neg c8] at H
      exact absurd H (by simp)
    ·rw [if_neg c7] at H
     exact absurd H (by simp)
   ·rw [if_neg c6] at H
    exact absurd H (by simp)
  ·rw [if_neg c5] at H
   exact absurd H (by simp)
def icmp_kind.f (a0 : Int) : Option (Int) := if a0 = 0 then (some 8) else (if a0 = 8 then (some 8) else (if a0 = 3 then (some 3) else (if a0 = 11 then (some 3) else (if a0 = 12 then (some 3) else (some (-1))))))
theorem icmp_kind.calls (a0 : Int) (r : Int) (w : World) (h : icmp_kind.f a0 = some r) :
  Calls Try.prog 125 #[.int .u8 a0] w fun e w' => e = .returned (.int .i64 r) /\ Drawn0 w w' := by
 have H : (if a0 = 0 then (some 8) else (if a0 = 8 then (some 8) else (if a0 = 3 then (some 3) else (if a0 = 11 then (some 3) else (if a0 = 12 then (some 3) else (some (-1))))))) = some r := h; clear h
 by_cases c2 : a0 = 0
 ·rw [if_pos c2] at H
  have c2b0 : (a0 == 0) = true := beq_iff_eq.mpr c2; have c2b1 : (a0 != 0) = false := bne_eq_false_iff_eq.mpr c2; clear c2; obtain rfl := Option.some.inj H
  go_enter Try.func125, Try.ntmps125
  go_wp2
  go_ret
  exact ⟨by first | rfl | (simp; done) | (simp [*]; done), by repeat (first | exact Drawn0.refl _ | apply Drawn0.step)⟩
 ·rw [if_neg c2] at H
  have c2b0 : (a0 == 0) = false := beq_eq_false_iff_ne.mpr c2; have c2b1 : (a0 != 0) = true := bne_iff_ne.mpr c2
  by_cases c3 : a0 = 8
  ·rw [if_pos c3] at H
   have c3b0 : (a0 == 8) = true := beq_iff_eq.mpr c3; have c3b1 : (a0 != 8) = false := bne_eq_false_iff_eq.mpr c3; clear c3; obtain rfl := Option.some.inj H
   go_enter Try.func125, Try.ntmps125
   go_wp2
   go_ret
   exact ⟨by first | rfl | (simp; done) | (simp [*]; done), by repeat (first | exact Drawn0.refl _ | apply Drawn0.step)⟩
  ·rw [if_neg c3] at H
   have c3b0 : (a0 == 8) = false := beq_eq_false_iff_ne.mpr c3; have c3b1 : (a0 != 8) = true := bne_iff_ne.mpr c3
   by_cases c4 : a0 = 3
   ·rw [if_pos c4] at H
    have c4b0 : (a0 == 3) = true := beq_iff_eq.mpr c4; have c4b1 : (a0 != 3) = false := bne_eq_false_iff_eq.mpr c4; clear c4; obtain rfl := Option.some.inj H
    go_enter Try.func125, Try.ntmps125
    go_wp2
    go_ret
    exact ⟨by first | rfl | (simp; done) | (simp [*]; done), by repeat (first | exact Drawn0.refl _ | apply Drawn0.step)⟩
   ·rw [if_neg c4] at H
    have c4b0 : (a0 == 3) = false := beq_eq_false_iff_ne.mpr c4; have c4b1 : (a0 != 3) = true := bne_iff_ne.mpr c4
    by_cases c5 : a0 = 11
    ·rw [if_pos c5] at H
     have c5b0 : (a0 == 11) = true := beq_iff_eq.mpr c5; have c5b1 : (a0 != 11) = false := bne_eq_false_iff_eq.mpr c5; clear c5; obtain rfl := Option.some.inj H
     go_enter Try.func125, Try.ntmps125
     go_wp2
     go_ret
     exact ⟨by first | rfl | (simp; done) | (simp [*]; done), by repeat (first | exact Drawn0.refl _ | apply Drawn0.step)⟩
    ·rw [if_neg c5] at H
     have c5b0 : (a0 == 11) = false := beq_eq_false_iff_ne.mpr c5; have c5b1 : (a0 != 11) = true := bne_iff_ne.mpr c5
     by_cases c6 : a0 = 12
     ·rw [if_pos c6] at H
      have c6b0 : (a0 == 12) = true := beq_iff_eq.mpr c6; have c6b1 : (a0 != 12) = false := bne_eq_false_iff_eq.mpr c6; clear c6; obtain rfl := Option.some.inj H
      go_enter Try.func125, Try.ntmps125
      go_wp2
      go_ret
      exact ⟨by first | rfl | (simp; done) | (simp [*]; done), by repeat (first | exact Drawn0.refl _ | apply Drawn0.step)⟩
     ·rw [if_neg c6] at H
      have c6b0 : (a0 == 12) = false := beq_eq_false_iff_ne.mpr c6; have c6b1 : (a0 != 12) = true := bne_iff_ne.mpr c6; obtain rfl := Option.some.inj H
      go_enter Try.func125, Try.ntmps125
      go_wp2
      go_ret
      exact ⟨by first | rfl | (simp; done) | (simp [*]; done), by repeat (first | exact Drawn0.refl _ | apply Drawn0.step)⟩
def icmp_Echo.f (a0_0 : Int) (a0_1 : Int) (a0_2 : Int) (a0_3 : Int) (l0_4 : List Int) : Option (Bool) := (icmp_kind.f a0_0).bind fun t680 => (if t680 = 8 then (some (a0_1 == 0)) else (some false))
theorem icmp_Echo.calls (a0_0 : Int) (a0_1 : Int) (a0_2 : Int) (a0_3 : Int) (A0_4 : Option Addr) (c0_4 : Nat) (l0_4 : List Int) (r : Bool) (w : World) (hr0_4 : Kd.C (Kd.int .u8) w A0_4 l0_4.length l0_4) (hc0_4 : l0_4.length <= c0_4) (h : icmp_Echo.f a0_0 a0_1 a0_2 a0_3 l0_4 = some r) :
  Calls Try.prog 105 #[.agg #[.int .u8 a0_0, .int .u8 a0_1, .int .u16 a0_2, .int .u32 a0_3, .slice A0_4 l0_4.length c0_4]] w fun e w' => e = .returned (.bool r) /\ Below w.heap.size w w' := by
 have hu101 := Try.underlying101; have HR0_4 := Aside0.mk hr0_4; have HC0_4 := Aside0.mk hc0_4; clear hr0_4 hc0_4; have HB := Aside0.mk (Below.refl w.heap.size w); have H : ((icmp_kind.f a0_0).bind fun t680 => (if t680 = 8 then (some (a0_1 == 0)) else (some false))) = some r := h; clear h; replace H := Option.bind_eq_some_iff.mp H; obtain ⟨t680, A20, H⟩ := H
 (try dsimp -simprocs only at H)
 have A2 := Aside0.mk A20; clear A20
 by_cases c3 : t680 = 8
 ·rw [if_pos c3] at H
  have c3b0 : (t680 == 8) = true := beq_iff_eq.mpr c3; have c3b1 : (t680 != 8) = false := bne_eq_false_iff_eq.mpr c3; clear c3; obtain rfl := Option.some.inj H
  go_enter Try.func105, Try.ntmps105
  go_wp2_with (first | ((with_reducible refine gate_dst (N := 1) rfl ?_); refine box_event ?hg (N := 1) ?hd (cs := #[.int .u8 a0_0, .int .u8 a0_1, .int .u16 a0_2, .int .u32 a0_3, .slice A0_4 l0_4.length c0_4]) (t := 101) ?hr ?_; (case hd => rfl); (case hg => rfl); (case hr => first | (go_simp; done) | (go_simp; rfl)); intro gb679 hg w4 hbox hb; have n0_ := Aside0.mk (below_step (bz HB) hb); have n1_ := Aside0.mk (hbox); have n2_ := Aside0.mk ((by rw [hg]; exact (below_size (bz HB)) : w.heap.size <= gb679)); have n3_ := Aside0.mk ((by rw [hg]; exact (below_size (bz HB)) : w.heap.size <= gb679)); clear HB; have HB := n0_; have BK679 := n1_; have GW679 := n2_; have GE679 := n3_; clear n0_ n1_ n2_ n3_; clear hb hbox hg; have hcz5_0 : w4.cell? ⟨gb679, 0, none⟩ = some (.int .u8 a0_0) := cz BK679.out 0 rfl; have hcz5_1 : w4.cell? ⟨gb679, 1, none⟩ = some (.int .u8 a0_1) := cz BK679.out 1 rfl; have hcz5_2 : w4.cell? ⟨gb679, 2, none⟩ = some (.int .u16 a0_2) := cz BK679.out 2 rfl; have hcz5_3 : w4.cell? ⟨gb679, 3, none⟩ = some (.int .u32 a0_3) := cz BK679.out 3 rfl; have hcz5_4 : w4.cell? ⟨gb679, 4, none⟩ = some (.slice A0_4 l0_4.length c0_4) := cz BK679.out 4 rfl; have hfz5_0 := blk_frozen BK679.out 0; have hfz5_1 := blk_frozen BK679.out 1; have hfz5_2 := blk_frozen BK679.out 2; have hfz5_3 := blk_frozen BK679.out 3; have hfz5_4 := blk_frozen BK679.out 4) | ((with_reducible refine gate_callee (f := 125) rfl ?_); refine gL 5 Try.func125 #[.int .u8 a0_0] ?_; (with_reducible refine (icmp_kind.calls a0_0 t680 _ A2.out).mono ?_); rintro e w' ⟨rfl, ⟨nd, rfl⟩⟩; refine ⟨_, rfl, ?_⟩))
  go_ret
  exact ⟨by first | rfl | (simp [errW_none, errW_some] <;> rfl) | (simp [*, errW_none, errW_some] <;> rfl), bz HB⟩
 ·rw [if_neg c3] at H
  have c3b0 : (t680 == 8) = false := beq_eq_false_iff_ne.mpr c3; have c3b1 : (t680 != 8) = true := bne_iff_ne.mpr c3; obtain rfl := Option.some.inj H
  go_enter Try.func105, Try.ntmps105
  go_wp2_with (first | ((with_reducible refine gate_dst (N := 1) rfl ?_); refine box_event ?hg (N := 1) ?hd (cs := #[.int .u8 a0_0, .int .u8 a0_1, .int .u16 a0_2, .int .u32 a0_3, .slice A0_4 l0_4.length c0_4]) (t := 101) ?hr ?_; (case hd => rfl); (case hg => rfl); (case hr => first | (go_simp; done) | (go_simp; rfl)); intro gb679 hg w6 hbox hb; have n0_ := Aside0.mk (below_step (bz HB) hb); have n1_ := Aside0.mk (hbox); have n2_ := Aside0.mk ((by rw [hg]; exact (below_size (bz HB)) : w.heap.size <= gb679)); have n3_ := Aside0.mk ((by rw [hg]; exact (below_size (bz HB)) : w.heap.size <= gb679)); clear HB; have HB := n0_; have BK679 := n1_; have GW679 := n2_; have GE679 := n3_; clear n0_ n1_ n2_ n3_; clear hb hbox hg; have hcz7_0 : w6.cell? ⟨gb679, 0, none⟩ = some (.int .u8 a0_0) := cz BK679.out 0 rfl; have hcz7_1 : w6.cell? ⟨gb679, 1, none⟩ = some (.int .u8 a0_1) := cz BK679.out 1 rfl; have hcz7_2 : w6.cell? ⟨gb679, 2, none⟩ = some (.int .u16 a0_2) := cz BK679.out 2 rfl; have hcz7_3 : w6.cell? ⟨gb679, 3, none⟩ = some (.int .u32 a0_3) := cz BK679.out 3 rfl; have hcz7_4 : w6.cell? ⟨gb679, 4, none⟩ = some (.slice A0_4 l0_4.length c0_4) := cz BK679.out 4 rfl; have hfz7_0 := blk_frozen BK679.out 0; have hfz7_1 := blk_frozen BK679.out 1; have hfz7_2 := blk_frozen BK679.out 2; have hfz7_3 := blk_frozen BK679.out 3; have hfz7_4 := blk_frozen BK679.out 4) | ((with_reducible refine gate_callee (f := 125) rfl ?_); refine gL 5 Try.func125 #[.int .u8 a0_0] ?_; (with_reducible refine (icmp_kind.calls a0_0 t680 _ A2.out).mono ?_); rintro e w' ⟨rfl, ⟨nd, rfl⟩⟩; refine ⟨_, rfl, ?_⟩))
  go_ret
  exact ⟨by first | rfl | (simp [errW_none, errW_some] <;> rfl) | (simp [*, errW_none, errW_some] <;> rfl), bz HB⟩
def rewrite_echo.f (l0 : List Int) : Option (Bool) := if 0 < (l0.length : Int) then (if 1 < (l0.length : Int) then ((icmp_Echo.f (rd l0 0) (rd l0 1) 0 0 ([] : List Int)).bind fun t683 => (some t683)) else (none)) else (none)
def rewrite_echo.T1 : Bool × List (List Nat × List Nat) := (true, [([], []), ([0], [0]), ([1], [1]), ([], []), ([3], [3]), ([4], [4]), ([2, 5], [2, 5]), ([6], [6]), ([7, 7, 0, 1, 2, 3, 4, 5, 6, 7], [7])])
def rewrite_echo.B1 : List Nat := [0, 1, 3, 0, 8, 24, 63, 127, 255]
theorem rewrite_echo.tab1 : rtab .any (opsOf Try.f114 1) = rewrite_echo.T1 := by kernel_rfl
theorem rewrite_echo.bits1 : waitsOk rewrite_echo.T1.2 rewrite_echo.B1 = true := by kernel_rfl
theorem rewrite_echo.calls (A0 : Option Addr) (c0 : Nat) (l0 : List Int) (r : Bool) (w : World) (hr0 : Kd.C (Kd.int .u8) w A0 l0.length l0) (hc0 : l0.length <= c0) (h : rewrite_echo.f l0 = some r) :
  Calls Try.prog 114 #[.slice A0 l0.length c0] w fun e w' => e = .returned (.bool r) /\ Below w.heap.size w w' := by
 have hu101 := Try.underlying101; have HR0 := Aside0.mk hr0; have HC0 := Aside0.mk hc0; clear hr0 hc0; have HB := Aside0.mk (Below.refl w.heap.size w); have H : (if 0 < (l0.length : Int) then (if 1 < (l0.length : Int) then ((icmp_Echo.f (rd l0 0) (rd l0 1) 0 0 ([] : List Int)).bind fun t683 => (some t683)) else (none)) else (none)) = some r := h; clear h
 by_cases c2 : 0 < (l0.length : Int)
 ·rw [if_pos c2] at H
  have c2b0 : decide (0 < (l0.length : Int)) = true := decide_eq_true c2; have c2b1 : decide (0 < l0.length) = true := decide_eq_true (by omega); clear c2
  by_cases c3 : 1 < (l0.length : Int)
  ·rw [if_pos c3] at H
   have c3b0 : decide (1 < (l0.length : Int)) = true := decide_eq_true c3; have c3b1 : decide (1 < l0.length) = true := decide_eq_true (by omega); clear c3; replace H := Option.bind_eq_some_iff.mp H; obtain ⟨t683, A40, H⟩ := H
   (try dsimp -simprocs only at H)
   have A4 := Aside0.mk A40; clear A40; obtain rfl := Option.some.inj H
   go_enter Try.func114, Try.ntmps114
   try go_wp2
   have n0_ := Aside0.mk (below_drew1 HB.out); clear HB; have HB := n0_; clear n0_; have p681 : 0 <= (0 : Int) := (by omega)
   have q681 : 0 < (l0.length : Int) := odt; obtain ⟨ad681, e681, hx681_0⟩ := Kd.at_int HR0.out 0 p681 q681; have hw681_0 := hx681_0
   (try rw [show ((0 : Int)).toNat = 0 from rfl] at hw681_0)
   (try rw [show 0 * 1 = 0 from rfl] at hw681_0)
   (try rw [Addr.add_zero'] at hw681_0)
   cases e681
   have qi681 : (0 < l0.length) = True := eq_true (by omega)
   (try rw [show ((0 : Int)).toNat = 0 from rfl] at hx681_0)
   (try rw [Addr.add_zero'] at hx681_0)
   replace hx681_0 := (HB.out.cell (World.block_lt_of_cell? w _ hx681_0)).trans hx681_0; replace p681 := eq_true p681; replace q681 := eq_true q681; have p682 : 0 <= (1 : Int) := (by omega)
   have q682 : 1 < (l0.length : Int) := odt; obtain ⟨ad682, e682, hx682_0⟩ := Kd.at_int HR0.out 1 p682 q682; have hw682_0 := hx682_0
   (try rw [show ((1 : Int)).toNat = 1 from rfl] at hw682_0)
   (try rw [show 1 * 1 = 1 from rfl] at hw682_0)
   (try simp only [Nat.reduceMul, Nat.reduceEqDiff, Go.Addr.add, ↓reduceIte] at hw682_0)
   obtain rfl : ad681 = ad682 := (by injection e682)
   (try simp only [show (1 : Int).toNat = 1 from rfl, Nat.reduceMul, Nat.reduceEqDiff, Go.Addr.add, ↓reduceIte] at hx682_0)
   have qi682 : (1 < l0.length) = True := eq_true (by omega)
   (try rw [show ((1 : Int)).toNat = 1 from rfl] at hx682_0)
   replace hx682_0 := (HB.out.cell (World.block_lt_of_cell? w _ hx682_0)).trans hx682_0; replace p682 := eq_true p682; replace q682 := eq_true q682; refine start_ (n := 9) (S := fun w' => w'.cell? ad681 = some (.int .u8 (rd l0 0)) /\ w'.cell? ⟨ad681.block, ad681.off + 1, none⟩ = some (.int .u8 (rd l0 1))) (ds := []) #[false, false, false, false, false, false, false, false, false] (by kernel_rfl) rfl rfl ⟨((HB.out.cell (World.block_lt_of_cell? w _ hw681_0)).trans hw681_0), ((HB.out.cell (World.block_lt_of_cell? w _ hw682_0)).trans hw682_0)⟩ (fun hHeld => ?_); refine with_tabW rewrite_echo.tab1 rewrite_echo.bits1 (fun HT_ HW_ => ?_); generalize w.drew = w5 at HB hx681_0 hx682_0 hHeld |-
   refine pz 0 3 HT_ ?_; refine pz 1 4 HT_ ?_; refine pz 3 6 HT_ ?_; refine pz 4 7 HT_ ?_; refine take_ (i := 2) (N := some 5) (v := ?_) (a' := ?_) #[true, true, true, true, true, false, false, false, false] rfl rfl (take_ofW HT_.out HW_.out (by kernel_rfl)) (fun _ _ _ h => h) (Or.inl ⟨by rfl, ?_⟩) hHeld ?_ ?_
   rotate_left
   ·rintro w' ⟨s0, s1⟩
    go_simp
    with_reducible rfl
   rotate_left
   ·simp only [ps_]
    rfl
   refine take_ (i := 5) (N := some 8) (v := ?_) (a' := ?_) #[true, true, true, true, true, true, false, false, false] rfl rfl (take_ofW HT_.out HW_.out (by kernel_rfl)) (fun _ _ _ h => h) (Or.inl ⟨by rfl, ?_⟩) hHeld ?_ ?_
   rotate_left
   ·rintro w' ⟨s0, s1⟩
    go_simp
    with_reducible rfl
   rotate_left
   ·simp only [ps_]
    rfl
   refine pz 6 9 HT_ ?_; refine oz 7 (some 10) HT_ (fun K hK => ?_); refine gG Try.func105 #[.agg #[.int .u8 (rd l0 0), .int .u8 (rd l0 1), .int .u16 0, .int .u32 0, .slice none 0 0]] ?_; refine (icmp_Echo.calls (rd l0 0) (rd l0 1) 0 0 _ _ ([] : List Int) t683 _ ?side1 ?side2 A4.out).mono ?_
   (case side1 => exact Kd.C_nil _ _)
   (case side2 => exact Nat.le_refl _)
   rintro e w6 ⟨rfl, hb⟩; refine ⟨_, rfl, ?_⟩; have n0_ := Aside0.mk (below_step (bz HB) hb); clear HB; have HB := n0_; clear n0_
   (try clear hb)
   (try clear hb2)
   (try clear hk)
   (try clear hi)
   refine hK.out _ _ ⟨((HB.out.cell (World.block_lt_of_cell? w _ hw681_0)).trans hw681_0), ((HB.out.cell (World.block_lt_of_cell? w _ hw682_0)).trans hw682_0)⟩ (fun hHeld => ?_); clear hK K; refine nz 10 ?_; refine pz 8 2 HT_ ?_; refine dz HT_ ?_
   try go_wp2
   go_ret
   exact ⟨by first | rfl | (simp [errW_none, errW_some] <;> rfl) | (simp [*, errW_none, errW_some] <;> rfl), bz HB⟩
  ·rw [if_neg c3] at H
   exact absurd H (by simp)
 ·rw [if_neg c2] at H
  exact absurd H (by simp)
theorem rewrite_of.of_icmp (a t i fl of_ s d : Int) (Ao : Option Addr) (no co : Nat) (Ab : Option Addr) (cb : Nat) (b : List Int) (mt mc ms mr e_ : Int) (mb : List Int) (w : World) (hb : Kd.C (Kd.int .u8) w Ab b.length b) (hc : b.length <= cb) (hp : icmp_Parse.f b = some (mt, mc, ms, mr, mb, e_)) :
  Calls Try.prog 103 #[.agg #[.int .u8 a, .int .u8 t, .int .u8 1, .int .u16 i, .int .u8 fl, .int .u16 of_, .int .u32 s, .int .u32 d, .slice Ao no co, .slice Ab b.length cb]] w fun e w' => ∃ v4 : Value, e = .returned (.tuple #[.iface 183 (.agg #[.int .u8 mt, .int .u8 mc, .int .u16 ms, .int .u32 mr, v4]), .int .i64 e_]) /\ Kd.R (Kd.int .u8) 5 w' w.heap.size (fun _ => True) v4 mb /\ Below w.heap.size w w' := by
 have HCb := Aside0.mk hb; have HLb := Aside0.mk hc; have HB := Aside0.mk (Below.refl w.heap.size w); have HI73 : Aside0 ((Try.prog.info? 73).map (·.size) = some 10) := ⟨by kernel_rfl⟩
 have HI83 : Aside0 ((Try.prog.info? 83).map (·.size) = some 4) := ⟨by kernel_rfl⟩
 have HI137 : Aside0 ((Try.prog.info? 137).map (·.size) = some 10) := ⟨by kernel_rfl⟩
 have HI101 : Aside0 ((Try.prog.info? 101).map (·.size) = some 5) := ⟨by kernel_rfl⟩
 have HP := Aside0.mk hp; clear hp; clear hb hc
 go_enter Try.func103, Try.ntmps103
 go_upto_region 1 with (((with_reducible refine gate_dst (N := 1) rfl ?_); refine Kd.event_run rfl (v := .pointer (some ⟨w.heap.size, 0, none⟩)) (w1 := w.alloc (.cells #[.int .u8 a, .int .u8 t, .int .u8 1, .int .u16 i, .int .u8 fl, .int .u16 of_, .int .u32 s, .int .u32 d, .slice Ao no co, .slice Ab b.length cb] 73)) (by first | (go_simp; done) | (go_simp; rfl)) ?_))
 obtain ⟨gp, hgp⟩ : ∃ x_, x_ = w.heap.size := ⟨_, rfl⟩
 have HXp : Aside0 ((w.alloc (.cells #[.int .u8 a, .int .u8 t, .int .u8 1, .int .u16 i, .int .u8 fl, .int .u16 of_, .int .u32 s, .int .u32 d, .slice Ao no co, .slice Ab b.length cb] 73)).heap[gp]? = some (.cells #[.int .u8 a, .int .u8 t, .int .u8 1, .int .u16 i, .int .u8 fl, .int .u16 of_, .int .u32 s, .int .u32 d, .slice Ao no co, .slice Ab b.length cb] 73 (0, 0))) := ⟨by rw [hgp]; exact rw_blknew _ _⟩
 have GHXp := Aside0.mk (show w.heap.size <= gp by rw [hgp]; exact below_size HB.out); rw [<- hgp]; clear hgp; have hb_ := below_alloc (Below.refl w.heap.size w) (.cells #[.int .u8 a, .int .u8 t, .int .u8 1, .int .u16 i, .int .u8 fl, .int .u16 of_, .int .u32 s, .int .u32 d, .slice Ao no co, .slice Ab b.length cb] 73); replace HB := mB HB hb_; replace HCb := mC HCb hb_; clear hb_; generalize (w.alloc (.cells #[.int .u8 a, .int .u8 t, .int .u8 1, .int .u16 i, .int .u8 fl, .int .u16 of_, .int .u32 s, .int .u32 d, .slice Ao no co, .slice Ab b.length cb] 73)) = w1 at HXp HB HCb |-
 have gp_2 := cz HXp.out 2 rfl; have gp_9 := cz HXp.out 9 rfl
 go_wp2_with fail
 clear gp_2 gp_9; refine (icmp_Parse.calls Ab cb b mt mc ms mr mb e_ _ HCb.out HLb.out HP.out).mono ?_; rintro ev w2 ⟨v4, rfl, ho4, hb⟩; have HR4 := rLow ho4 HB; obtain ⟨A4, c4, rfl, _, _⟩ := Kd.R_reads ho4; clear ho4; clear HP HCb HLb HXp GHXp; have hb_ := hb; replace HB := mB HB hb_; clear hb_; clear hb
 (try dsimp only)
 go_upto_region 10 with ((first | (refine rw_skip rfl rfl (rw_new rfl rfl rfl HI101.out rfl (by simp [Value.oneCell'])) ?_)))
 obtain ⟨gu, hgu⟩ : ∃ x_, x_ = w2.heap.size := ⟨_, rfl⟩
 have HXu : Aside0 ((w2.alloc (.cells #[.int .u8 mt, .int .u8 mc, .int .u16 ms, .int .u32 mr, .slice A4 mb.length c4] 101)).heap[gu]? = some (.cells #[.int .u8 mt, .int .u8 mc, .int .u16 ms, .int .u32 mr, .slice A4 mb.length c4] 101 (0, 0))) := ⟨by rw [hgu]; exact rw_blknew _ _⟩
 have GHXu := Aside0.mk (show w.heap.size <= gu by rw [hgu]; exact below_size HB.out); rw [<- hgu]; clear hgu; have hb_ := below_alloc (Below.refl w2.heap.size w2) (.cells #[.int .u8 mt, .int .u8 mc, .int .u16 ms, .int .u32 mr, .slice A4 mb.length c4] 101); replace HB := mB HB hb_; replace HR4 := mR HR4 hb_; clear hb_; generalize (w2.alloc (.cells #[.int .u8 mt, .int .u8 mc, .int .u16 ms, .int .u32 mr, .slice A4 mb.length c4] 101)) = w3 at HXu HB HR4 |-
 go_wp2_with (refine Kd.event_run rfl (rw_load rfl rfl HXu.out Try.underlying101 rfl HI101.out) ?_)
 (try simp only [Exit.inBlock, Exit.then])
 go_ret2
 exact ⟨_, rfl, HR4.out, HB.out⟩
attribute [local go_sem] max2_int min2_int max_two min_two max_three min_three max_four min_four
def sum_Fold.l0 : Nat -> Int -> Option (Int)
 | 0, _ => none
 | k + 1, x0 => if (x0 / 65536) = 0 then (some (IntKind.u16.wrap (x0))) else (sum_Fold.l0 k (((Go.bits .and .u32 x0 65535) + (x0 / 65536)) % 4294967296))
def sum_Fold.f (k : Nat) (a0 : Int) : Option (Int) := sum_Fold.l0 k a0
theorem sum_Fold.calls (k : Nat) (a0 : Int) (r : Int) (w : World) (h : sum_Fold.f k a0 = some r) :
  Calls Try.prog 115 #[.int .u32 a0] w fun e w' => e = .returned (.int .u16 r) /\ Drawn0 w w' := by
 have H : (sum_Fold.l0 k a0) = some r := h; clear h; have H' := Aside0.mk H; clear H
 go_enter Try.func115, Try.ntmps115
 go_wp2
 go_loopg [0] k (fun kq v0 w' => ∃ (x0_1 : Int), v0 = .int .u32 x0_1 /\ Aside0 (sum_Fold.l0 kq x0_1 = some r) /\ Aside0 (kq <= k) /\ Drawn0 w w')
 case atStart => exact ⟨(a0), (by first | rfl | (simp; done) | (simp [*]; done)), H', ⟨Nat.le_refl _⟩, by repeat (first | exact Drawn0.refl _ | apply Drawn0.step)⟩
 case round =>
  clear H'; obtain ⟨x0_1, rfl, HA, HK1, ⟨m1, rfl⟩⟩ := hrel
  cases gk with
  | zero => exact absurd HA.out (by simp [sum_Fold.l0])
  | succ k1 =>
   have H := HA.out; clear HA; simp only [sum_Fold.l0] at H
   by_cases c2 : (x0_1 / 65536) = 0
   ·rw [if_pos c2] at H
    have c2b0 : ((x0_1 / 65536) == 0) = true := beq_iff_eq.mpr c2; have c2b1 : ((x0_1 / 65536) != 0) = false := bne_eq_false_iff_eq.mpr c2; clear c2; obtain rfl := Option.some.inj H
    go_wp2
    go_ret
    exact ⟨by first | rfl | (simp; done) | (simp [*]; done), by repeat (first | exact Drawn0.refl _ | apply Drawn0.step)⟩
   ·rw [if_neg c2] at H
    have c2b0 : ((x0_1 / 65536) == 0) = false := beq_eq_false_iff_ne.mpr c2; have c2b1 : ((x0_1 / 65536) != 0) = true := bne_iff_ne.mpr c2; have H' := Aside0.mk H; clear H
    go_wp2
    go_roundg k1
    case measure => have := HK1.out; omega
    case rel => exact ⟨(((Go.bits .and .u32 x0_1 65535) + (x0_1 / 65536)) % 4294967296), (by first | rfl | (simp; done) | (simp [*]; done)), H', ⟨by have := HK1.out; omega⟩, by repeat (first | exact Drawn0.refl _ | apply Drawn0.step)⟩
def sum_Words.l0 : Nat -> List Int -> List Int -> Int -> Int -> Option (List Int)
 | 0, _, _, _, _ => none
 | k + 1, x0, x3, x9, x10 => if x10 < x9 then (if 0 <= (wrap64 (2 * x10)) then (if (wrap64 (2 * x10)) < (x0.length : Int) then (if (wrap64 ((wrap64 (2 * x10)) + 1)) < (x0.length : Int) then (if 0 <= (wrap64 ((wrap64 (2 * x10)) + 1)) then (if x3.length < 70368744177664 then (sum_Words.l0 k x0 (x3 ++ [Go.bits .or .u16 (IntKind.u16.wrap ((IntKind.u16.wrap (rd x0 (wrap64 (2 * x10)))) * 256)) (IntKind.u16.wrap (rd x0 (wrap64 ((wrap64 (2 * x10)) + 1))))]) x9 (wrap64 (x10 + 1))) else (none)) else (none)) else (if x3.length < 70368744177664 then (sum_Words.l0 k x0 (x3 ++ [IntKind.u16.wrap ((IntKind.u16.wrap (rd x0 (wrap64 (2 * x10)))) * 256)]) x9 (wrap64 (x10 + 1))) else (none))) else (none)) else (none)) else (some x3)
def sum_Words.f (k : Nat) (l0 : List Int) : Option (List Int) := sum_Words.l0 k l0 ([] : List Int) (wrap64 (Int.tdiv (wrap64 ((l0.length : Int) + 1)) 2)) 0
theorem sum_Words.calls (k : Nat) (A0 : Option Addr) (c0 : Nat) (l0 : List Int) (r : List Int) (w : World) (hr0 : Kd.C (Kd.int .u8) w A0 l0.length l0) (hc0 : l0.length <= c0) (h : sum_Words.f k l0 = some r) :
  Calls Try.prog 128 #[.slice A0 l0.length c0] w fun e w' => ∃ v0_ : Value, e = .returned (v0_) /\ Kd.R (Kd.int .u16) 45 w' w.heap.size (fun _ => True) v0_ r /\ Below w.heap.size w w' := by
 have HR0 := Aside0.mk hr0; have HC0 := Aside0.mk hc0; clear hr0 hc0; have HB := Aside0.mk (Below.refl w.heap.size w); have H : (sum_Words.l0 k l0 ([] : List Int) (wrap64 (Int.tdiv (wrap64 ((l0.length : Int) + 1)) 2)) 0) = some r := h; clear h; have H' := Aside0.mk H; clear H
 go_enter Try.func128, Try.ntmps128
 go_wp2
 go_loopg [3, 10] k (fun kq v3 v10 w' => ∃ (x3_1 : List Int) (x10_1 : Int), v10 = .int .i64 x10_1 /\ Aside0 (sum_Words.l0 kq l0 x3_1 (wrap64 (Int.tdiv (wrap64 ((l0.length : Int) + 1)) 2)) x10_1 = some r) /\ Aside0 (kq <= k) /\ Aside0 (Kd.R (Kd.int .u16) 45 w' w.heap.size (fun _ => True) v3 x3_1) /\ Aside0 (Below w.heap.size w w'))
 case atStart => exact ⟨(([] : List Int)), (0), (by first | rfl | (simp; done) | (simp [*]; done)), H', ⟨Nat.le_refl _⟩, ⟨by first | exact Kd.R_nil _ _ _ _ _ | exact Kd.N_nil _ _ _ _ _ | exact Kd.V_nil _ _ _ _ _ | exact Kd.Q_nil _ _ _ _ _ | exact Kd.S_nil _ _ _ _ _⟩, ⟨bz HB⟩⟩
 case round =>
  clear H'; obtain ⟨x3_1, x10_1, rfl, HA, HK1, HO_3, HB⟩ := hrel
  cases gk with
  | zero => exact absurd HA.out (by simp [sum_Words.l0])
  | succ k1 =>
   have H := HA.out; clear HA; simp only [sum_Words.l0] at H
   by_cases c2 : x10_1 < (wrap64 (Int.tdiv (wrap64 ((l0.length : Int) + 1)) 2))
   ·rw [if_pos c2] at H
    have c2b0 : decide (x10_1 < (wrap64 (Int.tdiv (wrap64 ((l0.length : Int) + 1)) 2))) = true := decide_eq_true c2; clear c2; obtain ⟨ji3, hji3⟩ : ∃ j_ : Int, (wrap64 (2 * x10_1)) = j_ := ⟨_, rfl⟩
    replace H : (if 0 <= (ji3) then (if (ji3) < (l0.length : Int) then (if (wrap64 ((ji3) + 1)) < (l0.length : Int) then (if 0 <= (wrap64 ((ji3) + 1)) then (if x3_1.length < 70368744177664 then (sum_Words.l0 k1 l0 (x3_1 ++ [Go.bits .or .u16 (IntKind.u16.wrap ((IntKind.u16.wrap (rd l0 (ji3))) * 256)) (IntKind.u16.wrap (rd l0 (wrap64 ((ji3) + 1))))]) (wrap64 (Int.tdiv (wrap64 ((l0.length : Int) + 1)) 2)) (wrap64 (x10_1 + 1))) else (none)) else (none)) else (if x3_1.length < 70368744177664 then (sum_Words.l0 k1 l0 (x3_1 ++ [IntKind.u16.wrap ((IntKind.u16.wrap (rd l0 (ji3))) * 256)]) (wrap64 (Int.tdiv (wrap64 ((l0.length : Int) + 1)) 2)) (wrap64 (x10_1 + 1))) else (none))) else (none)) else (none)) = some r := by first | (rw [hji3] at H; exact H) | (simp only [hji3] at H |-; exact H)
    have hji3w : (IntKind.i64.wrap (2 * x10_1)) = ji3 := (i64_w _).trans hji3
    by_cases c4 : 0 <= (ji3)
    ·rw [if_pos c4] at H
     have c4b0 : decide (0 <= (ji3)) = true := decide_eq_true c4; clear c4
     by_cases c5 : (ji3) < (l0.length : Int)
     ·rw [if_pos c5] at H
      have c5b0 : decide ((ji3) < (l0.length : Int)) = true := decide_eq_true c5; clear c5
      by_cases c6 : (wrap64 ((ji3) + 1)) < (l0.length : Int)
      ·rw [if_pos c6] at H
       have c6b0 : decide ((wrap64 ((ji3) + 1)) < (l0.length : Int)) = true := decide_eq_true c6; clear c6; obtain ⟨ji7, hji7⟩ : ∃ j_ : Int, (wrap64 ((ji3) + 1)) = j_ := ⟨_, rfl⟩
       replace H : (if 0 <= (ji7) then (if x3_1.length < 70368744177664 then (sum_Words.l0 k1 l0 (x3_1 ++ [Go.bits .or .u16 (IntKind.u16.wrap ((IntKind.u16.wrap (rd l0 (ji3))) * 256)) (IntKind.u16.wrap (rd l0 (ji7)))]) (wrap64 (Int.tdiv (wrap64 ((l0.length : Int) + 1)) 2)) (wrap64 (x10_1 + 1))) else (none)) else (none)) = some r := by first | (rw [hji7] at H; exact H) | (simp only [hji7] at H |-; exact H)
       (try rw [hji7] at c6b0)
       have hji7w : (IntKind.i64.wrap ((ji3) + 1)) = ji7 := (i64_w _).trans hji7
       by_cases c8 : 0 <= (ji7)
       ·rw [if_pos c8] at H
        have c8b0 : decide (0 <= (ji7)) = true := decide_eq_true c8; clear c8
        by_cases c9 : x3_1.length < 70368744177664
        ·rw [if_pos c9] at H
         have LMc9 := Aside0.mk c9; clear c9; obtain ⟨y138, hy138⟩ : ∃ y_ : List Int, y_ = (x3_1 ++ [Go.bits .or .u16 (IntKind.u16.wrap ((IntKind.u16.wrap (rd l0 (ji3))) * 256)) (IntKind.u16.wrap (rd l0 (ji7)))]) := ⟨_, rfl⟩
         rw [<- hy138] at H
         have Ny138 := Aside0.mk hy138; clear hy138; have H' := Aside0.mk H; clear H; have p136 : 0 <= ((ji3) : Int) := odt; have q136 : (ji3) < (l0.length : Int) := odt; obtain ⟨ad136, e136, hx136_0⟩ := Kd.at_int HR0.out (ji3) p136 q136
         cases e136
         replace hx136_0 := (HB.out.cell (World.block_lt_of_cell? w _ hx136_0)).trans hx136_0; replace p136 := eq_true p136; replace q136 := eq_true q136; have p137 : 0 <= ((ji7) : Int) := odt; have q137 : (ji7) < (l0.length : Int) := odt; obtain ⟨ad137, e137, hx137_0⟩ := Kd.at_int HR0.out (ji7) p137 q137; obtain rfl : ad136 = ad137 := (by injection e137)
         replace hx137_0 := (HB.out.cell (World.block_lt_of_cell? w _ hx137_0)).trans hx137_0; replace p137 := eq_true p137; replace q137 := eq_true q137
         go_wp2_with (first | ((with_reducible refine gate_builtin (b := .append) (xs := #[.tmp 35, .tmp 37]) rfl ?_); at_builtin; refine Kd.R_append (Kd.int .u16) (w0 := w) w.heap.size rfl (.tmp 35) (.tmp 37) 22 45 (.int .u16 0) 2 rfl Try.underlying22 info45 rfl (by decide) (by omega) u3 x3_1 (Go.bits .or .u16 (IntKind.u16.wrap ((IntKind.u16.wrap (rd l0 (ji3))) * 256)) (IntKind.u16.wrap (rd l0 (ji7)))) [.int .u16 (Go.bits .or .u16 (IntKind.u16.wrap ((IntKind.u16.wrap (rd l0 (ji3))) * 256)) (IntKind.u16.wrap (rd l0 (ji7))))] (fun _ => True) (fun _ => False) rfl rfl ?aP (fun _ hk => hk.elim) ?aF ?aO ?aB ?aS ?aL ?_; (case aP => exact rfl); (case aB => exact bz HB); (case aF => exact (fun _ _ => trivial)); (case aO => exact (Kd.rz HO_3)); (case aS => exact (below_size (bz HB))); (case aL => have := LMc9.out; omega); intro v139 w10 ho hb hg hat; rw [<- Ny138.out] at ho; have n0_ := Aside0.mk (hb); have n1_ := Aside0.mk (ho); clear HB; clear HO_3; have HB := n0_; have HO140 := n1_; clear n0_ n1_; clear ho hb hg hat))
         go_roundg k1
         case measure => have := HK1.out; omega
         case rel => exact ⟨(y138), (wrap64 (x10_1 + 1)), (by first | rfl | (simp; done) | (simp [*]; done)), H', ⟨by have := HK1.out; omega⟩, ⟨Kd.rz HO140⟩, ⟨bz HB⟩⟩
        ·rw [if_neg c9] at H
         exact absurd H (by simp)
       ·rw [if_neg c8] at H
        exact absurd H (by simp)
      ·rw [if_neg c6] at H
       have c6b0 : decide ((wrap64 ((ji3) + 1)) < (l0.length : Int)) = false := decide_eq_false c6; clear c6
       by_cases c11 : x3_1.length < 70368744177664
       ·rw [if_pos c11] at H
        have LMc11 := Aside0.mk c11; clear c11; obtain ⟨y141, hy141⟩ : ∃ y_ : List Int, y_ = (x3_1 ++ [IntKind.u16.wrap ((IntKind.u16.wrap (rd l0 (ji3))) * 256)]) := ⟨_, rfl⟩
        rw [<- hy141] at H
        have Ny141 := Aside0.mk hy141; clear hy141; have H' := Aside0.mk H; clear H; have p136 : 0 <= ((ji3) : Int) := odt; have q136 : (ji3) < (l0.length : Int) := odt; obtain ⟨ad136, e136, hx136_0⟩ := Kd.at_int HR0.out (ji3) p136 q136
        cases e136
        replace hx136_0 := (HB.out.cell (World.block_lt_of_cell? w _ hx136_0)).trans hx136_0; replace p136 := eq_true p136; replace q136 := eq_true q136
        go_wp2_with (first | ((with_reducible refine gate_builtin (b := .append) (xs := #[.tmp 35, .tmp 37]) rfl ?_); at_builtin; refine Kd.R_append (Kd.int .u16) (w0 := w) w.heap.size rfl (.tmp 35) (.tmp 37) 22 45 (.int .u16 0) 2 rfl Try.underlying22 info45 rfl (by decide) (by omega) u3 x3_1 (IntKind.u16.wrap ((IntKind.u16.wrap (rd l0 (ji3))) * 256)) [.int .u16 (IntKind.u16.wrap ((IntKind.u16.wrap (rd l0 (ji3))) * 256))] (fun _ => True) (fun _ => False) rfl rfl ?aP (fun _ hk => hk.elim) ?aF ?aO ?aB ?aS ?aL ?_; (case aP => exact rfl); (case aB => exact bz HB); (case aF => exact (fun _ _ => trivial)); (case aO => exact (Kd.rz HO_3)); (case aS => exact (below_size (bz HB))); (case aL => have := LMc11.out; omega); intro v142 w12 ho hb hg hat; rw [<- Ny141.out] at ho; have n0_ := Aside0.mk (hb); have n1_ := Aside0.mk (ho); clear HB; clear HO_3; have HB := n0_; have HO143 := n1_; clear n0_ n1_; clear ho hb hg hat))
        go_roundg k1
        case measure => have := HK1.out; omega
        case rel => exact ⟨(y141), (wrap64 (x10_1 + 1)), (by first | rfl | (simp; done) | (simp [*]; done)), H', ⟨by have := HK1.out; omega⟩, ⟨Kd.rz HO143⟩, ⟨bz HB⟩⟩
       ·rw [if_neg c11] at H
        exact absurd H (by simp)
     ·rw [if_neg c5] at H
      exact absurd H (by simp)
    ·rw [if_neg c4] at H
     exact absurd H (by simp)
   ·rw [if_neg c2] at H
    have c2b0 : decide (x10_1 < (wrap64 (Int.tdiv (wrap64 ((l0.length : Int) + 1)) 2))) = false := decide_eq_false c2; clear c2; obtain rfl := Option.some.inj H
    go_wp2
    go_ret
    exact ⟨_, by first | rfl | (simp [errW_none, errW_some] <;> rfl) | (simp [*, errW_none, errW_some] <;> rfl), by (with_reducible repeat (first | apply Kd.R_alloc | apply Kd.R_drewN | apply Kd.R_drew)); exact HO_3.out, bz HB⟩
def bits_Add32.f (a0 : Int) (a1 : Int) (a2 : Int) : Option (Int × Int) := some ((IntKind.u64.wrap ((IntKind.u64.wrap ((IntKind.u64.wrap (a0)) + (IntKind.u64.wrap (a1)))) + (IntKind.u64.wrap (a2)))) % 4294967296, ((IntKind.u64.wrap ((IntKind.u64.wrap ((IntKind.u64.wrap (a0)) + (IntKind.u64.wrap (a1)))) + (IntKind.u64.wrap (a2)))) / 4294967296) % 4294967296)
theorem bits_Add32.calls (a0 : Int) (a1 : Int) (a2 : Int) (r1 : Int) (r2 : Int) (w : World) (h : bits_Add32.f a0 a1 a2 = some (r1, r2)) :
  Calls Try.prog 129 #[.int .u32 a0, .int .u32 a1, .int .u32 a2] w fun e w' => e = .returned (.tuple #[.int .u32 r1, .int .u32 r2]) /\ Drawn0 w w' := by
 have H : (some ((IntKind.u64.wrap ((IntKind.u64.wrap ((IntKind.u64.wrap (a0)) + (IntKind.u64.wrap (a1)))) + (IntKind.u64.wrap (a2)))) % 4294967296, ((IntKind.u64.wrap ((IntKind.u64.wrap ((IntKind.u64.wrap (a0)) + (IntKind.u64.wrap (a1)))) + (IntKind.u64.wrap (a2)))) / 4294967296) % 4294967296)) = some (r1, r2) := h; clear h; simp only [Option.some.injEq, Prod.mk.injEq] at H
 obtain ⟨rfl, rfl⟩ := H
 go_enter Try.func129, Try.ntmps129
 go_wp2
 go_ret2
 exact ⟨by first | rfl | (simp; done) | (simp [*]; done), by repeat (first | exact Drawn0.refl _ | apply Drawn0.step)⟩
def sum_Add.l0 : Nat -> Int -> List Int -> Int -> Int -> Option (Int)
 | 0, _, _, _, _ => none
 | k + 1, x0, x10, x11, x12 => if x12 < x11 then (if 0 <= x12 then (if x12 < (x10.length : Int) then ((bits_Add32.f x0 ((rd x10 x12) % 4294967296) 0).bind fun bt148 => (sum_Add.l0 k ((bt148.1 + bt148.2) % 4294967296) x10 x11 (wrap64 (x12 + 1)))) else (none)) else (none)) else (some x0)
def sum_Add.f (k : Nat) (a0 : Int) (l1 : List Int) : Option (Int) := (sum_Words.f k l1).bind fun t144 => (sum_Add.l0 k a0 t144 (t144.length : Int) 0)
theorem sum_Add.calls (k : Nat) (a0 : Int) (A1 : Option Addr) (c1 : Nat) (l1 : List Int) (r : Int) (w : World) (hr1 : Kd.C (Kd.int .u8) w A1 l1.length l1) (hc1 : l1.length <= c1) (h : sum_Add.f k a0 l1 = some r) :
  Calls Try.prog 116 #[.int .u32 a0, .slice A1 l1.length c1] w fun e w' => e = .returned (.int .u32 r) /\ Below w.heap.size w w' := by
 have HR1 := Aside0.mk hr1; have HC1 := Aside0.mk hc1; clear hr1 hc1; have HB := Aside0.mk (Below.refl w.heap.size w); have H : ((sum_Words.f k l1).bind fun t144 => (sum_Add.l0 k a0 t144 (t144.length : Int) 0)) = some r := h; clear h; replace H := Option.bind_eq_some_iff.mp H; obtain ⟨t144, A30, H⟩ := H
 (try dsimp -simprocs only at H)
 have A3 := Aside0.mk A30; clear A30; have H' := Aside0.mk H; clear H
 go_enter Try.func116, Try.ntmps116
 go_wp2_with (first | ((with_reducible refine gate_callee (f := 128) rfl ?_); refine gL 10 Try.func128 #[.slice A1 l1.length c1] ?_; (with_reducible refine (sum_Words.calls k _ _ l1 t144 _ ?side1 ?side2 A3.out).mono ?_); (case side1 => repeat (first | exact HR1.out | (with_reducible refine Kd.C_alloc ?_ _) | (with_reducible refine Kd.C_drewN ?_ _) | (with_reducible refine Kd.C_drew ?_))); (case side2 => exact HC1.out); rintro e w4 ⟨v145, rfl, ho0, hb⟩; refine ⟨_, rfl, ?_⟩; have n0_ := Aside0.mk (Kd.R_lower ho0 (below_size (bz HB))); have n1_ := Aside0.mk (below_step (bz HB) hb); clear HB; have HO146 := n0_; have HB := n1_; clear n0_ n1_; (try clear hb); (try clear hb2); (try clear hk); (try clear hi); (try clear ho0); obtain ⟨Ao5, co5, eo5⟩ := Kd.R_slice HO146.out; subst eo5))
 go_loopg [0, 12] k (fun kq v0 v12 w' => ∃ (x0_1 : Int) (x12_1 : Int), v0 = .int .u32 x0_1 /\ v12 = .int .i64 x12_1 /\ Aside0 (sum_Add.l0 kq x0_1 t144 (t144.length : Int) x12_1 = some r) /\ Aside0 (kq <= k) /\ Aside0 (Kd.R (Kd.int .u16) 45 w' w.heap.size (fun _ => True) (.slice Ao5 t144.length co5) t144) /\ Aside0 (Below w.heap.size w w'))
 case atStart => exact ⟨(a0), (0), (by first | rfl | (simp; done) | (simp [*]; done)), (by first | rfl | (simp; done) | (simp [*]; done)), H', ⟨Nat.le_refl _⟩, ⟨Kd.rz HO146⟩, ⟨bz HB⟩⟩
 case round =>
  clear H'
  try clear c1
  obtain ⟨x0_1, x12_1, rfl, rfl, HA, HK1, HO_10, HB⟩ := hrel
  cases gk with
  | zero => exact absurd HA.out (by simp [sum_Add.l0])
  | succ k1 =>
   have H := HA.out; clear HA; simp only [sum_Add.l0] at H
   by_cases c6 : x12_1 < (t144.length : Int)
   ·rw [if_pos c6] at H
    have c6b0 : decide (x12_1 < (t144.length : Int)) = true := decide_eq_true c6; clear c6
    by_cases c7 : 0 <= x12_1
    ·rw [if_pos c7] at H
     have c7b0 : decide (0 <= x12_1) = true := decide_eq_true c7; clear c7
     by_cases c8 : x12_1 < (t144.length : Int)
     ·rw [if_pos c8] at H
      have c8b0 : decide (x12_1 < (t144.length : Int)) = true := decide_eq_true c8; clear c8; replace H := Option.bind_eq_some_iff.mp H; obtain ⟨⟨t148, t149⟩, A90, H⟩ := H
      (try dsimp -simprocs only at H)
      have A9 := Aside0.mk A90; clear A90; have H' := Aside0.mk H; clear H; have p147 : 0 <= (x12_1 : Int) := odt; have q147 : x12_1 < (t144.length : Int) := odt; obtain ⟨ad147, e147, hx147_0⟩ := Kd.at_int (Kd.R_reads' HO_10.out).2.2 x12_1 p147 q147
      cases e147
      replace p147 := eq_true p147; replace q147 := eq_true q147
      go_wp2_with (first | ((with_reducible refine gate_callee (f := 129) rfl ?_); refine gL 20 Try.func129 #[.int .u32 x0_1, .int .u32 ((rd t144 x12_1) % 4294967296), .int .u32 0] ?_; (with_reducible refine (bits_Add32.calls x0_1 ((rd t144 x12_1) % 4294967296) 0 t148 t149 _ A9.out).mono ?_); rintro e w' ⟨rfl, ⟨nd, rfl⟩⟩; refine ⟨_, rfl, ?_⟩))
      go_roundg k1
      case measure => have := HK1.out; omega
      case rel => exact ⟨((t148 + t149) % 4294967296), (wrap64 (x12_1 + 1)), (by first | rfl | (simp; done) | (simp [*]; done)), (by first | rfl | (simp; done) | (simp [*]; done)), H', ⟨by have := HK1.out; omega⟩, ⟨Kd.rz HO_10⟩, ⟨bz HB⟩⟩
     ·rw [if_neg c8] at H
      exact absurd H (by simp)
    ·rw [if_neg c7] at H
     exact absurd H (by simp)
   ·rw [if_neg c6] at H
    have c6b0 : decide (x12_1 < (t144.length : Int)) = false := decide_eq_false c6; clear c6; obtain rfl := Option.some.inj H
    go_wp2
    go_ret
    exact ⟨by first | rfl | (simp [errW_none, errW_some] <;> rfl) | (simp [*, errW_none, errW_some] <;> rfl), bz HB⟩
def sum_Of.f (k : Nat) (l0 : List Int) : Option (Int) := (sum_Add.f k 0 l0).bind fun t150 => ((sum_Fold.f k t150).bind fun t151 => (some (Go.bits .xor .u16 IntKind.u16.max t151)))
theorem sum_Of.calls (k : Nat) (A0 : Option Addr) (c0 : Nat) (l0 : List Int) (r : Int) (w : World) (hr0 : Kd.C (Kd.int .u8) w A0 l0.length l0) (hc0 : l0.length <= c0) (h : sum_Of.f k l0 = some r) :
  Calls Try.prog 90 #[.slice A0 l0.length c0] w fun e w' => e = .returned (.int .u16 r) /\ Below w.heap.size w w' := by
 have hsg_u16 : IntKind.u16.signed = false := rfl; have HR0 := Aside0.mk hr0; have HC0 := Aside0.mk hc0; clear hr0 hc0; have HB := Aside0.mk (Below.refl w.heap.size w); have H : ((sum_Add.f k 0 l0).bind fun t150 => ((sum_Fold.f k t150).bind fun t151 => (some (Go.bits .xor .u16 IntKind.u16.max t151)))) = some r := h; clear h; replace H := Option.bind_eq_some_iff.mp H; obtain ⟨t150, A20, H⟩ := H
 (try dsimp -simprocs only at H)
 have A2 := Aside0.mk A20; clear A20; replace H := Option.bind_eq_some_iff.mp H; obtain ⟨t151, A30, H⟩ := H
 (try dsimp -simprocs only at H)
 have A3 := Aside0.mk A30; clear A30; obtain rfl := Option.some.inj H
 go_enter Try.func90, Try.ntmps90
 go_wp2_with (first | ((with_reducible refine gate_callee (f := 116) rfl ?_); refine gL 4 Try.func116 #[.int .u32 0, .slice A0 l0.length c0] ?_; (with_reducible refine (sum_Add.calls k 0 _ _ l0 t150 _ ?side1 ?side2 A2.out).mono ?_); (case side1 => repeat (first | exact HR0.out | (with_reducible refine Kd.C_alloc ?_ _) | (with_reducible refine Kd.C_drewN ?_ _) | (with_reducible refine Kd.C_drew ?_))); (case side2 => exact HC0.out); rintro e w4 ⟨rfl, hb⟩; refine ⟨_, rfl, ?_⟩; have n0_ := Aside0.mk (below_step (bz HB) hb); clear HB; have HB := n0_; clear n0_; (try clear hb); (try clear hb2); (try clear hk); (try clear hi)) | ((with_reducible refine gate_callee (f := 115) rfl ?_); refine gL 5 Try.func115 #[.int .u32 t150] ?_; (with_reducible refine (sum_Fold.calls k t150 t151 _ A3.out).mono ?_); rintro e w' ⟨rfl, ⟨nd, rfl⟩⟩; refine ⟨_, rfl, ?_⟩))
 go_ret
 exact ⟨by first | rfl | (simp [errW_none, errW_some] <;> rfl) | (simp [*, errW_none, errW_some] <;> rfl), bz HB⟩
attribute [local go_sem] max2_int min2_int max_two min_two max_three min_three max_four min_four
def ip_must.f (a0 : Bool) (a1 : Int) : Option (Unit) := if a0 = true then (some ()) else (none)
theorem ip_must.calls (a0 : Bool) (a1 : Int) (w : World) (h : ip_must.f a0 a1 = some ()) :
    Calls Try.prog 117 #[.bool a0, .int .i64 a1] w fun e w' => e = .returned (.tuple #[]) /\ Drawn0 w w' := by
  have hu163 := Try.underlying163; have H : (if a0 = true then (some ()) else (none)) = some () := h; clear h
  by_cases c3 : a0 = true
  · subst c3
    have H1 : (some ()) = some () := rfl; clear H; have H := H1; clear H1
    go_enter Try.func117, Try.ntmps117
    go_wp2
    first | go_end0 | ((try simp only [Exit.inBlock, Exit.then]); refine bodyPost_ret (results_none rfl _ _ _) rfl ?_)
    exact ⟨by first | rfl | (simp; done) | (simp [*]; done), by repeat (first | exact Drawn0.refl _ | apply Drawn0.step)⟩
  · replace c3 := Bool.eq_false_iff.mpr c3
    subst c3; have H1 : (none) = some () := by rw [if_neg (show ¬ (false = true) by decide)] at H; exact H
    clear H; have H := H1; clear H1; exact absurd H (by simp)
def ip_reader_two.f (l0 : List Int) (a1 : Int) : Option (Int) := if 0 <= a1 then (if a1 < (l0.length : Int) then (if 0 <= (wrap64 (a1 + 1)) then (if (wrap64 (a1 + 1)) < (l0.length : Int) then (some (Go.bits .or .u16 (IntKind.u16.wrap ((IntKind.u16.wrap (rd l0 a1)) * 256)) (IntKind.u16.wrap (rd l0 (wrap64 (a1 + 1)))))) else (none)) else (none)) else (none)) else (none)
theorem ip_reader_two.calls (A0 : Option Addr) (c0 : Nat) (l0 : List Int) (a1 : Int) (r : Int) (w : World) (hr0 : Kd.C (Kd.int .u8) w A0 l0.length l0) (hc0 : l0.length <= c0) (h : ip_reader_two.f l0 a1 = some r) :
    Calls Try.prog 118 #[.slice A0 l0.length c0, .int .i64 a1] w fun e w' => e = .returned (.int .u16 r) /\ Drawn0 w w' := by
  have HR0 := Aside0.mk hr0; have HC0 := Aside0.mk hc0; clear hr0 hc0; have H : (if 0 <= a1 then (if a1 < (l0.length : Int) then (if 0 <= (wrap64 (a1 + 1)) then (if (wrap64 (a1 + 1)) < (l0.length : Int) then (some (Go.bits .or .u16 (IntKind.u16.wrap ((IntKind.u16.wrap (rd l0 a1)) * 256)) (IntKind.u16.wrap (rd l0 (wrap64 (a1 + 1)))))) else (none)) else (none)) else (none)) else (none)) = some r := h; clear h
  by_cases c3 : 0 <= a1
  · rw [if_pos c3] at H
    have c3b0 : decide (0 <= a1) = true := decide_eq_true c3; clear c3
    by_cases c4 : a1 < (l0.length : Int)
    · rw [if_pos c4] at H
      have c4b0 : decide (a1 < (l0.length : Int)) = true := decide_eq_true c4; clear c4; obtain ⟨ji5, hji5⟩ : ∃ j_ : Int, (wrap64 (a1 + 1)) = j_ := ⟨_, rfl⟩
      replace H : (if 0 <= (ji5) then (if (ji5) < (l0.length : Int) then (some (Go.bits .or .u16 (IntKind.u16.wrap ((IntKind.u16.wrap (rd l0 a1)) * 256)) (IntKind.u16.wrap (rd l0 (ji5))))) else (none)) else (none)) = some r := by first | (rw [hji5] at H; exact H) | (simp only [hji5] at H |-; exact H)
      have hji5w : (IntKind.i64.wrap (a1 + 1)) = ji5 := (i64_w _).trans hji5
      by_cases c6 : 0 <= (ji5)
      · rw [if_pos c6] at H
        have c6b0 : decide (0 <= (ji5)) = true := decide_eq_true c6; clear c6
        by_cases c7 : (ji5) < (l0.length : Int)
        · rw [if_pos c7] at H
          have c7b0 : decide ((ji5) < (l0.length : Int)) = true := decide_eq_true c7; clear c7; obtain rfl := Option.some.inj H; have p199 : 0 <= (a1 : Int) := odt; have q199 : a1 < (l0.length : Int) := odt; obtain ⟨ad199, e199, hx199_0⟩ := Kd.at_int HR0.out a1 p199 q199
          cases e199
          replace p199 := eq_true p199; replace q199 := eq_true q199; have p200 : 0 <= ((ji5) : Int) := odt; have q200 : (ji5) < (l0.length : Int) := odt; obtain ⟨ad200, e200, hx200_0⟩ := Kd.at_int HR0.out (ji5) p200 q200; obtain rfl : ad199 = ad200 := (by injection e200)
          replace p200 := eq_true p200; replace q200 := eq_true q200
          go_enter Try.func118, Try.ntmps118
          go_wp2
          repeat (go_quiet (fail); try go_wp2)
          go_ret
          exact ⟨by first | rfl | (simp; done) | (simp only [<- hji5] <;> (first | rfl | simp)) | (simp [*]; done), by repeat (first | exact Drawn0.refl _ | apply Drawn0.step)⟩
        · rw [if_neg c7] at H
          exact absurd H (by simp)
      · rw [if_neg c6] at H
        exact absurd H (by simp)
    · rw [if_neg c4] at H
      exact absurd H (by simp)
  · rw [if_neg c3] at H
    exact absurd H (by simp)
def ip_reader_four.f (l0 : List Int) (a1 : Int) : Option (Int) := (ip_reader_two.f l0 a1).bind fun t201 => ((ip_reader_two.f l0 (wrap64 (a1 + 2))).bind fun t202 => (some (Go.bits .or .u32 ((((t201) % 4294967296) * 65536) % 4294967296) ((t202) % 4294967296))))
theorem ip_reader_four.calls (A0 : Option Addr) (c0 : Nat) (l0 : List Int) (a1 : Int) (r : Int) (w : World) (hr0 : Kd.C (Kd.int .u8) w A0 l0.length l0) (hc0 : l0.length <= c0) (h : ip_reader_four.f l0 a1 = some r) :
    Calls Try.prog 119 #[.slice A0 l0.length c0, .int .i64 a1] w fun e w' => e = .returned (.int .u32 r) /\ Drawn0 w w' := by
  have HR0 := Aside0.mk hr0; have HC0 := Aside0.mk hc0; clear hr0 hc0; have H : ((ip_reader_two.f l0 a1).bind fun t201 => ((ip_reader_two.f l0 (wrap64 (a1 + 2))).bind fun t202 => (some (Go.bits .or .u32 ((((t201) % 4294967296) * 65536) % 4294967296) ((t202) % 4294967296))))) = some r := h; clear h; replace H := Option.bind_eq_some_iff.mp H; obtain ⟨t201, A30, H⟩ := H; replace H : ((ip_reader_two.f l0 (wrap64 (a1 + 2))).bind fun t202 => (some (Go.bits .or .u32 ((((t201) % 4294967296) * 65536) % 4294967296) ((t202) % 4294967296)))) = some r := H; have A3 := Aside0.mk A30; clear A30; replace H := Option.bind_eq_some_iff.mp H; obtain ⟨t202, A40, H⟩ := H; replace H : (some (Go.bits .or .u32 ((((t201) % 4294967296) * 65536) % 4294967296) ((t202) % 4294967296))) = some r := H; have A4 := Aside0.mk A40; clear A40; obtain rfl := Option.some.inj H
  go_enter Try.func119, Try.ntmps119
  go_wp2_with (first | ((with_reducible refine gate_callee (f := 118) rfl ?_); refine gL 7 Try.func118 #[.slice A0 l0.length c0, .int .i64 a1] ?_; (with_reducible refine (ip_reader_two.calls _ _ l0 a1 t201 _ ?side1 ?side2 A3.out).mono ?_); (case side1 => repeat (first | exact HR0.out | (with_reducible refine Kd.C_alloc ?_ _) | (with_reducible refine Kd.C_drewN ?_ _) | (with_reducible refine Kd.C_drew ?_))); (case side2 => exact HC0.out); rintro e w' ⟨rfl, ⟨nd, rfl⟩⟩; refine ⟨_, rfl, ?_⟩) | ((with_reducible refine gate_callee (f := 118) rfl ?_); refine gL 13 Try.func118 #[.slice A0 l0.length c0, .int .i64 (wrap64 (a1 + 2))] ?_; (with_reducible refine (ip_reader_two.calls _ _ l0 (wrap64 (a1 + 2)) t202 _ ?side1 ?side2 A4.out).mono ?_); (case side1 => repeat (first | exact HR0.out | (with_reducible refine Kd.C_alloc ?_ _) | (with_reducible refine Kd.C_drewN ?_ _) | (with_reducible refine Kd.C_drew ?_))); (case side2 => exact HC0.out); rintro e w' ⟨rfl, ⟨nd, rfl⟩⟩; refine ⟨_, rfl, ?_⟩))
  go_ret
  exact ⟨by first | rfl | (simp; done) | (simp [*]; done), by repeat (first | exact Drawn0.refl _ | apply Drawn0.step)⟩
def ip_reader_byte.f (l0 : List Int) : Option (List Int) := if l0.length < 140737488355328 then some l0 else none
theorem ip_reader_byte.calls (A0 : Option Addr) (c0 : Nat) (l0 : List Int) (r : List Int) (w : World) (hr0 : Kd.C (Kd.int .u8) w A0 l0.length l0) (hc0 : l0.length <= c0) (h : ip_reader_byte.f l0 = some r) :
    Calls Try.prog 120 #[.slice A0 l0.length c0] w fun e w' => ∃ v0_ : Value, e = .returned (v0_) /\ Kd.R (Kd.int .u8) 5 w' w.heap.size (fun _ => True) v0_ r /\ Below w.heap.size w w' := by
  unfold ip_reader_byte.f at h
  by_cases c7 : l0.length < 140737488355328
  · rw [if_pos c7] at h
    obtain rfl := Option.some.inj h; clear h; have LMc7 := Aside0.mk c7; clear c7; have HR0 := Aside0.mk hr0; have HC0 := Aside0.mk hc0; clear hr0 hc0; have HB := Aside0.mk (Below.refl w.heap.size w)
    cases A0 with
    | none =>
      have e := kd_none_nil HR0.out; subst e; have hq := fun (W : World) (n c : Nat) => Go.Lib.run_eql_slice_nil (P := Try.prog) W 165 5 none n c 0 0 Try.underlying165
      go_enter Try.func120, Try.ntmps120
      go_wp2
      go_ret
      exact ⟨_, rfl, Kd.R_nil _ _ _ _ _, Below.refl _ _⟩
    | some ad =>
      have hq := fun (W : World) (n c : Nat) => Go.Lib.run_eql_slice_nil (P := Try.prog) W 165 5 (some ad) n c 0 0 Try.underlying165
      go_enter Try.func120, Try.ntmps120
      have HO1 : Aside0 (Kd.R (Kd.int .u8) 5 (w.alloc (.cells #[] 5)) w.heap.size (fun _ => True) (.slice (some ⟨w.heap.size, 0, none⟩) 0 0) ([] : List Int)) := ⟨kd_empty_new w .u8 5⟩
      have HB1 : Aside0 (Below w.heap.size w (w.alloc (.cells #[] 5))) := ⟨below_alloc HB.out _⟩
      go_wp2_with (first
       | ((with_reducible refine gate_builtin (b := .append) (xs := #[.tmp 5, .tmp 6]) rfl ?_); at_builtin; refine Kd.R_append_rows (Kd.int .u8) (w0 := w) w.heap.size rfl (.tmp 5) (.tmp 6) 165 5 (.int .u8 0) 1 rfl Try.underlying165 info5 rfl (by decide) (by omega) (.slice (some ⟨w.heap.size, 0, none⟩) 0 0) ([] : List Int) l0 _ _ _ (fun _ => True) (fun _ => False) rfl rfl ?aO ?aR (fun _ _ h => h) (fun _ h => h.elim) ?aF ?aB ?aS ?aL ?_; (case aR => exact Kd.C_below HR0.out HB1.out); (case aB => exact HB1.out); (case aF => exact (fun _ _ => trivial)); (case aO => exact HO1.out); (case aS => exact (below_size HB1.out)); (case aL => have := LMc7.out; simp; omega); intro v2 w2 ho hb hg hat; clear hg hat; have HB2 := Aside0.mk hb; have HO2 := Aside0.mk ho; clear hb ho))
      go_ret
      exact ⟨_, rfl, by simpa using HO2.out, HB2.out⟩
  · rw [if_neg c7] at h
    cases h
attribute [local go_sem] max2_int min2_int max_two min_two max_three min_three max_four min_four
def ip_reader_packet.j0 : Nat -> List Int -> Int -> Int -> Option (Int × Int × Int × Int × Int × Int × Int × Int × List Int × List Int)
 | 0, _, _, _ => none
 | k + 1, x0, x3, x4 => (ip_must.f (decide ((x0.length : Int) >= x4)) 20).bind fun _ => (if 0 <= x3 then (if x3 <= (x0.length : Int) then ((sum_Add.f k 0 (x0.take (x3 : Int).toNat)).bind fun t208 => ((sum_Fold.f k t208).bind fun t209 => ((ip_must.f (t209 == 65535) 22).bind fun _ => ((ip_reader_two.f x0 6).bind fun t210 => (if 1 < (x0.length : Int) then ((ip_reader_two.f x0 4).bind fun t212 => (if 8 < (x0.length : Int) then (if 9 < (x0.length : Int) then ((ip_reader_four.f x0 12).bind fun t215 => ((ip_reader_four.f x0 16).bind fun t216 => (if 20 <= x3 then ((ip_reader_byte.f ((x0.take (x3 : Int).toNat).drop 20)).bind fun t218 => (if x3 <= x4 then (if x4 <= (x0.length : Int) then ((ip_reader_byte.f ((x0.take (x4 : Int).toNat).drop (x3 : Int).toNat)).bind fun t222 => (some (rd x0 1, rd x0 8, rd x0 9, t212, (t210 / 8192) % 256, Go.bits .and .u16 t210 8191, t215, t216, t218, t222))) else (none)) else (none))) else (none)))) else (none)) else (none))) else (none)))))) else (none)) else (none))
def ip_reader_packet.f (k : Nat) (l0 : List Int) : Option (Int × Int × Int × Int × Int × Int × Int × Int × List Int × List Int) := (ip_must.f (decide ((l0.length : Int) >= 20)) 20).bind fun _ => (if 0 < (l0.length : Int) then ((ip_reader_two.f l0 2).bind fun t205 => (if ((rd l0 0) / 16) = 4 then (if (wrap64 (4 * (wrap64 (Go.bits .and .u8 (rd l0 0) 15)))) >= 20 then ((ip_must.f (decide ((wrap64 (t205)) >= (wrap64 (4 * (wrap64 (Go.bits .and .u8 (rd l0 0) 15)))))) 21).bind fun _ => (ip_reader_packet.j0 k l0 (wrap64 (4 * (wrap64 (Go.bits .and .u8 (rd l0 0) 15)))) (wrap64 (t205)))) else ((ip_must.f false 21).bind fun _ => (ip_reader_packet.j0 k l0 (wrap64 (4 * (wrap64 (Go.bits .and .u8 (rd l0 0) 15)))) (wrap64 (t205))))) else ((ip_must.f false 21).bind fun _ => (ip_reader_packet.j0 k l0 (wrap64 (4 * (wrap64 (Go.bits .and .u8 (rd l0 0) 15)))) (wrap64 (t205)))))) else (none))
def ip_reader_packet.T2 : Bool × List (List Nat × List Nat) := (true, [([], []), ([0], [0]), ([1], [1]), ([2], [2]), ([3], [3]), ([4], [4]), ([], []), ([6], [6]), ([7], [7]), ([5, 7, 0, 1, 2, 3, 4, 5], [5]), ([8, 9, 0, 1, 2, 3, 4, 5, 6, 7, 8, 9], [8])])
def ip_reader_packet.B2 : List Nat := [0, 1, 3, 7, 15, 31, 0, 64, 192, 255, 1023]
theorem ip_reader_packet.tab2 : rtab .any (opsOf Try.f95 2) = ip_reader_packet.T2 := by kernel_rfl
theorem ip_reader_packet.bits2 : waitsOk ip_reader_packet.T2.2 ip_reader_packet.B2 = true := by kernel_rfl
def ip_reader_packet.T7 : Bool × List (List Nat × List Nat) := (true, [([], []), ([0], [0]), ([1], [1]), ([], []), ([3], [3]), ([], []), ([5], [5]), ([6], [6]), ([], []), ([8], [8]), ([], []), ([10], [10]), ([11], [11]), ([], []), ([13], [13]), ([14], [14]), ([], []), ([16, 4], [16]), ([], []), ([18, 17], [18]), ([], []), ([], []), ([20, 21], [20, 21]), ([22, 19], [22]), ([], []), ([], []), ([], []), ([24, 25, 26], [24, 25, 26]), ([27, 23], [27]), ([2, 4, 7, 9, 12, 15, 17, 19, 23, 28], [2, 4, 7, 9, 12, 15, 17, 19, 23, 28]), ([29, 28, 0, 1, 2, 3, 4, 5, 6, 7, 8, 9, 10, 11, 12, 13, 14, 15, 16, 17, 18, 19, 20, 21, 22, 23, 24, 25, 26, 27, 28, 29], [29])])
def ip_reader_packet.B7 : List Nat := [0, 1, 3, 0, 8, 0, 32, 96, 0, 256, 0, 1024, 3072, 0, 8192, 24576, 0, 65560, 0, 458776, 0, 0, 3145728, 8323096, 0, 0, 0, 117440512, 268369944, 536870911, 1073741823]
theorem ip_reader_packet.tab7 : rtab .any (opsOf Try.f95 7) = ip_reader_packet.T7 := by kernel_rfl
theorem ip_reader_packet.bits7 : waitsOk ip_reader_packet.T7.2 ip_reader_packet.B7 = true := by kernel_rfl
theorem ip_reader_packet.calls (k : Nat) (A0 : Option Addr) (c0 : Nat) (l0 : List Int) (r1 : Int) (r2 : Int) (r3 : Int) (r4 : Int) (r5 : Int) (r6 : Int) (r7 : Int) (r8 : Int) (r9 : List Int) (r10 : List Int) (w : World) (hr0 : Kd.C (Kd.int .u8) w A0 l0.length l0) (hc0 : l0.length <= c0) (h : ip_reader_packet.f k l0 = some (r1, r2, r3, r4, r5, r6, r7, r8, r9, r10)) :
  Calls Try.prog 95 #[.slice A0 l0.length c0] w fun e w' => ∃ v8_ v9_ : Value, e = .returned (.agg #[.int .u8 r1, .int .u8 r2, .int .u8 r3, .int .u16 r4, .int .u8 r5, .int .u16 r6, .int .u32 r7, .int .u32 r8, v8_, v9_]) /\ Kd.R (Kd.int .u8) 5 w' w.heap.size (fun k_ => some k_ ≠ (v9_ : Value).ownBlock) v8_ r9 /\ Kd.R (Kd.int .u8) 5 w' w.heap.size (fun k_ => some k_ ≠ (v8_ : Value).ownBlock) v9_ r10 /\ Below w.heap.size w w' := by
 have hu73 := Try.underlying73; have HR0 := Aside0.mk hr0; have HC0 := Aside0.mk hc0; clear hr0 hc0; have HB := Aside0.mk (Below.refl w.heap.size w)
 have H : ((ip_must.f (decide ((l0.length : Int) >= 20)) 20).bind fun _ => (if 0 < (l0.length : Int) then ((ip_reader_two.f l0 2).bind fun t205 => (if ((rd l0 0) / 16) = 4 then (if (wrap64 (4 * (wrap64 (Go.bits .and .u8 (rd l0 0) 15)))) >= 20 then ((ip_must.f (decide ((wrap64 (t205)) >= (wrap64 (4 * (wrap64 (Go.bits .and .u8 (rd l0 0) 15)))))) 21).bind fun _ => (ip_reader_packet.j0 k l0 (wrap64 (4 * (wrap64 (Go.bits .and .u8 (rd l0 0) 15)))) (wrap64 (t205)))) else ((ip_must.f false 21).bind fun _ => (ip_reader_packet.j0 k l0 (wrap64 (4 * (wrap64 (Go.bits .and .u8 (rd l0 0) 15)))) (wrap64 (t205))))) else ((ip_must.f false 21).bind fun _ => (ip_reader_packet.j0 k l0 (wrap64 (4 * (wrap64 (Go.bits .and .u8 (rd l0 0) 15)))) (wrap64 (t205)))))) else (none))) = some (r1, r2, r3, r4, r5, r6, r7, r8, r9, r10) := h; clear h; replace H := Option.bind_eq_some_iff.mp H; obtain ⟨_, A20, H⟩ := H
 (try dsimp -simprocs only at H)
 have A2 := Aside0.mk A20; clear A20
 by_cases c3 : 0 < (l0.length : Int)
 ·rw [if_pos c3] at H
  have c3b0 : decide (0 < (l0.length : Int)) = true := decide_eq_true c3; have c3b1 : decide (0 < l0.length) = true := decide_eq_true (by omega); clear c3; replace H := Option.bind_eq_some_iff.mp H; obtain ⟨t205, A40, H⟩ := H
  (try dsimp -simprocs only at H)
  have A4 := Aside0.mk A40; clear A40; have HC5 := Aside0.mk H; clear H
  go_enter Try.func95, Try.ntmps95
  try go_wp2_with (first | ((with_reducible refine gate_dst (N := 2) rfl ?_); refine box_event ?hg (N := 2) ?hd (cs := #[.int .u8 0, .int .u8 0, .int .u8 0, .int .u16 0, .int .u8 0, .int .u16 0, .int .u32 0, .int .u32 0, .slice none 0 0, .slice none 0 0]) (t := 73) ?hr ?_; (case hd => rfl); (case hg => rfl); (case hr => first | (go_simp; done) | (go_simp; rfl)); intro gb203 hg w6 hbox hb; have n0_ := Aside0.mk (below_step (bz HB) hb); have n1_ := Aside0.mk (hbox); have n2_ := Aside0.mk ((by rw [hg]; exact (below_size (bz HB)) : w.heap.size <= gb203)); have n3_ := Aside0.mk ((by rw [hg]; exact (below_size (bz HB)) : w.heap.size <= gb203)); clear HB; have HB := n0_; have BK203 := n1_; have GW203 := n2_; have GE203 := n3_; clear n0_ n1_ n2_ n3_; clear hb hbox hg) | ((with_reducible refine gate_callee (f := 117) rfl ?_); refine gL 9 Try.func117 #[.bool (decide ((l0.length : Int) >= 20)), .int .i64 20] ?_; (with_reducible refine (ip_must.calls (decide ((l0.length : Int) >= 20)) 20  _ A2.out).mono ?_); rintro e w' ⟨rfl, ⟨nd, rfl⟩⟩; refine ⟨_, rfl, ?_⟩))
  (try (rw [drewN_self w6]; generalize hq_ : World.drewN w6 _ = w6; have n0_ : Aside0 (w6.heap[gb203]? = some (.cells #[.int .u8 0, .int .u8 0, .int .u8 0, .int .u16 0, .int .u8 0, .int .u16 0, .int .u32 0, .int .u32 0, .slice none 0 0, .slice none 0 0] 73 (0, 0))) := ⟨by rw [<- hq_]; exact (kz BK203)⟩; have n1_ : Aside0 (Below w.heap.size w w6) := ⟨by rw [<- hq_]; exact bz HB⟩; clear BK203 HB hq_; have BK203 := n0_; have HB := n1_; clear n0_ n1_))
  have n0_ := Aside0.mk (blk_drew BK203.out); have n1_ := Aside0.mk (below_drew1 HB.out); clear BK203; clear HB; have BK203 := n0_; have HB := n1_; clear n0_ n1_; have p204 : 0 <= (0 : Int) := (by omega)
  have q204 : 0 < (l0.length : Int) := odt; obtain ⟨ad204, e204, hx204_0⟩ := Kd.at_int HR0.out 0 p204 q204; have hw204_0 := hx204_0
  (try rw [show ((0 : Int)).toNat = 0 from rfl] at hw204_0)
  (try rw [show 0 * 1 = 0 from rfl] at hw204_0)
  (try rw [Addr.add_zero'] at hw204_0)
  cases e204
  have qi204 : (0 < l0.length) = True := eq_true (by omega)
  (try rw [show ((0 : Int)).toNat = 0 from rfl] at hx204_0)
  (try rw [Addr.add_zero'] at hx204_0)
  replace hx204_0 := (HB.out.cell (World.block_lt_of_cell? w _ hx204_0)).trans hx204_0; replace p204 := eq_true p204; replace q204 := eq_true q204; refine start_ (n := 11) (S := fun w' => w'.cell? ad204 = some (.int .u8 (rd l0 0))) (ds := []) #[false, false, false, false, false, false, false, false, false, false, false] (by kernel_rfl) rfl rfl (((HB.out.cell (World.block_lt_of_cell? w _ hw204_0)).trans hw204_0)) (fun hHeld => ?_); refine with_tabW ip_reader_packet.tab2 ip_reader_packet.bits2 (fun HT_ HW_ => ?_); generalize w6.drew = w7 at BK203 HB hx204_0 hHeld |-
  refine pz 0 10 HT_ ?_; refine pz 1 11 HT_ ?_; refine pz 6 16 HT_ ?_; refine tz 2 12 HT_ HW_ hHeld ?_; refine pz 3 13 HT_ ?_; refine pz 4 14 HT_ ?_; refine pz 5 15 HT_ ?_; refine oz 7 (some 17) HT_ (fun K hK => ?_); refine gG Try.func118 #[.slice (some ad204) l0.length c0, .int .i64 2] ?_
  with_reducible refine (ip_reader_two.calls _ _ l0 2 t205 _ ?side1 ?side2 A4.out).mono ?_
  (case side1 => exact Kd.C_below HR0.out (bz HB))
  (case side2 => exact HC0.out)
  rintro e w' ⟨rfl, ⟨nd, rfl⟩⟩; refine ⟨_, rfl, ?_⟩; refine hK.out _ _ (((HB.out.cell (World.block_lt_of_cell? w _ hw204_0)).trans hw204_0)) (fun hHeld => ?_); clear hK K; refine nz 17 ?_; refine pz 8 18 HT_ ?_; refine pz 9 3 HT_ ?_; refine pz 10 4 HT_ ?_; refine dz HT_ ?_
  go_upto_region 3 with (fail)
  go_cut [] (fun wc => ∃ (kq : Nat), Aside0 (ip_reader_packet.j0 kq l0 (wrap64 (4 * (wrap64 (Go.bits .and .u8 (rd l0 0) 15)))) (wrap64 (t205)) = some (r1, r2, r3, r4, r5, r6, r7, r8, r9, r10)) /\ Aside0 (kq <= k) /\ Aside0 (wc.heap[gb203]? = some (.cells #[.int .u8 0, .int .u8 0, .int .u8 0, .int .u16 0, .int .u8 0, .int .u16 0, .int .u32 0, .int .u32 0, (.slice none 0 0), (.slice none 0 0)] 73 (0, 0))) /\ Aside0 (Below w.heap.size w wc))
  case first =>
   have H := HC5.out; clear HC5
   by_cases c8 : ((rd l0 0) / 16) = 4
   ·rw [if_pos c8] at H
    have c8b0 : (((rd l0 0) / 16) == 4) = true := beq_iff_eq.mpr c8; have c8b1 : (((rd l0 0) / 16) != 4) = false := bne_eq_false_iff_eq.mpr c8; clear c8
    (first | rw [c8b0] | (simp only [i64_w, i32_w]; rw [c8b0]) | skip)
    by_cases c9 : (wrap64 (4 * (wrap64 (Go.bits .and .u8 (rd l0 0) 15)))) >= 20
    ·rw [if_pos c9] at H
     have c9b0 : decide (20 <= (wrap64 (4 * (wrap64 (Go.bits .and .u8 (rd l0 0) 15))))) = true := decide_eq_true c9; clear c9; replace H := Option.bind_eq_some_iff.mp H; obtain ⟨_, A100, H⟩ := H
     (try dsimp -simprocs only at H)
     have A10 := Aside0.mk A100; clear A100; have H' := Aside0.mk H; clear H; have p206 : 0 <= (0 : Int) := (by omega)
     have q206 : 0 < (l0.length : Int) := odt; obtain ⟨ad206, e206, hx206_0⟩ := Kd.at_int HR0.out 0 p206 q206; obtain rfl : ad204 = ad206 := (by injection e206)
     have qi206 : (0 < l0.length) = True := eq_true (by omega)
     (try rw [show ((0 : Int)).toNat = 0 from rfl] at hx206_0)
     (try rw [Addr.add_zero'] at hx206_0)
     replace hx206_0 := (HB.out.cell (World.block_lt_of_cell? w _ hx206_0)).trans hx206_0; replace p206 := eq_true p206; replace q206 := eq_true q206
     go_wp2_with (first | ((with_reducible refine gate_callee (f := 117) rfl ?_); refine gL 33 Try.func117 #[.bool (decide ((wrap64 (t205)) >= (wrap64 (4 * (wrap64 (Go.bits .and .u8 (rd l0 0) 15)))))), .int .i64 21] ?_; (with_reducible refine (ip_must.calls (decide ((wrap64 (t205)) >= (wrap64 (4 * (wrap64 (Go.bits .and .u8 (rd l0 0) 15)))))) 21  _ A10.out).mono ?_); rintro e w' ⟨rfl, ⟨nd, rfl⟩⟩; refine ⟨_, rfl, ?_⟩))
     go_meet
     case rel => exact ⟨_, H', ⟨by first | omega | exact Nat.le_refl _⟩, ⟨kz BK203⟩, ⟨bz HB⟩⟩
    ·rw [if_neg c9] at H
     have c9b0 : decide (20 <= (wrap64 (4 * (wrap64 (Go.bits .and .u8 (rd l0 0) 15))))) = false := decide_eq_false c9; clear c9; replace H := Option.bind_eq_some_iff.mp H; obtain ⟨_, A110, H⟩ := H
     (try dsimp -simprocs only at H)
     have A11 := Aside0.mk A110; clear A110; have H' := Aside0.mk H; clear H; have p206 : 0 <= (0 : Int) := (by omega)
     have q206 : 0 < (l0.length : Int) := odt; obtain ⟨ad206, e206, hx206_0⟩ := Kd.at_int HR0.out 0 p206 q206; obtain rfl : ad204 = ad206 := (by injection e206)
     have qi206 : (0 < l0.length) = True := eq_true (by omega)
     (try rw [show ((0 : Int)).toNat = 0 from rfl] at hx206_0)
     (try rw [Addr.add_zero'] at hx206_0)
     replace hx206_0 := (HB.out.cell (World.block_lt_of_cell? w _ hx206_0)).trans hx206_0; replace p206 := eq_true p206; replace q206 := eq_true q206
     go_wp2_with (first | ((with_reducible refine gate_callee (f := 117) rfl ?_); refine gL 33 Try.func117 #[.bool false, .int .i64 21] ?_; (with_reducible refine (ip_must.calls false 21  _ A11.out).mono ?_); rintro e w' ⟨rfl, ⟨nd, rfl⟩⟩; refine ⟨_, rfl, ?_⟩))
     go_meet
     case rel => exact ⟨_, H', ⟨by first | omega | exact Nat.le_refl _⟩, ⟨kz BK203⟩, ⟨bz HB⟩⟩
   ·rw [if_neg c8] at H
    have c8b0 : (((rd l0 0) / 16) == 4) = false := beq_eq_false_iff_ne.mpr c8; have c8b1 : (((rd l0 0) / 16) != 4) = true := bne_iff_ne.mpr c8
    (first | rw [c8b0] | (simp only [i64_w, i32_w]; rw [c8b0]) | skip)
    replace H := Option.bind_eq_some_iff.mp H; obtain ⟨_, A120, H⟩ := H
    (try dsimp -simprocs only at H)
    have A12 := Aside0.mk A120; clear A120; have H' := Aside0.mk H; clear H; have p206 : 0 <= (0 : Int) := (by omega)
    have q206 : 0 < (l0.length : Int) := odt; obtain ⟨ad206, e206, hx206_0⟩ := Kd.at_int HR0.out 0 p206 q206; obtain rfl : ad204 = ad206 := (by injection e206)
    have qi206 : (0 < l0.length) = True := eq_true (by omega)
    (try rw [show ((0 : Int)).toNat = 0 from rfl] at hx206_0)
    (try rw [Addr.add_zero'] at hx206_0)
    replace hx206_0 := (HB.out.cell (World.block_lt_of_cell? w _ hx206_0)).trans hx206_0; replace p206 := eq_true p206; replace q206 := eq_true q206
    go_wp2_with (first | ((with_reducible refine gate_callee (f := 117) rfl ?_); refine gL 33 Try.func117 #[.bool false, .int .i64 21] ?_; (with_reducible refine (ip_must.calls false 21  _ A12.out).mono ?_); rintro e w' ⟨rfl, ⟨nd, rfl⟩⟩; refine ⟨_, rfl, ?_⟩))
    go_meet
    case rel => exact ⟨_, H', ⟨by first | omega | exact Nat.le_refl _⟩, ⟨kz BK203⟩, ⟨bz HB⟩⟩
  case rest =>
   clear HC5
   try clear c3
   try clear c3b0
   try clear c3b1
   try clear hx204_0
   try clear p204
   try clear q204
   obtain ⟨kq, HA, HJ4, BK203, HB⟩ := hcut
   cases kq with
   | zero => exact absurd HA.out (by simp [ip_reader_packet.j0])
   | succ kj4 =>
    have H := HA.out; clear HA; simp only [ip_reader_packet.j0] at H
    replace H := Option.bind_eq_some_iff.mp H; obtain ⟨_, A130, H⟩ := H
    (try dsimp -simprocs only at H)
    have A13 := Aside0.mk A130; clear A130; obtain ⟨ji14, hji14⟩ : ∃ j_ : Int, (wrap64 (4 * (wrap64 (Go.bits .and .u8 (rd l0 0) 15)))) = j_ := ⟨_, rfl⟩
    replace H : (if 0 <= (ji14) then (if (ji14) <= (l0.length : Int) then ((sum_Add.f kj4 0 (l0.take ((ji14) : Int).toNat)).bind fun t208 => ((sum_Fold.f kj4 t208).bind fun t209 => ((ip_must.f (t209 == 65535) 22).bind fun _ => ((ip_reader_two.f l0 6).bind fun t210 => (if 1 < (l0.length : Int) then ((ip_reader_two.f l0 4).bind fun t212 => (if 8 < (l0.length : Int) then (if 9 < (l0.length : Int) then ((ip_reader_four.f l0 12).bind fun t215 => ((ip_reader_four.f l0 16).bind fun t216 => (if 20 <= (ji14) then ((ip_reader_byte.f ((l0.take ((ji14) : Int).toNat).drop 20)).bind fun t218 => (if (ji14) <= (wrap64 (t205)) then (if (wrap64 (t205)) <= (l0.length : Int) then ((ip_reader_byte.f ((l0.take ((wrap64 (t205)) : Int).toNat).drop ((ji14) : Int).toNat)).bind fun t222 => (some (rd l0 1, rd l0 8, rd l0 9, t212, (t210 / 8192) % 256, Go.bits .and .u16 t210 8191, t215, t216, t218, t222))) else (none)) else (none))) else (none)))) else (none)) else (none))) else (none)))))) else (none)) else (none)) = some (r1, r2, r3, r4, r5, r6, r7, r8, r9, r10) := by first | (rw [hji14] at H; exact H) | (simp only [hji14] at H |-; exact H)
    (try rw [hji14] at A13)
    have hji14w : (IntKind.i64.wrap (4 * (wrap64 (Go.bits .and .u8 (rd l0 0) 15)))) = ji14 := (i64_w _).trans hji14
    by_cases c15 : 0 <= (ji14)
    ·rw [if_pos c15] at H
     have c15b0 := eq_true c15; have c15b1 : decide (0 <= (ji14)) = true := decide_eq_true c15; clear c15
     by_cases c16 : (ji14) <= (l0.length : Int)
     ·rw [if_pos c16] at H
      have c16b0 := eq_true c16; have c16b1 : decide ((ji14) <= (l0.length : Int)) = true := decide_eq_true c16; clear c16; replace H := Option.bind_eq_some_iff.mp H; obtain ⟨t208, A170, H⟩ := H
      (try dsimp -simprocs only at H)
      have A17 := Aside0.mk A170; clear A170; replace H := Option.bind_eq_some_iff.mp H; obtain ⟨t209, A180, H⟩ := H
      (try dsimp -simprocs only at H)
      have A18 := Aside0.mk A180; clear A180; replace H := Option.bind_eq_some_iff.mp H; obtain ⟨_, A190, H⟩ := H
      (try dsimp -simprocs only at H)
      have A19 := Aside0.mk A190; clear A190; replace H := Option.bind_eq_some_iff.mp H; obtain ⟨t210, A200, H⟩ := H
      (try dsimp -simprocs only at H)
      have A20 := Aside0.mk A200; clear A200
      by_cases c21 : 1 < (l0.length : Int)
      ·rw [if_pos c21] at H
       have c21b0 : decide (1 < (l0.length : Int)) = true := decide_eq_true c21; have c21b1 : decide (1 < l0.length) = true := decide_eq_true (by omega); clear c21; replace H := Option.bind_eq_some_iff.mp H; obtain ⟨t212, A220, H⟩ := H
       (try dsimp -simprocs only at H)
       have A22 := Aside0.mk A220; clear A220
       by_cases c23 : 8 < (l0.length : Int)
       ·rw [if_pos c23] at H
        have c23b0 : decide (8 < (l0.length : Int)) = true := decide_eq_true c23; have c23b1 : decide (8 < l0.length) = true := decide_eq_true (by omega); clear c23
        by_cases c24 : 9 < (l0.length : Int)
        ·rw [if_pos c24] at H
         have c24b0 : decide (9 < (l0.length : Int)) = true := decide_eq_true c24; have c24b1 : decide (9 < l0.length) = true := decide_eq_true (by omega); clear c24; replace H := Option.bind_eq_some_iff.mp H; obtain ⟨t215, A250, H⟩ := H
         (try dsimp -simprocs only at H)
         have A25 := Aside0.mk A250; clear A250; replace H := Option.bind_eq_some_iff.mp H; obtain ⟨t216, A260, H⟩ := H
         (try dsimp -simprocs only at H)
         have A26 := Aside0.mk A260; clear A260
         by_cases c27 : 20 <= (ji14)
         ·rw [if_pos c27] at H
          have c27b0 := eq_true c27; have c27b1 : decide (20 <= (ji14)) = true := decide_eq_true c27; clear c27; have c28b0 := eq_true (odt : (ji14) <= (l0.length : Int)); replace H := Option.bind_eq_some_iff.mp H; obtain ⟨t218, A290, H⟩ := H
          (try dsimp -simprocs only at H)
          have A29 := Aside0.mk A290; clear A290; have c30b0 := eq_true (odt : 0 <= (ji14))
          by_cases c31 : (ji14) <= (wrap64 (t205))
          ·rw [if_pos c31] at H
           have c31b0 := eq_true c31; have c31b1 : decide ((ji14) <= (wrap64 (t205))) = true := decide_eq_true c31; clear c31
           by_cases c32 : (wrap64 (t205)) <= (l0.length : Int)
           ·rw [if_pos c32] at H
            have c32b0 := eq_true c32; have c32b1 : decide ((wrap64 (t205)) <= (l0.length : Int)) = true := decide_eq_true c32; clear c32; replace H := Option.bind_eq_some_iff.mp H; obtain ⟨t222, A330, H⟩ := H
            (try dsimp -simprocs only at H)
            have A33 := Aside0.mk A330; clear A330; simp only [Option.some.injEq, Prod.mk.injEq] at H
            obtain ⟨rfl, rfl, rfl, rfl, rfl, rfl, rfl, rfl, rfl, rfl⟩ := H
            try go_wp2_with (first | ((with_reducible refine gate_callee (f := 117) rfl ?_); refine gL 38 Try.func117 #[.bool (decide ((l0.length : Int) >= (wrap64 (t205)))), .int .i64 20] ?_; (with_reducible refine (ip_must.calls (decide ((l0.length : Int) >= (wrap64 (t205)))) 20  _ A13.out).mono ?_); rintro e w' ⟨rfl, ⟨nd, rfl⟩⟩; refine ⟨_, rfl, ?_⟩; (try (rw [drewN_self wc]; generalize hq_ : World.drewN wc _ = wc; have n0_ : Aside0 (wc.heap[gb203]? = some (.cells #[.int .u8 0, .int .u8 0, .int .u8 0, .int .u16 0, .int .u8 0, .int .u16 0, .int .u32 0, .int .u32 0, .slice none 0 0, .slice none 0 0] 73 (0, 0))) := ⟨by rw [<- hq_]; exact (kz BK203)⟩; have n1_ : Aside0 (Below w.heap.size w wc) := ⟨by rw [<- hq_]; exact bz HB⟩; clear BK203 HB hq_; have BK203 := n0_; have HB := n1_; clear n0_ n1_)); obtain ⟨i034, hi034, _, hsz34, _⟩ := info_parts info5; obtain ⟨hcut34, hA34, hC34⟩ := print_take_of (P := Try.prog) (Value.int .u8) 0 165 5 .i64 Try.underlying165 hi034 hsz34 (some ad204) c0 l0 (ji14) odt odt HC0.out; have HR207 := Aside0.mk (Kd.C_of_reads (h1 := fun _ => rfl) (hA34 _ (Kd.reads_of_C HR0.out))); have HC207 := Aside0.mk hC34; clear hA34 hC34 hi034 hsz34) | ((with_reducible refine gate_callee (f := 116) rfl ?_); refine goesL_ (some 42) rfl rfl Try.func116 (by kernel_rfl) rfl #[.int .u32 0, .slice (some ad204) (l0.take ((ji14) : Int).toNat).length c0] rfl (by (try simp only [List.map_toArray, List.map_cons, List.map_nil]); first | done | (rw [show (l0.take ((ji14) : Int).toNat).length = (ji14).toNat from (by rw [List.length_take]; have h_ : ((ji14) : Int) <= (l0.length : Int) := odt; omega)] <;> rfl) | (simp only [hji14]; rfl) | rfl | (simp only [List.length_drop, List.length_take]; rfl) | (go_simp; done) | (simp [Act.eval, IntKind.signed]; done) | (simp [Act.eval, IntKind.signed]; rfl)) ?_; (with_reducible refine (sum_Add.calls kj4 0 _ _ (l0.take ((ji14) : Int).toNat) t208 _ ?side1 ?side2 A17.out).mono ?_); (case side1 => exact Kd.C_below HR207.out (bz HB)); (case side2 => exact HC207.out); rintro e w35 ⟨rfl, hb⟩; refine ⟨_, rfl, ?_⟩; have n0_ := Aside0.mk (blk_below (kz BK203) hb); have n1_ := Aside0.mk (below_step (bz HB) hb); clear BK203; clear HB; have BK203 := n0_; have HB := n1_; clear n0_ n1_; (try clear hb); (try clear hb2); (try clear hk); (try clear hi)) | ((with_reducible refine gate_callee (f := 115) rfl ?_); refine gL 43 Try.func115 #[.int .u32 t208] ?_; (with_reducible refine (sum_Fold.calls kj4 t208 t209 _ A18.out).mono ?_); rintro e w' ⟨rfl, ⟨nd, rfl⟩⟩; refine ⟨_, rfl, ?_⟩; (try (rw [drewN_self w35]; generalize hq_ : World.drewN w35 _ = w35; have n0_ : Aside0 (w35.heap[gb203]? = some (.cells #[.int .u8 0, .int .u8 0, .int .u8 0, .int .u16 0, .int .u8 0, .int .u16 0, .int .u32 0, .int .u32 0, .slice none 0 0, .slice none 0 0] 73 (0, 0))) := ⟨by rw [<- hq_]; exact (kz BK203)⟩; have n1_ : Aside0 (Below w.heap.size w w35) := ⟨by rw [<- hq_]; exact bz HB⟩; clear BK203 HB hq_; have BK203 := n0_; have HB := n1_; clear n0_ n1_))) | ((with_reducible refine gate_callee (f := 117) rfl ?_); refine gL 45 Try.func117 #[.bool (t209 == 65535), .int .i64 22] ?_; (with_reducible refine (ip_must.calls (t209 == 65535) 22  _ A19.out).mono ?_); rintro e w' ⟨rfl, ⟨nd, rfl⟩⟩; refine ⟨_, rfl, ?_⟩; (try (rw [drewN_self w35]; generalize hq_ : World.drewN w35 _ = w35; have n0_ : Aside0 (w35.heap[gb203]? = some (.cells #[.int .u8 0, .int .u8 0, .int .u8 0, .int .u16 0, .int .u8 0, .int .u16 0, .int .u32 0, .int .u32 0, .slice none 0 0, .slice none 0 0] 73 (0, 0))) := ⟨by rw [<- hq_]; exact (kz BK203)⟩; have n1_ : Aside0 (Below w.heap.size w w35) := ⟨by rw [<- hq_]; exact bz HB⟩; clear BK203 HB hq_; have BK203 := n0_; have HB := n1_; clear n0_ n1_))) | ((with_reducible refine gate_callee (f := 118) rfl ?_); refine gL 47 Try.func118 #[.slice (some ad204) l0.length c0, .int .i64 6] ?_; (with_reducible refine (ip_reader_two.calls _ _ l0 6 t210 _ ?side1 ?side2 A20.out).mono ?_); (case side1 => exact Kd.C_below HR0.out (bz HB)); (case side2 => exact HC0.out); rintro e w' ⟨rfl, ⟨nd, rfl⟩⟩; refine ⟨_, rfl, ?_⟩; (try (rw [drewN_self w35]; generalize hq_ : World.drewN w35 _ = w35; have n0_ : Aside0 (w35.heap[gb203]? = some (.cells #[.int .u8 0, .int .u8 0, .int .u8 0, .int .u16 0, .int .u8 0, .int .u16 0, .int .u32 0, .int .u32 0, .slice none 0 0, .slice none 0 0] 73 (0, 0))) := ⟨by rw [<- hq_]; exact (kz BK203)⟩; have n1_ : Aside0 (Below w.heap.size w w35) := ⟨by rw [<- hq_]; exact bz HB⟩; clear BK203 HB hq_; have BK203 := n0_; have HB := n1_; clear n0_ n1_))))
            have n0_ := Aside0.mk (blk_drew BK203.out); have n1_ := Aside0.mk (below_drew1 HB.out); clear BK203; clear HB; have BK203 := n0_; have HB := n1_; clear n0_ n1_; have p211 : 0 <= (1 : Int) := (by omega)
            have q211 : 1 < (l0.length : Int) := odt; obtain ⟨ad211, e211, hx211_0⟩ := Kd.at_int HR0.out 1 p211 q211; have hw211_0 := hx211_0
            (try rw [show ((1 : Int)).toNat = 1 from rfl] at hw211_0)
            (try rw [show 1 * 1 = 1 from rfl] at hw211_0)
            (try simp only [Nat.reduceMul, Nat.reduceEqDiff, Go.Addr.add, ↓reduceIte] at hw211_0)
            obtain rfl : ad204 = ad211 := (by injection e211)
            (try simp only [show (1 : Int).toNat = 1 from rfl, Nat.reduceMul, Nat.reduceEqDiff, Go.Addr.add, ↓reduceIte] at hx211_0)
            have qi211 : (1 < l0.length) = True := eq_true (by omega)
            (try rw [show ((1 : Int)).toNat = 1 from rfl] at hx211_0)
            replace hx211_0 := (HB.out.cell (World.block_lt_of_cell? w _ hx211_0)).trans hx211_0; replace p211 := eq_true p211; replace q211 := eq_true q211; have p213 : 0 <= (8 : Int) := (by omega)
            have q213 : 8 < (l0.length : Int) := odt; obtain ⟨ad213, e213, hx213_0⟩ := Kd.at_int HR0.out 8 p213 q213; have hw213_0 := hx213_0
            (try rw [show ((8 : Int)).toNat = 8 from rfl] at hw213_0)
            (try rw [show 8 * 1 = 8 from rfl] at hw213_0)
            (try simp only [Nat.reduceMul, Nat.reduceEqDiff, Go.Addr.add, ↓reduceIte] at hw213_0)
            obtain rfl : ad204 = ad213 := (by injection e213)
            (try simp only [show (8 : Int).toNat = 8 from rfl, Nat.reduceMul, Nat.reduceEqDiff, Go.Addr.add, ↓reduceIte] at hx213_0)
            have qi213 : (8 < l0.length) = True := eq_true (by omega)
            (try rw [show ((8 : Int)).toNat = 8 from rfl] at hx213_0)
            replace hx213_0 := (HB.out.cell (World.block_lt_of_cell? w _ hx213_0)).trans hx213_0; replace p213 := eq_true p213; replace q213 := eq_true q213; have p214 : 0 <= (9 : Int) := (by omega)
            have q214 : 9 < (l0.length : Int) := odt; obtain ⟨ad214, e214, hx214_0⟩ := Kd.at_int HR0.out 9 p214 q214; have hw214_0 := hx214_0
            (try rw [show ((9 : Int)).toNat = 9 from rfl] at hw214_0)
            (try rw [show 9 * 1 = 9 from rfl] at hw214_0)
            (try simp only [Nat.reduceMul, Nat.reduceEqDiff, Go.Addr.add, ↓reduceIte] at hw214_0)
            obtain rfl : ad204 = ad214 := (by injection e214)
            (try simp only [show (9 : Int).toNat = 9 from rfl, Nat.reduceMul, Nat.reduceEqDiff, Go.Addr.add, ↓reduceIte] at hx214_0)
            have qi214 : (9 < l0.length) = True := eq_true (by omega)
            (try rw [show ((9 : Int)).toNat = 9 from rfl] at hx214_0)
            replace hx214_0 := (HB.out.cell (World.block_lt_of_cell? w _ hx214_0)).trans hx214_0; replace p214 := eq_true p214; replace q214 := eq_true q214; obtain ⟨i037, hi037, _, hsz37, _⟩ := info_parts info5; obtain ⟨A37, hcut37, hA37, hC37⟩ := print_mid_of (P := Try.prog) (Value.int .u8) 0 165 5 .i64 .i64 Try.underlying165 hi037 hsz37 (some ad204) c0 l0 20 (ji14) (by omega) (by first | omega | exact odt) odt HC0.out; have HR217 := Aside0.mk (Kd.C_of_reads (h1 := fun _ => rfl) (hA37 _ (Kd.reads_of_C HR0.out))); have HC217 := Aside0.mk hC37; clear hA37 hC37 hi037 hsz37; obtain ⟨i038, hi038, _, hsz38, _⟩ := info_parts info5
            obtain ⟨A38, hcut38, hA38, hC38⟩ := print_mid_of (P := Try.prog) (Value.int .u8) 0 165 5 .i64 .i64 Try.underlying165 hi038 hsz38 (some ad204) c0 l0 (ji14) (wrap64 (t205)) odt (by first | omega | exact odt) odt HC0.out; have HR221 := Aside0.mk (Kd.C_of_reads (h1 := fun _ => rfl) (hA38 _ (Kd.reads_of_C HR0.out))); have HC221 := Aside0.mk hC38; clear hA38 hC38 hi038 hsz38
            refine start_ (n := 31) (S := fun w' => w'.cell? ⟨ad204.block, ad204.off + 1, none⟩ = some (.int .u8 (rd l0 1)) /\ w'.cell? ⟨ad204.block, ad204.off + 8, none⟩ = some (.int .u8 (rd l0 8)) /\ w'.cell? ⟨ad204.block, ad204.off + 9, none⟩ = some (.int .u8 (rd l0 9))) (ds := []) #[false, false, false, false, false, false, false, false, false, false, false, false, false, false, false, false, false, false, false, false, false, false, false, false, false, false, false, false, false, false, false] (by kernel_rfl) rfl rfl ⟨((HB.out.cell (World.block_lt_of_cell? w _ hw211_0)).trans hw211_0), ((HB.out.cell (World.block_lt_of_cell? w _ hw213_0)).trans hw213_0), ((HB.out.cell (World.block_lt_of_cell? w _ hw214_0)).trans hw214_0)⟩ (fun hHeld => ?_); refine with_tabW ip_reader_packet.tab7 ip_reader_packet.bits7 (fun HT_ HW_ => ?_)
            generalize w35.drew = w36 at BK203 HB HR217 HR221 hx211_0 hx213_0 hx214_0 hHeld |-
            refine pz 0 48 HT_ ?_; refine pz 1 49 HT_ ?_; refine pz 3 51 HT_ ?_; refine pz 5 53 HT_ ?_; refine pz 6 54 HT_ ?_; refine pz 7 55 HT_ ?_; refine pz 8 56 HT_ ?_; refine pz 9 57 HT_ ?_; refine pz 10 58 HT_ ?_; refine pz 11 59 HT_ ?_; refine pz 13 61 HT_ ?_; refine pz 14 62 HT_ ?_; refine pz 16 64 HT_ ?_; refine pz 18 66 HT_ ?_; refine pz 20 68 HT_ ?_; refine pz 21 69 HT_ ?_; refine pz 22 70 HT_ ?_; refine pz 24 72 HT_ ?_; refine pz 25 73 HT_ ?_; refine pz 26 74 HT_ ?_; refine pz 27 75 HT_ ?_; refine take_ (i := 2) (N := some 50) (v := ?_) (a' := ?_) #[true, true, true, true, false, true, true, true, true, true, true, true, false, true, true, false, true, false, true, false, true, true, true, false, true, true, true, true, false, false, false] rfl rfl (take_ofW HT_.out HW_.out (by kernel_rfl)) (fun _ _ _ h => h) (Or.inl ⟨by rfl, ?_⟩) hHeld ?_ ?_
            rotate_left
            ·rintro w' ⟨s0, s1, s2⟩
             go_simp
             with_reducible rfl
            rotate_left
            ·simp only [ps_]
             rfl
            refine take_ (i := 12) (N := some 60) (v := ?_) (a' := ?_) #[true, true, true, true, false, true, true, true, true, true, true, true, true, true, true, false, true, false, true, false, true, true, true, false, true, true, true, true, false, false, false] rfl rfl (take_ofW HT_.out HW_.out (by kernel_rfl)) (fun _ _ _ h => h) (Or.inl ⟨by rfl, ?_⟩) hHeld ?_ ?_
            rotate_left
            ·rintro w' ⟨s0, s1, s2⟩
             go_simp
             with_reducible rfl
            rotate_left
            ·simp only [ps_]
             rfl
            refine take_ (i := 15) (N := some 63) (v := ?_) (a' := ?_) #[true, true, true, true, false, true, true, true, true, true, true, true, true, true, true, true, true, false, true, false, true, true, true, false, true, true, true, true, false, false, false] rfl rfl (take_ofW HT_.out HW_.out (by kernel_rfl)) (fun _ _ _ h => h) (Or.inl ⟨by rfl, ?_⟩) hHeld ?_ ?_
            rotate_left
            ·rintro w' ⟨s0, s1, s2⟩
             go_simp
             with_reducible rfl
            rotate_left
            ·simp only [ps_]
             rfl
            refine oz 4 (some 52) HT_ (fun K hK => ?_); refine gG Try.func118 #[.slice (some ad204) l0.length c0, .int .i64 4] ?_
            with_reducible refine (ip_reader_two.calls _ _ l0 4 t212 _ ?side1 ?side2 A22.out).mono ?_
            (case side1 => exact Kd.C_below HR0.out (bz HB))
            (case side2 => exact HC0.out)
            rintro e w' ⟨rfl, ⟨nd, rfl⟩⟩; refine ⟨_, rfl, ?_⟩; refine hK.out _ _ ⟨((HB.out.cell (World.block_lt_of_cell? w _ hw211_0)).trans hw211_0), ((HB.out.cell (World.block_lt_of_cell? w _ hw213_0)).trans hw213_0), ((HB.out.cell (World.block_lt_of_cell? w _ hw214_0)).trans hw214_0)⟩ (fun hHeld => ?_); clear hK K; refine nz 52 ?_; refine oz 17 (some 65) HT_ (fun K hK => ?_); refine gG Try.func119 #[.slice (some ad204) l0.length c0, .int .i64 12] ?_
            with_reducible refine (ip_reader_four.calls _ _ l0 12 t215 _ ?side1 ?side2 A25.out).mono ?_
            (case side1 => exact Kd.C_below HR0.out (bz HB))
            (case side2 => exact HC0.out)
            rintro e w' ⟨rfl, ⟨nd, rfl⟩⟩; refine ⟨_, rfl, ?_⟩; refine hK.out _ _ ⟨((HB.out.cell (World.block_lt_of_cell? w _ hw211_0)).trans hw211_0), ((HB.out.cell (World.block_lt_of_cell? w _ hw213_0)).trans hw213_0), ((HB.out.cell (World.block_lt_of_cell? w _ hw214_0)).trans hw214_0)⟩ (fun hHeld => ?_); clear hK K; refine nz 65 ?_; refine oz 19 (some 67) HT_ (fun K hK => ?_); refine gG Try.func119 #[.slice (some ad204) l0.length c0, .int .i64 16] ?_
            with_reducible refine (ip_reader_four.calls _ _ l0 16 t216 _ ?side1 ?side2 A26.out).mono ?_
            (case side1 => exact Kd.C_below HR0.out (bz HB))
            (case side2 => exact HC0.out)
            rintro e w' ⟨rfl, ⟨nd, rfl⟩⟩; refine ⟨_, rfl, ?_⟩; refine hK.out _ _ ⟨((HB.out.cell (World.block_lt_of_cell? w _ hw211_0)).trans hw211_0), ((HB.out.cell (World.block_lt_of_cell? w _ hw213_0)).trans hw213_0), ((HB.out.cell (World.block_lt_of_cell? w _ hw214_0)).trans hw214_0)⟩ (fun hHeld => ?_); clear hK K; refine nz 67 ?_; refine oz 23 (some 71) HT_ (fun K hK => ?_)
            refine goes_ Try.func120 (by kernel_rfl) rfl #[.slice A37 ((l0.take ((ji14) : Int).toNat).drop 20).length (c0 - 20)] (by rfl) rfl rfl (by (try simp only [List.map_toArray, List.map_cons, List.map_nil]); first | done | (rw [show ((l0.take ((ji14) : Int).toNat).drop 20).length = ((ji14).toNat - 20) from (by rw [List.length_drop, List.length_take]; have h_ : ((ji14) : Int) <= (l0.length : Int) := odt; omega)] <;> rfl) | (simp only [hji14]; rfl) | rfl | (simp only [List.length_drop, List.length_take]; rfl) | (go_simp; done) | (simp [Act.eval, IntKind.signed]; done) | (simp [Act.eval, IntKind.signed]; rfl)) ?_
            with_reducible refine (ip_reader_byte.calls _ _ ((l0.take ((ji14) : Int).toNat).drop 20) t218 _ ?side1 ?side2 A29.out).mono ?_
            (case side1 => exact Kd.C_below HR217.out (bz HB))
            (case side2 => exact HC217.out)
            rintro e w39 ⟨v219, rfl, ho0, hb⟩; refine ⟨_, rfl, ?_⟩; have n0_ := Aside0.mk (Kd.R_lower ho0 (below_size (bz HB))); have n1_ := Aside0.mk (blk_below (kz BK203) hb); have n2_ := Aside0.mk (below_step (bz HB) hb); clear BK203; clear HB; have HO220 := n0_; have BK203 := n1_; have HB := n2_; clear n0_ n1_ n2_
            (try clear hb)
            (try clear hb2)
            (try clear hk)
            (try clear hi)
            (try clear ho0)
            refine hK.out _ _ ⟨((HB.out.cell (World.block_lt_of_cell? w _ hw211_0)).trans hw211_0), ((HB.out.cell (World.block_lt_of_cell? w _ hw213_0)).trans hw213_0), ((HB.out.cell (World.block_lt_of_cell? w _ hw214_0)).trans hw214_0)⟩ (fun hHeld => ?_); clear hK K; refine nz 71 ?_; refine oz 28 (some 76) HT_ (fun K hK => ?_)
            refine goes_ Try.func120 (by kernel_rfl) rfl #[.slice A38 ((l0.take ((wrap64 (t205)) : Int).toNat).drop ((ji14) : Int).toNat).length (c0 - (ji14).toNat)] (by rfl) rfl rfl (by (try simp only [List.map_toArray, List.map_cons, List.map_nil]); first | done | (rw [show ((l0.take ((wrap64 (t205)) : Int).toNat).drop ((ji14) : Int).toNat).length = ((wrap64 (t205)).toNat - (ji14).toNat) from (by rw [List.length_drop, List.length_take]; have h_ : ((wrap64 (t205)) : Int) <= (l0.length : Int) := odt; omega)] <;> rfl) | (simp only [hji14]; rfl) | rfl | (simp only [List.length_drop, List.length_take]; rfl) | (go_simp; done) | (simp [Act.eval, IntKind.signed]; done) | (simp [Act.eval, IntKind.signed]; rfl)) ?_
            with_reducible refine (ip_reader_byte.calls _ _ ((l0.take ((wrap64 (t205)) : Int).toNat).drop ((ji14) : Int).toNat) t222 _ ?side1 ?side2 A33.out).mono ?_
            (case side1 => exact Kd.C_below HR221.out (bz HB))
            (case side2 => exact HC221.out)
            rintro e w40 ⟨v223, rfl, ho0, hb⟩; refine ⟨_, rfl, ?_⟩; have n0_ := Aside0.mk (Kd.R_elder' (Kd.rz HO220) (Kd.R_base ho0) hb); have n1_ := Aside0.mk (Kd.R_lower (Kd.R_new' ho0 (Kd.R_lt (Kd.rz HO220))) (below_size (bz HB))); have n2_ := Aside0.mk (blk_below (kz BK203) hb); have n3_ := Aside0.mk (below_step (bz HB) hb); clear HO220; clear BK203; clear HB; have HO220 := n0_; have HO224 := n1_; have BK203 := n2_; have HB := n3_; clear n0_ n1_ n2_ n3_
            (try clear hb)
            (try clear hb2)
            (try clear hk)
            (try clear hi)
            (try clear ho0)
            obtain ⟨Ao41, co41, eo41⟩ := Kd.R_slice HO224.out
            (first | subst eo41 | (injection eo41 with f1_ f2_ f3_; have f4_ := f1_.symm; have f5_ := f3_.symm; clear f1_ f2_ f3_; subst f4_; subst f5_))
            obtain ⟨Ao42, co42, eo42⟩ := Kd.R_slice HO220.out
            (first | subst eo42 | (injection eo42 with f1_ f2_ f3_; have f4_ := f1_.symm; have f5_ := f3_.symm; clear f1_ f2_ f3_; subst f4_; subst f5_))
            refine hK.out _ _ ⟨((HB.out.cell (World.block_lt_of_cell? w _ hw211_0)).trans hw211_0), ((HB.out.cell (World.block_lt_of_cell? w _ hw213_0)).trans hw213_0), ((HB.out.cell (World.block_lt_of_cell? w _ hw214_0)).trans hw214_0)⟩ (fun hHeld => ?_); clear hK K; refine nz 76 ?_; refine pz 29 77 HT_ ?_; refine oz 30 (none) HT_ (fun K hK => ?_); have hs43_ := cs10 BK203.out; have hfs43_ := blk_frozen BK203.out; refine skip_ (w1 := ?_) (by rfl) rfl ?_ ?_
            rotate_left
            ·go_simp
             rfl
            refine hK.out _ _ ⟨((cell_far (p := ⟨gb203, _, none⟩) (by first | exact far1 hw211_0 GW203.out | exact far2 hw211_0 GW203.out) _).trans (((cell_far (p := ⟨gb203, _, none⟩) (by first | exact far1 hw211_0 GW203.out | exact far2 hw211_0 GW203.out) _).trans (((cell_far (p := ⟨gb203, _, none⟩) (by first | exact far1 hw211_0 GW203.out | exact far2 hw211_0 GW203.out) _).trans (((cell_far (p := ⟨gb203, _, none⟩) (by first | exact far1 hw211_0 GW203.out | exact far2 hw211_0 GW203.out) _).trans (((cell_far (p := ⟨gb203, _, none⟩) (by first | exact far1 hw211_0 GW203.out | exact far2 hw211_0 GW203.out) _).trans (((cell_far (p := ⟨gb203, _, none⟩) (by first | exact far1 hw211_0 GW203.out | exact far2 hw211_0 GW203.out) _).trans (((cell_far (p := ⟨gb203, _, none⟩) (by first | exact far1 hw211_0 GW203.out | exact far2 hw211_0 GW203.out) _).trans (((cell_far (p := ⟨gb203, _, none⟩) (by first | exact far1 hw211_0 GW203.out | exact far2 hw211_0 GW203.out) _).trans (((cell_far (p := ⟨gb203, _, none⟩) (by first | exact far1 hw211_0 GW203.out | exact far2 hw211_0 GW203.out) _).trans (((cell_far (p := ⟨gb203, _, none⟩) (by first | exact far1 hw211_0 GW203.out | exact far2 hw211_0 GW203.out) _).trans (hHeld.1)))))))))))))))))))), ((cell_far (p := ⟨gb203, _, none⟩) (by first | exact far1 hw213_0 GW203.out | exact far2 hw213_0 GW203.out) _).trans (((cell_far (p := ⟨gb203, _, none⟩) (by first | exact far1 hw213_0 GW203.out | exact far2 hw213_0 GW203.out) _).trans (((cell_far (p := ⟨gb203, _, none⟩) (by first | exact far1 hw213_0 GW203.out | exact far2 hw213_0 GW203.out) _).trans (((cell_far (p := ⟨gb203, _, none⟩) (by first | exact far1 hw213_0 GW203.out | exact far2 hw213_0 GW203.out) _).trans (((cell_far (p := ⟨gb203, _, none⟩) (by first | exact far1 hw213_0 GW203.out | exact far2 hw213_0 GW203.out) _).trans (((cell_far (p := ⟨gb203, _, none⟩) (by first | exact far1 hw213_0 GW203.out | exact far2 hw213_0 GW203.out) _).trans (((cell_far (p := ⟨gb203, _, none⟩) (by first | exact far1 hw213_0 GW203.out | exact far2 hw213_0 GW203.out) _).trans (((cell_far (p := ⟨gb203, _, none⟩) (by first | exact far1 hw213_0 GW203.out | exact far2 hw213_0 GW203.out) _).trans (((cell_far (p := ⟨gb203, _, none⟩) (by first | exact far1 hw213_0 GW203.out | exact far2 hw213_0 GW203.out) _).trans (((cell_far (p := ⟨gb203, _, none⟩) (by first | exact far1 hw213_0 GW203.out | exact far2 hw213_0 GW203.out) _).trans (hHeld.2.1)))))))))))))))))))), ((cell_far (p := ⟨gb203, _, none⟩) (by first | exact far1 hw214_0 GW203.out | exact far2 hw214_0 GW203.out) _).trans (((cell_far (p := ⟨gb203, _, none⟩) (by first | exact far1 hw214_0 GW203.out | exact far2 hw214_0 GW203.out) _).trans (((cell_far (p := ⟨gb203, _, none⟩) (by first | exact far1 hw214_0 GW203.out | exact far2 hw214_0 GW203.out) _).trans (((cell_far (p := ⟨gb203, _, none⟩) (by first | exact far1 hw214_0 GW203.out | exact far2 hw214_0 GW203.out) _).trans (((cell_far (p := ⟨gb203, _, none⟩) (by first | exact far1 hw214_0 GW203.out | exact far2 hw214_0 GW203.out) _).trans (((cell_far (p := ⟨gb203, _, none⟩) (by first | exact far1 hw214_0 GW203.out | exact far2 hw214_0 GW203.out) _).trans (((cell_far (p := ⟨gb203, _, none⟩) (by first | exact far1 hw214_0 GW203.out | exact far2 hw214_0 GW203.out) _).trans (((cell_far (p := ⟨gb203, _, none⟩) (by first | exact far1 hw214_0 GW203.out | exact far2 hw214_0 GW203.out) _).trans (((cell_far (p := ⟨gb203, _, none⟩) (by first | exact far1 hw214_0 GW203.out | exact far2 hw214_0 GW203.out) _).trans (((cell_far (p := ⟨gb203, _, none⟩) (by first | exact far1 hw214_0 GW203.out | exact far2 hw214_0 GW203.out) _).trans (hHeld.2.2))))))))))))))))))))⟩ (fun hHeld => ?_)
            clear hK K; refine dz HT_ ?_
            try go_wp2
            refine bodyPost_ret (results_cell_row rfl _ _ gb203 73 #[.int .u8 (rd l0 1), .int .u8 (rd l0 8), .int .u8 (rd l0 9), .int .u16 t212, .int .u8 ((t210 / 8192) % 256), .int .u16 (Go.bits .and .u16 t210 8191), .int .u32 t215, .int .u32 t216, .slice Ao42 t218.length co42, .slice Ao41 t222.length co41] (0, 0) _ rfl (by (with_reducible repeat (first | refine blk_drewN ?_ _ | refine blk_drew ?_ | refine blk_alloc ?_ _)); refine blk_put (cs := #[.int .u8 (rd l0 1), .int .u8 (rd l0 8), .int .u8 (rd l0 9), .int .u16 t212, .int .u8 ((t210 / 8192) % 256), .int .u16 (Go.bits .and .u16 t210 8191), .int .u32 t215, .int .u32 t216, .slice Ao42 t218.length co42, .slice none 0 0]) ?_ 9 _ rfl; (with_reducible repeat (first | refine blk_drewN ?_ _ | refine blk_drew ?_ | refine blk_alloc ?_ _)); refine blk_put (cs := #[.int .u8 (rd l0 1), .int .u8 (rd l0 8), .int .u8 (rd l0 9), .int .u16 t212, .int .u8 ((t210 / 8192) % 256), .int .u16 (Go.bits .and .u16 t210 8191), .int .u32 t215, .int .u32 t216, .slice none 0 0, .slice none 0 0]) ?_ 8 _ rfl; (with_reducible repeat (first | refine blk_drewN ?_ _ | refine blk_drew ?_ | refine blk_alloc ?_ _)); refine blk_put (cs := #[.int .u8 (rd l0 1), .int .u8 (rd l0 8), .int .u8 (rd l0 9), .int .u16 t212, .int .u8 ((t210 / 8192) % 256), .int .u16 (Go.bits .and .u16 t210 8191), .int .u32 t215, .int .u32 0, .slice none 0 0, .slice none 0 0]) ?_ 7 _ rfl; (with_reducible repeat (first | refine blk_drewN ?_ _ | refine blk_drew ?_ | refine blk_alloc ?_ _)); refine blk_put (cs := #[.int .u8 (rd l0 1), .int .u8 (rd l0 8), .int .u8 (rd l0 9), .int .u16 t212, .int .u8 ((t210 / 8192) % 256), .int .u16 (Go.bits .and .u16 t210 8191), .int .u32 0, .int .u32 0, .slice none 0 0, .slice none 0 0]) ?_ 6 _ rfl; (with_reducible repeat (first | refine blk_drewN ?_ _ | refine blk_drew ?_ | refine blk_alloc ?_ _)); refine blk_put (cs := #[.int .u8 (rd l0 1), .int .u8 (rd l0 8), .int .u8 (rd l0 9), .int .u16 t212, .int .u8 ((t210 / 8192) % 256), .int .u16 0, .int .u32 0, .int .u32 0, .slice none 0 0, .slice none 0 0]) ?_ 5 _ rfl; (with_reducible repeat (first | refine blk_drewN ?_ _ | refine blk_drew ?_ | refine blk_alloc ?_ _)); refine blk_put (cs := #[.int .u8 (rd l0 1), .int .u8 (rd l0 8), .int .u8 (rd l0 9), .int .u16 t212, .int .u8 0, .int .u16 0, .int .u32 0, .int .u32 0, .slice none 0 0, .slice none 0 0]) ?_ 4 _ rfl; (with_reducible repeat (first | refine blk_drewN ?_ _ | refine blk_drew ?_ | refine blk_alloc ?_ _)); refine blk_put (cs := #[.int .u8 (rd l0 1), .int .u8 (rd l0 8), .int .u8 (rd l0 9), .int .u16 0, .int .u8 0, .int .u16 0, .int .u32 0, .int .u32 0, .slice none 0 0, .slice none 0 0]) ?_ 3 _ rfl; (with_reducible repeat (first | refine blk_drewN ?_ _ | refine blk_drew ?_ | refine blk_alloc ?_ _)); refine blk_put (cs := #[.int .u8 (rd l0 1), .int .u8 (rd l0 8), .int .u8 0, .int .u16 0, .int .u8 0, .int .u16 0, .int .u32 0, .int .u32 0, .slice none 0 0, .slice none 0 0]) ?_ 2 _ rfl; (with_reducible repeat (first | refine blk_drewN ?_ _ | refine blk_drew ?_ | refine blk_alloc ?_ _)); refine blk_put (cs := #[.int .u8 (rd l0 1), .int .u8 0, .int .u8 0, .int .u16 0, .int .u8 0, .int .u16 0, .int .u32 0, .int .u32 0, .slice none 0 0, .slice none 0 0]) ?_ 1 _ rfl; (with_reducible repeat (first | refine blk_drewN ?_ _ | refine blk_drew ?_ | refine blk_alloc ?_ _)); refine blk_put (cs := #[.int .u8 0, .int .u8 0, .int .u8 0, .int .u16 0, .int .u8 0, .int .u16 0, .int .u32 0, .int .u32 0, .slice none 0 0, .slice none 0 0]) ?_ 0 _ rfl; (with_reducible repeat (first | refine blk_drewN ?_ _ | refine blk_drew ?_ | refine blk_alloc ?_ _)); exact BK203.out) Try.underlying73 rfl (by kernel_rfl)) rfl ?_
            exact ⟨_, _, by first | rfl | (simp [errW_none, errW_some] <;> rfl) | (simp only [<- hji14]; first | rfl | (simp [errW_none, errW_some] <;> rfl)) | (simp [*, errW_none, errW_some] <;> rfl), by (with_reducible repeat (first | apply Kd.R_alloc | apply Kd.R_drewN | apply Kd.R_drew)); exact Kd.R_mono (Kd.R_far (p := ⟨gb203, 9, none⟩) (Kd.R_far (p := ⟨gb203, 8, none⟩) (Kd.R_far (p := ⟨gb203, 7, none⟩) (Kd.R_far (p := ⟨gb203, 6, none⟩) (Kd.R_far (p := ⟨gb203, 5, none⟩) (Kd.R_far (p := ⟨gb203, 4, none⟩) (Kd.R_far (p := ⟨gb203, 3, none⟩) (Kd.R_far (p := ⟨gb203, 2, none⟩) (Kd.R_far (p := ⟨gb203, 1, none⟩) (Kd.R_far (p := ⟨gb203, 0, none⟩) (Kd.R_types HO220.out BK203.out (by decide)) (fun _ hk => hk.2) (.int .u8 (rd l0 1))) (fun _ hk => hk.2) (.int .u8 (rd l0 8))) (fun _ hk => hk.2) (.int .u8 (rd l0 9))) (fun _ hk => hk.2) (.int .u16 t212)) (fun _ hk => hk.2) (.int .u8 ((t210 / 8192) % 256))) (fun _ hk => hk.2) (.int .u16 (Go.bits .and .u16 t210 8191))) (fun _ hk => hk.2) (.int .u32 t215)) (fun _ hk => hk.2) (.int .u32 t216)) (fun _ hk => hk.2) (.slice Ao42 t218.length co42)) (fun _ hk => hk.2) (.slice Ao41 t222.length co41)) (fun _ hk => hk.1.2), by (with_reducible repeat (first | apply Kd.R_alloc | apply Kd.R_drewN | apply Kd.R_drew)); exact Kd.R_mono (Kd.R_far (p := ⟨gb203, 9, none⟩) (Kd.R_far (p := ⟨gb203, 8, none⟩) (Kd.R_far (p := ⟨gb203, 7, none⟩) (Kd.R_far (p := ⟨gb203, 6, none⟩) (Kd.R_far (p := ⟨gb203, 5, none⟩) (Kd.R_far (p := ⟨gb203, 4, none⟩) (Kd.R_far (p := ⟨gb203, 3, none⟩) (Kd.R_far (p := ⟨gb203, 2, none⟩) (Kd.R_far (p := ⟨gb203, 1, none⟩) (Kd.R_far (p := ⟨gb203, 0, none⟩) (Kd.R_types HO224.out BK203.out (by decide)) (fun _ hk => hk.2) (.int .u8 (rd l0 1))) (fun _ hk => hk.2) (.int .u8 (rd l0 8))) (fun _ hk => hk.2) (.int .u8 (rd l0 9))) (fun _ hk => hk.2) (.int .u16 t212)) (fun _ hk => hk.2) (.int .u8 ((t210 / 8192) % 256))) (fun _ hk => hk.2) (.int .u16 (Go.bits .and .u16 t210 8191))) (fun _ hk => hk.2) (.int .u32 t215)) (fun _ hk => hk.2) (.int .u32 t216)) (fun _ hk => hk.2) (.slice Ao42 t218.length co42)) (fun _ hk => hk.2) (.slice Ao41 t222.length co41)) (fun _ hk => hk.1.2), bz HB⟩
           ·rw [if_neg c32] at H
            exact absurd H (by simp)
          ·rw [if_neg c31] at H
           exact absurd H (by simp)
         ·rw [if_neg c27] at H
          exact absurd H (by simp)
        ·rw [if_neg c24] at H
         exact absurd H (by simp)
       ·rw [if_neg c23] at H
        exact absurd H (by simp)
      ·rw [if_neg c21] at H
       exact absurd H (by simp)
     ·rw [if_neg c16] at H
      exact absurd H (by simp)
    ·rw [if_neg c15] at H
     exact absurd H (by simp)
 ·rw [if_neg c3] at H
  exact absurd H (by simp)
attribute [local go_sem] max2_int min2_int max_two min_two max_three min_three max_four min_four
theorem ip_Parse.goesP {P : Program} {ops : Array Oper} {Q : Exit -> Act -> World -> Prop} {rest : List Oper} {oi : Oper} {a : Act} {w : World} (N : Option Tmp) (_hd : oi.dst = N) (hg : oi.guard = none) {f : FuncId} {fn : Func} {as_ : Array Operand} {ts : Array TypeId} (hf : P.funcs[f]? = some fn) (hname : (fn.name == "runtime.NumGoroutine") = false) (hb : fn.body.isSome = true) (args : Array Value)
  (hop : oi.op = .call { callee := .value (.func f), args := as_, argTypes := ts }) (hargs : as_.map a.eval = args)
  (h : Calls P f args w fun e w' => ∃ ch, e = .panicked ch /\ Q (.panic ch) a w') : wpList P ops Q (oi :: rest) a w := by
 refine wpList_plain hg fun K hK => ?_
 have he := enters_ hf hname hb args w
 have hrun : (execOp a.eval oi).run P w = .ok (.enter f args) w := by
  unfold execOp
  simp [hop, resolve, Deferred.ofValue, invoke, Act.eval, hargs, he]
 unfold Oper.wp; rw [hrun, Oper.upon_enter]; refine h.mono fun e w'' hh => ?_
 obtain ⟨ch, rfl, hk⟩ := hh; exact hk
theorem ip_must.panics (a0 : Bool) (a1 : Int) (w : World) (h : a0 = false) : Calls Try.prog 117 #[.bool a0, .int .i64 a1] w fun e w' => e = .panicked [{ v := .iface 163 (.agg #[.int .i64 a1]), recovered := false }] /\ Drawn0 w w' := by
 subst h; have hu52 := Try.underlying163
 go_enter Try.func117, Try.ntmps117
 go_wp2
 exact ⟨rfl, rfl, by repeat (first | exact Drawn0.refl _ | apply Drawn0.step)⟩
def ip_Parse.T5 : Bool × List (List Nat × List Nat) := (true, [([], []), ([], []), ([1], [1]), ([0, 0], [0]), ([2, 3, 0, 1, 2, 3], [2])])
def ip_Parse.B5 : List Nat := [0, 0, 2, 1, 15]
theorem ip_Parse.tab5 : rtab .any (opsOf Try.f94 5) = ip_Parse.T5 := by kernel_rfl
theorem ip_Parse.bits5 : waitsOk ip_Parse.T5.2 ip_Parse.B5 = true := by kernel_rfl
theorem ip_Parse.isFailed (x : Int) (w : World) : (Instr.typeAssert (.iface 163 (.agg #[.int .i64 x])) 20 163 true).run Try.prog w = .ok (.tuple #[.agg #[.int .i64 x], .bool true]) w := by kernel_rfl
theorem ip_Parse.catch_panicking (x : Int) (w0 w : World) (B gp ge : Nat) (hp : w.heap[gp]? = some (.cells #[.int .u8 0, .int .u8 0, .int .u8 0, .int .u16 0, .int .u8 0, .int .u16 0, .int .u32 0, .int .u32 0, .slice none 0 0, .slice none 0 0] 73 (0, 0)))
  (he : w.heap[ge]? = some (.cells #[.int .i64 0] 49 (0, 0))) (hne : gp ≠ ge) (hB : Below B w0 w) (hBp : B <= gp) (hBe : B <= ge) :
  CallsD Try.prog 94 #[.pointer (some ⟨gp, 0, none⟩), .pointer (some ⟨ge, 0, none⟩)] (.panicking [{ v := .iface 163 (.agg #[.int .i64 x]), recovered := false }]) w fun e u' w' =>
   e = .returned (.tuple #[]) /\ u' = .panicking [{ v := .iface 163 (.agg #[.int .i64 x]), recovered := true }] /\
   w'.heap[gp]? = some (.cells #[.int .u8 0, .int .u8 0, .int .u8 0, .int .u16 0, .int .u8 0, .int .u16 0, .int .u32 0, .int .u32 0, .slice none 0 0, .slice none 0 0] 73 (0, 0)) /\
   w'.heap[ge]? = some (.cells #[.int .i64 x] 49 (0, 0)) /\ Below B w0 w' := by
 have HP := Aside0.mk hp; have HE := Aside0.mk he; have HN := Aside0.mk hne; have HB := Aside0.mk hB; have HBP := Aside0.mk hBp; have HBE := Aside0.mk hBe; clear hp he hne hB hBp hBe; have hu30 := Try.underlying73; have hu52 := Try.underlying163; have hneq : ∀ (v : Value) (w : World), (binOp BinOp.neq 20 (.iface 163 v) .nilIface).run Try.prog w = .ok (.bool true) w := fun _ _ => by kernel_rfl
 have hta := ip_Parse.isFailed x; refine callsD_of_wpS Try.func94 rfl fun c₀ cs hu => ?_
 simp only [Try.ntmps94, List.size_toArray, List.length_cons, List.length_nil, Nat.reduceAdd, Nat.reduceSub, Array.replicate_succ, Array.replicate_zero, List.push_toArray, List.append_toArray, List.nil_append, List.cons_append]
 apply wpS_seq
 apply wpS_region
 simp [wpOpsS, go_sem, recoverD, hu, Try.ntmps94, Exit.thenS]
 apply wpS_seq
 apply wpS_region
 simp [wpOpsS, go_sem, Exit.thenS]
 refine wpS_cond (t := true) (by simp [Act.eval, Array.replicate]) ?_; simp only [if_true]; refine wpS_of_wp ?_
 go_upto_region 5 with (fail)
 have hf : (w.alloc (.cells #[.int .i64 x] 163)).drew.cell? ⟨w.heap.size, 0, none⟩ = some (.int .i64 x) := by go_simp
 refine start_ (n := 5) (S := fun w' => w'.cell? ⟨w.heap.size, 0, none⟩ = some (.int .i64 x)) (ds := []) #[false, false, false, false, false] (by kernel_rfl) rfl rfl hf (fun hHeld => ?_); refine with_tabW ip_Parse.tab5 ip_Parse.bits5 (fun HT_ HW_ => ?_); have HNEW : w.heap.size ≠ gp := fun e => by have := blk_lt HP.out; omega
 have HNEW2 : w.heap.size ≠ ge := fun e => by have := blk_lt HE.out; omega
 have HP1 := Aside0.mk (blk_drew (blk_alloc HP.out (.cells #[.int .i64 x] 163))); have HE1 := Aside0.mk (blk_drew (blk_alloc HE.out (.cells #[.int .i64 x] 163))); have HB1 : Aside0 (Below B w0 (w.alloc (.cells #[.int .i64 x] 163)).drew) := ⟨below_drew (Below.alloc HB.out (by have := blk_lt HP.out; have := HBP.out; omega) _)⟩
 have HG1 := Aside0.mk HNEW; have HG2 := Aside0.mk HNEW2; clear HP HE HB HNEW HNEW2 hf; generalize (w.alloc (.cells #[.int .i64 x] 163)).drew = wc at HP1 HE1 HB1 hHeld |-
 generalize w.heap.size = gf at HG1 HG2 hHeld HT_ HW_ |-
 refine pz 0 16 HT_ ?_; refine pz 1 17 HT_ ?_; refine tz 2 18 HT_ HW_ hHeld ?_; have HN2 : Aside0 (ge ≠ gp) := ⟨fun e => HN.out e.symm⟩
 refine oz 3 (none) HT_ (fun K hK => ?_); have hs0 := cz HP1.out 0 rfl; have hfs0 := blk_frozen HP1.out 0; have hs1 := cz HP1.out 1 rfl; have hfs1 := blk_frozen HP1.out 1; have hs2 := cz HP1.out 2 rfl; have hfs2 := blk_frozen HP1.out 2; have hs3 := cz HP1.out 3 rfl; have hfs3 := blk_frozen HP1.out 3; have hs4 := cz HP1.out 4 rfl; have hfs4 := blk_frozen HP1.out 4; have hs5 := cz HP1.out 5 rfl; have hfs5 := blk_frozen HP1.out 5; have hs6 := cz HP1.out 6 rfl; have hfs6 := blk_frozen HP1.out 6; have hs7 := cz HP1.out 7 rfl; have hfs7 := blk_frozen HP1.out 7; have hs8 := cz HP1.out 8 rfl; have hfs8 := blk_frozen HP1.out 8; have hs9 := cz HP1.out 9 rfl; have hfs9 := blk_frozen HP1.out 9
 refine skip_ (w1 := ((((((((((wc.setCell ⟨gp, 0, none⟩ (.int .u8 0)).setCell ⟨gp, 1, none⟩ (.int .u8 0)).setCell ⟨gp, 2, none⟩ (.int .u8 0)).setCell ⟨gp, 3, none⟩ (.int .u16 0)).setCell ⟨gp, 4, none⟩ (.int .u8 0)).setCell ⟨gp, 5, none⟩ (.int .u16 0)).setCell ⟨gp, 6, none⟩ (.int .u32 0)).setCell ⟨gp, 7, none⟩ (.int .u32 0)).setCell ⟨gp, 8, none⟩ (.slice none 0 0)).setCell ⟨gp, 9, none⟩ (.slice none 0 0))) (by rfl) rfl ?_ ?_
 ·go_simp
 have f1 := Aside0.mk ((cell_far (W := (((((((((wc.setCell ⟨gp, 0, none⟩ (.int .u8 0)).setCell ⟨gp, 1, none⟩ (.int .u8 0)).setCell ⟨gp, 2, none⟩ (.int .u8 0)).setCell ⟨gp, 3, none⟩ (.int .u16 0)).setCell ⟨gp, 4, none⟩ (.int .u8 0)).setCell ⟨gp, 5, none⟩ (.int .u16 0)).setCell ⟨gp, 6, none⟩ (.int .u32 0)).setCell ⟨gp, 7, none⟩ (.int .u32 0)).setCell ⟨gp, 8, none⟩ (.slice none 0 0))) (p := ⟨gp, 9, none⟩) HG1.out (.slice none 0 0)).trans ((cell_far (W := ((((((((wc.setCell ⟨gp, 0, none⟩ (.int .u8 0)).setCell ⟨gp, 1, none⟩ (.int .u8 0)).setCell ⟨gp, 2, none⟩ (.int .u8 0)).setCell ⟨gp, 3, none⟩ (.int .u16 0)).setCell ⟨gp, 4, none⟩ (.int .u8 0)).setCell ⟨gp, 5, none⟩ (.int .u16 0)).setCell ⟨gp, 6, none⟩ (.int .u32 0)).setCell ⟨gp, 7, none⟩ (.int .u32 0))) (p := ⟨gp, 8, none⟩) HG1.out (.slice none 0 0)).trans ((cell_far (W := (((((((wc.setCell ⟨gp, 0, none⟩ (.int .u8 0)).setCell ⟨gp, 1, none⟩ (.int .u8 0)).setCell ⟨gp, 2, none⟩ (.int .u8 0)).setCell ⟨gp, 3, none⟩ (.int .u16 0)).setCell ⟨gp, 4, none⟩ (.int .u8 0)).setCell ⟨gp, 5, none⟩ (.int .u16 0)).setCell ⟨gp, 6, none⟩ (.int .u32 0))) (p := ⟨gp, 7, none⟩) HG1.out (.int .u32 0)).trans ((cell_far (W := ((((((wc.setCell ⟨gp, 0, none⟩ (.int .u8 0)).setCell ⟨gp, 1, none⟩ (.int .u8 0)).setCell ⟨gp, 2, none⟩ (.int .u8 0)).setCell ⟨gp, 3, none⟩ (.int .u16 0)).setCell ⟨gp, 4, none⟩ (.int .u8 0)).setCell ⟨gp, 5, none⟩ (.int .u16 0))) (p := ⟨gp, 6, none⟩) HG1.out (.int .u32 0)).trans ((cell_far (W := (((((wc.setCell ⟨gp, 0, none⟩ (.int .u8 0)).setCell ⟨gp, 1, none⟩ (.int .u8 0)).setCell ⟨gp, 2, none⟩ (.int .u8 0)).setCell ⟨gp, 3, none⟩ (.int .u16 0)).setCell ⟨gp, 4, none⟩ (.int .u8 0))) (p := ⟨gp, 5, none⟩) HG1.out (.int .u16 0)).trans ((cell_far (W := ((((wc.setCell ⟨gp, 0, none⟩ (.int .u8 0)).setCell ⟨gp, 1, none⟩ (.int .u8 0)).setCell ⟨gp, 2, none⟩ (.int .u8 0)).setCell ⟨gp, 3, none⟩ (.int .u16 0))) (p := ⟨gp, 4, none⟩) HG1.out (.int .u8 0)).trans ((cell_far (W := (((wc.setCell ⟨gp, 0, none⟩ (.int .u8 0)).setCell ⟨gp, 1, none⟩ (.int .u8 0)).setCell ⟨gp, 2, none⟩ (.int .u8 0))) (p := ⟨gp, 3, none⟩) HG1.out (.int .u16 0)).trans ((cell_far (W := ((wc.setCell ⟨gp, 0, none⟩ (.int .u8 0)).setCell ⟨gp, 1, none⟩ (.int .u8 0))) (p := ⟨gp, 2, none⟩) HG1.out (.int .u8 0)).trans ((cell_far (W := (wc.setCell ⟨gp, 0, none⟩ (.int .u8 0))) (p := ⟨gp, 1, none⟩) HG1.out (.int .u8 0)).trans ((cell_far (W := wc) (p := ⟨gp, 0, none⟩) HG1.out (.int .u8 0)).trans hHeld))))))))))
 have f2 := Aside0.mk (blk_put (blk_put (blk_put (blk_put (blk_put (blk_put (blk_put (blk_put (blk_put (blk_put HP1.out 0 (.int .u8 0) rfl) 1 (.int .u8 0) rfl) 2 (.int .u8 0) rfl) 3 (.int .u16 0) rfl) 4 (.int .u8 0) rfl) 5 (.int .u16 0) rfl) 6 (.int .u32 0) rfl) 7 (.int .u32 0) rfl) 8 (.slice none 0 0) rfl) 9 (.slice none 0 0) rfl); have f3 := Aside0.mk (blk_far (blk_far (blk_far (blk_far (blk_far (blk_far (blk_far (blk_far (blk_far (blk_far HE1.out (p := ⟨gp, 0, none⟩) HN2.out (.int .u8 0)) (p := ⟨gp, 1, none⟩) HN2.out (.int .u8 0)) (p := ⟨gp, 2, none⟩) HN2.out (.int .u8 0)) (p := ⟨gp, 3, none⟩) HN2.out (.int .u16 0)) (p := ⟨gp, 4, none⟩) HN2.out (.int .u8 0)) (p := ⟨gp, 5, none⟩) HN2.out (.int .u16 0)) (p := ⟨gp, 6, none⟩) HN2.out (.int .u32 0)) (p := ⟨gp, 7, none⟩) HN2.out (.int .u32 0)) (p := ⟨gp, 8, none⟩) HN2.out (.slice none 0 0)) (p := ⟨gp, 9, none⟩) HN2.out (.slice none 0 0))
 have f4 := Aside0.mk (Below.setCell (p := ⟨gp, 9, none⟩) (Below.setCell (p := ⟨gp, 8, none⟩) (Below.setCell (p := ⟨gp, 7, none⟩) (Below.setCell (p := ⟨gp, 6, none⟩) (Below.setCell (p := ⟨gp, 5, none⟩) (Below.setCell (p := ⟨gp, 4, none⟩) (Below.setCell (p := ⟨gp, 3, none⟩) (Below.setCell (p := ⟨gp, 2, none⟩) (Below.setCell (p := ⟨gp, 1, none⟩) (Below.setCell (p := ⟨gp, 0, none⟩) HB1.out HBP.out (.int .u8 0)) HBP.out (.int .u8 0)) HBP.out (.int .u8 0)) HBP.out (.int .u16 0)) HBP.out (.int .u8 0)) HBP.out (.int .u16 0)) HBP.out (.int .u32 0)) HBP.out (.int .u32 0)) HBP.out (.slice none 0 0)) HBP.out (.slice none 0 0)); clear hs0 hs1 hs2 hs3 hs4 hs5 hs6 hs7 hs8 hs9 hfs0 hfs1 hfs2 hfs3 hfs4 hfs5 hfs6 hfs7 hfs8 hfs9
 generalize ((((((((((wc.setCell ⟨gp, 0, none⟩ (.int .u8 0)).setCell ⟨gp, 1, none⟩ (.int .u8 0)).setCell ⟨gp, 2, none⟩ (.int .u8 0)).setCell ⟨gp, 3, none⟩ (.int .u16 0)).setCell ⟨gp, 4, none⟩ (.int .u8 0)).setCell ⟨gp, 5, none⟩ (.int .u16 0)).setCell ⟨gp, 6, none⟩ (.int .u32 0)).setCell ⟨gp, 7, none⟩ (.int .u32 0)).setCell ⟨gp, 8, none⟩ (.slice none 0 0)).setCell ⟨gp, 9, none⟩ (.slice none 0 0)) = wd at f1 f2 f3 f4 |-
 clear HP1 HE1 HB1 hHeld; refine hK.out _ _ f1.out (fun hHeld => ?_); clear hK K; refine oz 4 (none) HT_ (fun K hK => ?_); have he0 := cz f3.out 0 rfl; have hfe0 := blk_frozen f3.out 0; refine skip_ (w1 := wd.setCell ⟨ge, 0, none⟩ (.int .i64 x)) (by rfl) rfl ?_ ?_
 ·go_simp
 clear he0 hfe0; refine hK.out _ _ ((cell_far (W := wd) (p := ⟨ge, 0, none⟩) HG2.out (.int .i64 x)).trans hHeld) (fun hHeld => ?_); clear hK K; refine dz HT_ ?_; have g1 : (wd.setCell ⟨ge, 0, none⟩ (.int .i64 x)).heap[gp]? = _ := blk_far f2.out (p := ⟨ge, 0, none⟩) HN.out (.int .i64 x); have g2 : (wd.setCell ⟨ge, 0, none⟩ (.int .i64 x)).heap[ge]? = _ := blk_put f3.out 0 (.int .i64 x) rfl; have g3 := Below.setCell (p := ⟨ge, 0, none⟩) f4.out HBE.out (.int .i64 x); clear hneq hta hu30 hu52; exact ⟨rfl, _, rfl, .tuple #[], by simp [results, Try.results94], rfl, rfl, g1, g2, g3⟩
theorem ip_Parse.catch_idle (p q : Addr) (w : World) : CallsD Try.prog 94 #[.pointer (some p), .pointer (some q)] .returning w fun e u' w' => e = .returned (.tuple #[]) /\ u' = .returning /\ w' = w := by
 have hneq : ∀ (w : World), (binOp BinOp.neq 20 .nilIface .nilIface).run Try.prog w = .ok (.bool false) w := fun _ => by kernel_rfl
 refine callsD_of_wpS Try.func94 rfl fun c₀ cs hu => ?_
 simp only [Try.ntmps94, List.size_toArray, List.length_cons, List.length_nil, Nat.reduceAdd, Nat.reduceSub, Array.replicate_succ, Array.replicate_zero, List.push_toArray, List.append_toArray, List.nil_append, List.cons_append]
 apply wpS_seq
 apply wpS_region
 simp [wpOpsS, go_sem, recoverD, hu, Exit.thenS]
 apply wpS_seq
 apply wpS_region
 simp [wpOpsS, go_sem, Exit.thenS, hneq]
 refine wpS_cond (t := false) (by simp [Act.eval]) ?_; simp only [Bool.false_eq_true, if_false]; refine wpS_of_wp (wp_skip ?_)
 cases c₀
 simp_all [bodyPostS, results, Try.results94]
theorem ip_reader_packet.pan1 (A0 : Option Addr) (c0 : Nat) (l0 : List Int) (w : World) (hr0 : Kd.C (Kd.int .u8) w A0 l0.length l0) (hc0 : l0.length <= c0) (h : (l0.length : Int) < 20) :
  Calls Try.prog 95 #[.slice A0 l0.length c0] w fun e w' => e = .panicked [{ v := .iface 163 (.agg #[.int .i64 20]), recovered := false }] /\ Below w.heap.size w w' := by
 have hu30 := Try.underlying73; have HR0 := Aside0.mk hr0; have HC0 := Aside0.mk hc0; clear hr0 hc0; have HB := Aside0.mk (Below.refl w.heap.size w); have hd_ : decide ((l0.length : Int) >= 20) = false := decide_eq_false (by omega); have HD := Aside0.mk hd_; clear hd_ h
 go_enter Try.func95, Try.ntmps95
 go_wp2_with (first | ((with_reducible refine gate_dst (N := 2) rfl ?_); refine box_event ?hg (N := 2) ?hd (cs := #[.int .u8 0, .int .u8 0, .int .u8 0, .int .u16 0, .int .u8 0, .int .u16 0, .int .u32 0, .int .u32 0, .slice none 0 0, .slice none 0 0]) (t := 73) ?hr ?_; (case hd => rfl); (case hg => rfl); (case hr => first | (go_simp; done) | (go_simp; rfl)); intro gb203 hg w6 hbox hb; have n0_ := Aside0.mk (below_step (bz HB) hb); have n1_ := Aside0.mk (hbox); have n2_ := Aside0.mk ((by rw [hg]; exact (below_size (bz HB)) : w.heap.size <= gb203)); have n3_ := Aside0.mk ((by rw [hg]; exact (below_size (bz HB)) : w.heap.size <= gb203)); clear HB; have HB := n0_; have BK203 := n1_; have GW203 := n2_; have GE203 := n3_; clear n0_ n1_ n2_ n3_; clear hb hbox hg) | ((with_reducible refine gate_callee (f := 117) rfl ?_); refine ip_Parse.goesP (some 9) rfl rfl Try.func117 (by kernel_rfl) rfl #[.bool (decide ((l0.length : Int) >= 20)), .int .i64 20] rfl (by (try simp only [List.map_toArray, List.map_cons, List.map_nil]); first | done | rfl | (simp only [List.length_drop, List.length_take]; rfl) | (go_simp; done) | (simp [Act.eval, IntKind.signed]; done) | (simp [Act.eval, IntKind.signed]; rfl)) ?_; (with_reducible refine (ip_must.panics (decide ((l0.length : Int) >= 20)) 20 _ HD.out).mono ?_); rintro e w' ⟨rfl, ⟨nd, rfl⟩⟩; refine ⟨_, rfl, ?_⟩; exact ⟨rfl, rfl, bz HB⟩))
theorem ip_reader_packet.pan2 (t121 : Int) (A0 : Option Addr) (c0 : Nat) (l0 : List Int) (w : World) (hr0 : Kd.C (Kd.int .u8) w A0 l0.length l0) (hc0 : l0.length <= c0) (hlen : (l0.length : Int) >= 20) (h2 : ip_reader_two.f l0 2 = some t121) (hf : ¬ ((rd l0 0) / 16 = 4 /\ (wrap64 (4 * (wrap64 (Go.bits .and .u8 (rd l0 0) 15)))) >= 20 /\ (wrap64 (t121)) >= (wrap64 (4 * (wrap64 (Go.bits .and .u8 (rd l0 0) 15)))))) :
  Calls Try.prog 95 #[.slice A0 l0.length c0] w fun e w' => e = .panicked [{ v := .iface 163 (.agg #[.int .i64 21]), recovered := false }] /\ Below w.heap.size w w' := by
 have hu30 := Try.underlying73; have HR0 := Aside0.mk hr0; have HC0 := Aside0.mk hc0; clear hr0 hc0; have HB := Aside0.mk (Below.refl w.heap.size w); have HF := Aside0.mk hf; clear hf; have A2 : Aside0 (ip_must.f (decide ((l0.length : Int) >= 20)) 20 = some ()) := ⟨by unfold ip_must.f; rw [decide_eq_true hlen, if_pos rfl]⟩
 have A4 := Aside0.mk h2; have c3b0 : decide (0 < (l0.length : Int)) = true := decide_eq_true (by omega); have c3b1 : decide (0 < l0.length) = true := decide_eq_true (by omega); clear hlen h2
 go_enter Try.func95, Try.ntmps95
 try go_wp2_with (first | ((with_reducible refine gate_dst (N := 2) rfl ?_); refine box_event ?hg (N := 2) ?hd (cs := #[.int .u8 0, .int .u8 0, .int .u8 0, .int .u16 0, .int .u8 0, .int .u16 0, .int .u32 0, .int .u32 0, .slice none 0 0, .slice none 0 0]) (t := 73) ?hr ?_; (case hd => rfl); (case hg => rfl); (case hr => first | (go_simp; done) | (go_simp; rfl)); intro gb203 hg w6 hbox hb; have n0_ := Aside0.mk (below_step (bz HB) hb); have n1_ := Aside0.mk (hbox); have n2_ := Aside0.mk ((by rw [hg]; exact (below_size (bz HB)) : w.heap.size <= gb203)); have n3_ := Aside0.mk ((by rw [hg]; exact (below_size (bz HB)) : w.heap.size <= gb203)); clear HB; have HB := n0_; have BK203 := n1_; have GW203 := n2_; have GE203 := n3_; clear n0_ n1_ n2_ n3_; clear hb hbox hg) | ((with_reducible refine gate_callee (f := 117) rfl ?_); refine gL 9 Try.func117 #[.bool (decide ((l0.length : Int) >= 20)), .int .i64 20] ?_; (with_reducible refine (ip_must.calls (decide ((l0.length : Int) >= 20)) 20  _ A2.out).mono ?_); rintro e w' ⟨rfl, ⟨nd, rfl⟩⟩; refine ⟨_, rfl, ?_⟩))
 (try (rw [drewN_self w6]; generalize hq_ : World.drewN w6 _ = w6; have n0_ : Aside0 (w6.heap[gb203]? = some (.cells #[.int .u8 0, .int .u8 0, .int .u8 0, .int .u16 0, .int .u8 0, .int .u16 0, .int .u32 0, .int .u32 0, .slice none 0 0, .slice none 0 0] 73 (0, 0))) := ⟨by rw [<- hq_]; exact (kz BK203)⟩; have n1_ : Aside0 (Below w.heap.size w w6) := ⟨by rw [<- hq_]; exact bz HB⟩; clear BK203 HB hq_; have BK203 := n0_; have HB := n1_; clear n0_ n1_))
 have n0_ := Aside0.mk (blk_drew BK203.out); have n1_ := Aside0.mk (below_drew1 HB.out); clear BK203; clear HB; have BK203 := n0_; have HB := n1_; clear n0_ n1_; have p204 : 0 <= (0 : Int) := (by omega)
 have q204 : 0 < (l0.length : Int) := odt; obtain ⟨ad204, e204, hx204_0⟩ := Kd.at_int HR0.out 0 p204 q204; have hw204_0 := hx204_0
 (try rw [show ((0 : Int)).toNat = 0 from rfl] at hw204_0)
 (try rw [show 0 * 1 = 0 from rfl] at hw204_0)
 (try rw [Addr.add_zero'] at hw204_0)
 cases e204
 have qi204 : (0 < l0.length) = True := eq_true (by omega)
 (try rw [show ((0 : Int)).toNat = 0 from rfl] at hx204_0)
 (try rw [Addr.add_zero'] at hx204_0)
 replace hx204_0 := (HB.out.cell (World.block_lt_of_cell? w _ hx204_0)).trans hx204_0; replace p204 := eq_true p204; replace q204 := eq_true q204; refine start_ (n := 11) (S := fun w' => w'.cell? ad204 = some (.int .u8 (rd l0 0))) (ds := []) #[false, false, false, false, false, false, false, false, false, false, false] (by kernel_rfl) rfl rfl (((HB.out.cell (World.block_lt_of_cell? w _ hw204_0)).trans hw204_0)) (fun hHeld => ?_); refine with_tabW ip_reader_packet.tab2 ip_reader_packet.bits2 (fun HT_ HW_ => ?_); generalize w6.drew = w7 at BK203 HB hx204_0 hHeld |-
 refine pz 0 10 HT_ ?_; refine pz 1 11 HT_ ?_; refine pz 6 16 HT_ ?_; refine tz 2 12 HT_ HW_ hHeld ?_; refine pz 3 13 HT_ ?_; refine pz 4 14 HT_ ?_; refine pz 5 15 HT_ ?_; refine oz 7 (some 17) HT_ (fun K hK => ?_); refine gG Try.func118 #[.slice (some ad204) l0.length c0, .int .i64 2] ?_
 with_reducible refine (ip_reader_two.calls _ _ l0 2 t121 _ ?side1 ?side2 A4.out).mono ?_
 (case side1 => exact Kd.C_below HR0.out (bz HB))
 (case side2 => exact HC0.out)
 rintro e w' ⟨rfl, ⟨nd, rfl⟩⟩; refine ⟨_, rfl, ?_⟩; refine hK.out _ _ (((HB.out.cell (World.block_lt_of_cell? w _ hw204_0)).trans hw204_0)) (fun hHeld => ?_); clear hK K; refine nz 17 ?_; refine pz 8 18 HT_ ?_; refine pz 9 3 HT_ ?_; refine pz 10 4 HT_ ?_; refine dz HT_ ?_
 go_upto_region 3 with (fail)
 by_cases c8 : ((rd l0 0) / 16) = 4
 ·have c8b0 : (((rd l0 0) / 16) == 4) = true := beq_iff_eq.mpr c8
  have c8b1 : (((rd l0 0) / 16) != 4) = false := bne_eq_false_iff_eq.mpr c8
  (first | rw [c8b0] | (simp only [i64_w, i32_w]; rw [c8b0]) | skip)
  by_cases c9 : (wrap64 (4 * (wrap64 (Go.bits .and .u8 (rd l0 0) 15)))) >= 20
  ·have c9b0 : decide (20 <= (wrap64 (4 * (wrap64 (Go.bits .and .u8 (rd l0 0) 15))))) = true := decide_eq_true c9
   have hd_ : decide ((wrap64 (t121)) >= (wrap64 (4 * (wrap64 (Go.bits .and .u8 (rd l0 0) 15))))) = false := decide_eq_false (fun hx => HF.out ⟨c8, c9, hx⟩); have HD := Aside0.mk hd_; clear hd_ c8 c9; have p206 : 0 <= (0 : Int) := (by omega)
   have q206 : 0 < (l0.length : Int) := odt; obtain ⟨ad206, e206, hx206_0⟩ := Kd.at_int HR0.out 0 p206 q206; obtain rfl : ad204 = ad206 := (by injection e206)
   have qi206 : (0 < l0.length) = True := eq_true (by omega)
   (try rw [show ((0 : Int)).toNat = 0 from rfl] at hx206_0)
   (try rw [Addr.add_zero'] at hx206_0)
   replace hx206_0 := (HB.out.cell (World.block_lt_of_cell? w _ hx206_0)).trans hx206_0; replace p206 := eq_true p206; replace q206 := eq_true q206
   go_wp2_with (first | ((with_reducible refine gate_callee (f := 117) rfl ?_); refine ip_Parse.goesP (some 33) rfl rfl Try.func117 (by kernel_rfl) rfl #[.bool (decide ((wrap64 (t121)) >= (wrap64 (4 * (wrap64 (Go.bits .and .u8 (rd l0 0) 15)))))), .int .i64 21] rfl (by (try simp only [List.map_toArray, List.map_cons, List.map_nil]); first | done | rfl | (simp only [List.length_drop, List.length_take]; rfl) | (go_simp; done) | (simp [Act.eval, IntKind.signed]; done) | (simp [Act.eval, IntKind.signed]; rfl)) ?_; (with_reducible refine (ip_must.panics (decide ((wrap64 (t121)) >= (wrap64 (4 * (wrap64 (Go.bits .and .u8 (rd l0 0) 15)))))) 21 _ HD.out).mono ?_); rintro e w' ⟨rfl, ⟨nd, rfl⟩⟩; refine ⟨_, rfl, ?_⟩; exact ⟨rfl, rfl, bz HB⟩))
  ·have c9b0 : decide (20 <= (wrap64 (4 * (wrap64 (Go.bits .and .u8 (rd l0 0) 15))))) = false := decide_eq_false c9
   clear c8 c9; have p206 : 0 <= (0 : Int) := (by omega)
   have q206 : 0 < (l0.length : Int) := odt; obtain ⟨ad206, e206, hx206_0⟩ := Kd.at_int HR0.out 0 p206 q206; obtain rfl : ad204 = ad206 := (by injection e206)
   have qi206 : (0 < l0.length) = True := eq_true (by omega)
   (try rw [show ((0 : Int)).toNat = 0 from rfl] at hx206_0)
   (try rw [Addr.add_zero'] at hx206_0)
   replace hx206_0 := (HB.out.cell (World.block_lt_of_cell? w _ hx206_0)).trans hx206_0; replace p206 := eq_true p206; replace q206 := eq_true q206
   go_wp2_with (first | ((with_reducible refine gate_callee (f := 117) rfl ?_); refine ip_Parse.goesP (some 33) rfl rfl Try.func117 (by kernel_rfl) rfl #[.bool false, .int .i64 21] rfl (by (try simp only [List.map_toArray, List.map_cons, List.map_nil]); first | done | rfl | (simp only [List.length_drop, List.length_take]; rfl) | (go_simp; done) | (simp [Act.eval, IntKind.signed]; done) | (simp [Act.eval, IntKind.signed]; rfl)) ?_; (with_reducible refine (ip_must.panics false 21 _ rfl).mono ?_); rintro e w' ⟨rfl, ⟨nd, rfl⟩⟩; refine ⟨_, rfl, ?_⟩; exact ⟨rfl, rfl, bz HB⟩))
 ·have c8b0 : (((rd l0 0) / 16) == 4) = false := beq_eq_false_iff_ne.mpr c8
  have c8b1 : (((rd l0 0) / 16) != 4) = true := bne_iff_ne.mpr c8
  (first | rw [c8b0] | (simp only [i64_w, i32_w]; rw [c8b0]) | skip)
  clear c8; have p206 : 0 <= (0 : Int) := (by omega)
  have q206 : 0 < (l0.length : Int) := odt; obtain ⟨ad206, e206, hx206_0⟩ := Kd.at_int HR0.out 0 p206 q206; obtain rfl : ad204 = ad206 := (by injection e206)
  have qi206 : (0 < l0.length) = True := eq_true (by omega)
  (try rw [show ((0 : Int)).toNat = 0 from rfl] at hx206_0)
  (try rw [Addr.add_zero'] at hx206_0)
  replace hx206_0 := (HB.out.cell (World.block_lt_of_cell? w _ hx206_0)).trans hx206_0; replace p206 := eq_true p206; replace q206 := eq_true q206
  go_wp2_with (first | ((with_reducible refine gate_callee (f := 117) rfl ?_); refine ip_Parse.goesP (some 33) rfl rfl Try.func117 (by kernel_rfl) rfl #[.bool false, .int .i64 21] rfl (by (try simp only [List.map_toArray, List.map_cons, List.map_nil]); first | done | rfl | (simp only [List.length_drop, List.length_take]; rfl) | (go_simp; done) | (simp [Act.eval, IntKind.signed]; done) | (simp [Act.eval, IntKind.signed]; rfl)) ?_; (with_reducible refine (ip_must.panics false 21 _ rfl).mono ?_); rintro e w' ⟨rfl, ⟨nd, rfl⟩⟩; refine ⟨_, rfl, ?_⟩; exact ⟨rfl, rfl, bz HB⟩))
theorem ip_reader_packet.pan3 (t121 : Int) (A0 : Option Addr) (c0 : Nat) (l0 : List Int) (w : World) (hr0 : Kd.C (Kd.int .u8) w A0 l0.length l0) (hc0 : l0.length <= c0) (hlen : (l0.length : Int) >= 20) (h2 : ip_reader_two.f l0 2 = some t121) (hf : (rd l0 0) / 16 = 4 /\ (wrap64 (4 * (wrap64 (Go.bits .and .u8 (rd l0 0) 15)))) >= 20 /\ (wrap64 (t121)) >= (wrap64 (4 * (wrap64 (Go.bits .and .u8 (rd l0 0) 15))))) (hs : (l0.length : Int) < (wrap64 (t121))) :
  Calls Try.prog 95 #[.slice A0 l0.length c0] w fun e w' => e = .panicked [{ v := .iface 163 (.agg #[.int .i64 20]), recovered := false }] /\ Below w.heap.size w w' := by
 have hu30 := Try.underlying73; have HR0 := Aside0.mk hr0; have HC0 := Aside0.mk hc0; clear hr0 hc0; have HB := Aside0.mk (Below.refl w.heap.size w); have hd_ : decide ((l0.length : Int) >= (wrap64 (t121))) = false := decide_eq_false (by omega); have HD := Aside0.mk hd_; clear hd_ hs; have A10 : Aside0 (ip_must.f (decide ((wrap64 (t121)) >= (wrap64 (4 * (wrap64 (Go.bits .and .u8 (rd l0 0) 15)))))) 21 = some ()) := ⟨by unfold ip_must.f; rw [decide_eq_true hf.2.2, if_pos rfl]⟩
 have c8b0 : (((rd l0 0) / 16) == 4) = true := beq_iff_eq.mpr hf.1; have c8b1 : (((rd l0 0) / 16) != 4) = false := bne_eq_false_iff_eq.mpr hf.1; have c9b0 : decide (20 <= (wrap64 (4 * (wrap64 (Go.bits .and .u8 (rd l0 0) 15))))) = true := decide_eq_true hf.2.1; clear hf; have A2 : Aside0 (ip_must.f (decide ((l0.length : Int) >= 20)) 20 = some ()) := ⟨by unfold ip_must.f; rw [decide_eq_true hlen, if_pos rfl]⟩
 have A4 := Aside0.mk h2; have c3b0 : decide (0 < (l0.length : Int)) = true := decide_eq_true (by omega); have c3b1 : decide (0 < l0.length) = true := decide_eq_true (by omega); clear hlen h2
 go_enter Try.func95, Try.ntmps95
 try go_wp2_with (first | ((with_reducible refine gate_dst (N := 2) rfl ?_); refine box_event ?hg (N := 2) ?hd (cs := #[.int .u8 0, .int .u8 0, .int .u8 0, .int .u16 0, .int .u8 0, .int .u16 0, .int .u32 0, .int .u32 0, .slice none 0 0, .slice none 0 0]) (t := 73) ?hr ?_; (case hd => rfl); (case hg => rfl); (case hr => first | (go_simp; done) | (go_simp; rfl)); intro gb203 hg w6 hbox hb; have n0_ := Aside0.mk (below_step (bz HB) hb); have n1_ := Aside0.mk (hbox); have n2_ := Aside0.mk ((by rw [hg]; exact (below_size (bz HB)) : w.heap.size <= gb203)); have n3_ := Aside0.mk ((by rw [hg]; exact (below_size (bz HB)) : w.heap.size <= gb203)); clear HB; have HB := n0_; have BK203 := n1_; have GW203 := n2_; have GE203 := n3_; clear n0_ n1_ n2_ n3_; clear hb hbox hg) | ((with_reducible refine gate_callee (f := 117) rfl ?_); refine gL 9 Try.func117 #[.bool (decide ((l0.length : Int) >= 20)), .int .i64 20] ?_; (with_reducible refine (ip_must.calls (decide ((l0.length : Int) >= 20)) 20  _ A2.out).mono ?_); rintro e w' ⟨rfl, ⟨nd, rfl⟩⟩; refine ⟨_, rfl, ?_⟩))
 (try (rw [drewN_self w6]; generalize hq_ : World.drewN w6 _ = w6; have n0_ : Aside0 (w6.heap[gb203]? = some (.cells #[.int .u8 0, .int .u8 0, .int .u8 0, .int .u16 0, .int .u8 0, .int .u16 0, .int .u32 0, .int .u32 0, .slice none 0 0, .slice none 0 0] 73 (0, 0))) := ⟨by rw [<- hq_]; exact (kz BK203)⟩; have n1_ : Aside0 (Below w.heap.size w w6) := ⟨by rw [<- hq_]; exact bz HB⟩; clear BK203 HB hq_; have BK203 := n0_; have HB := n1_; clear n0_ n1_))
 have n0_ := Aside0.mk (blk_drew BK203.out); have n1_ := Aside0.mk (below_drew1 HB.out); clear BK203; clear HB; have BK203 := n0_; have HB := n1_; clear n0_ n1_; have p204 : 0 <= (0 : Int) := (by omega)
 have q204 : 0 < (l0.length : Int) := odt; obtain ⟨ad204, e204, hx204_0⟩ := Kd.at_int HR0.out 0 p204 q204; have hw204_0 := hx204_0
 (try rw [show ((0 : Int)).toNat = 0 from rfl] at hw204_0)
 (try rw [show 0 * 1 = 0 from rfl] at hw204_0)
 (try rw [Addr.add_zero'] at hw204_0)
 cases e204
 have qi204 : (0 < l0.length) = True := eq_true (by omega)
 (try rw [show ((0 : Int)).toNat = 0 from rfl] at hx204_0)
 (try rw [Addr.add_zero'] at hx204_0)
 replace hx204_0 := (HB.out.cell (World.block_lt_of_cell? w _ hx204_0)).trans hx204_0; replace p204 := eq_true p204; replace q204 := eq_true q204; refine start_ (n := 11) (S := fun w' => w'.cell? ad204 = some (.int .u8 (rd l0 0))) (ds := []) #[false, false, false, false, false, false, false, false, false, false, false] (by kernel_rfl) rfl rfl (((HB.out.cell (World.block_lt_of_cell? w _ hw204_0)).trans hw204_0)) (fun hHeld => ?_); refine with_tabW ip_reader_packet.tab2 ip_reader_packet.bits2 (fun HT_ HW_ => ?_); generalize w6.drew = w7 at BK203 HB hx204_0 hHeld |-
 refine pz 0 10 HT_ ?_; refine pz 1 11 HT_ ?_; refine pz 6 16 HT_ ?_; refine tz 2 12 HT_ HW_ hHeld ?_; refine pz 3 13 HT_ ?_; refine pz 4 14 HT_ ?_; refine pz 5 15 HT_ ?_; refine oz 7 (some 17) HT_ (fun K hK => ?_); refine gG Try.func118 #[.slice (some ad204) l0.length c0, .int .i64 2] ?_
 with_reducible refine (ip_reader_two.calls _ _ l0 2 t121 _ ?side1 ?side2 A4.out).mono ?_
 (case side1 => exact Kd.C_below HR0.out (bz HB))
 (case side2 => exact HC0.out)
 rintro e w' ⟨rfl, ⟨nd, rfl⟩⟩; refine ⟨_, rfl, ?_⟩; refine hK.out _ _ (((HB.out.cell (World.block_lt_of_cell? w _ hw204_0)).trans hw204_0)) (fun hHeld => ?_); clear hK K; refine nz 17 ?_; refine pz 8 18 HT_ ?_; refine pz 9 3 HT_ ?_; refine pz 10 4 HT_ ?_; refine dz HT_ ?_
 go_upto_region 3 with (fail)
 (first | rw [c8b0] | (simp only [i64_w, i32_w]; rw [c8b0]) | skip)
 have p206 : 0 <= (0 : Int) := (by omega)
 have q206 : 0 < (l0.length : Int) := odt; obtain ⟨ad206, e206, hx206_0⟩ := Kd.at_int HR0.out 0 p206 q206; obtain rfl : ad204 = ad206 := (by injection e206)
 have qi206 : (0 < l0.length) = True := eq_true (by omega)
 (try rw [show ((0 : Int)).toNat = 0 from rfl] at hx206_0)
 (try rw [Addr.add_zero'] at hx206_0)
 replace hx206_0 := (HB.out.cell (World.block_lt_of_cell? w _ hx206_0)).trans hx206_0; replace p206 := eq_true p206; replace q206 := eq_true q206
 go_wp2_with (first | ((with_reducible refine gate_callee (f := 117) rfl ?_); refine gL 33 Try.func117 #[.bool (decide ((wrap64 (t121)) >= (wrap64 (4 * (wrap64 (Go.bits .and .u8 (rd l0 0) 15)))))), .int .i64 21] ?_; (with_reducible refine (ip_must.calls (decide ((wrap64 (t121)) >= (wrap64 (4 * (wrap64 (Go.bits .and .u8 (rd l0 0) 15)))))) 21  _ A10.out).mono ?_); rintro e w' ⟨rfl, ⟨nd, rfl⟩⟩; refine ⟨_, rfl, ?_⟩) | ((with_reducible refine gate_callee (f := 117) rfl ?_); refine ip_Parse.goesP (some 38) rfl rfl Try.func117 (by kernel_rfl) rfl #[.bool (decide ((l0.length : Int) >= (wrap64 (t121)))), .int .i64 20] rfl (by (try simp only [List.map_toArray, List.map_cons, List.map_nil]); first | done | rfl | (simp only [List.length_drop, List.length_take]; rfl) | (go_simp; done) | (simp [Act.eval, IntKind.signed]; done) | (simp [Act.eval, IntKind.signed]; rfl)) ?_; (with_reducible refine (ip_must.panics (decide ((l0.length : Int) >= (wrap64 (t121)))) 20 _ HD.out).mono ?_); rintro e w' ⟨rfl, ⟨nd, rfl⟩⟩; refine ⟨_, rfl, ?_⟩; exact ⟨rfl, rfl, bz HB⟩))
theorem ip_reader_packet.pan4 (k : Nat) (t121 t124 t125 : Int) (A0 : Option Addr) (c0 : Nat) (l0 : List Int) (w : World) (hr0 : Kd.C (Kd.int .u8) w A0 l0.length l0) (hc0 : l0.length <= c0) (hlen : (l0.length : Int) >= 20) (h2 : ip_reader_two.f l0 2 = some t121) (hf : (rd l0 0) / 16 = 4 /\ (wrap64 (4 * (wrap64 (Go.bits .and .u8 (rd l0 0) 15)))) >= 20 /\ (wrap64 (t121)) >= (wrap64 (4 * (wrap64 (Go.bits .and .u8 (rd l0 0) 15))))) (hs : (l0.length : Int) >= (wrap64 (t121))) (ha : sum_Add.f k 0 (l0.take ((wrap64 (4 * (wrap64 (Go.bits .and .u8 (rd l0 0) 15)))) : Int).toNat) = some t124) (hb_ : sum_Fold.f k t124 = some t125) (hx : t125 ≠ 65535) :
  Calls Try.prog 95 #[.slice A0 l0.length c0] w fun e w' => e = .panicked [{ v := .iface 163 (.agg #[.int .i64 22]), recovered := false }] /\ Below w.heap.size w w' := by
 have hu30 := Try.underlying73; have HR0 := Aside0.mk hr0; have HC0 := Aside0.mk hc0; clear hr0 hc0; have HB := Aside0.mk (Below.refl w.heap.size w); have HD : Aside0 ((t125 == 65535) = false) := ⟨beq_eq_false_iff_ne.mpr hx⟩
 clear hx; have A13 : Aside0 (ip_must.f (decide ((l0.length : Int) >= (wrap64 (t121)))) 20 = some ()) := ⟨by unfold ip_must.f; rw [decide_eq_true hs, if_pos rfl]⟩
 have A17 := Aside0.mk ha; have A18 := Aside0.mk hb_; have c15b1 : decide (0 <= (wrap64 (4 * (wrap64 (Go.bits .and .u8 (rd l0 0) 15))))) = true := decide_eq_true (by omega); have c16b1 : decide ((wrap64 (4 * (wrap64 (Go.bits .and .u8 (rd l0 0) 15)))) <= (l0.length : Int)) = true := decide_eq_true (by omega); have c15b0 := eq_true (of_decide_eq_true c15b1); have c16b0 := eq_true (of_decide_eq_true c16b1); have A10 : Aside0 (ip_must.f (decide ((wrap64 (t121)) >= (wrap64 (4 * (wrap64 (Go.bits .and .u8 (rd l0 0) 15)))))) 21 = some ()) := ⟨by unfold ip_must.f; rw [decide_eq_true hf.2.2, if_pos rfl]⟩
 have c8b0 : (((rd l0 0) / 16) == 4) = true := beq_iff_eq.mpr hf.1; have c8b1 : (((rd l0 0) / 16) != 4) = false := bne_eq_false_iff_eq.mpr hf.1; have c9b0 : decide (20 <= (wrap64 (4 * (wrap64 (Go.bits .and .u8 (rd l0 0) 15))))) = true := decide_eq_true hf.2.1; clear hf hs ha hb_; have A2 : Aside0 (ip_must.f (decide ((l0.length : Int) >= 20)) 20 = some ()) := ⟨by unfold ip_must.f; rw [decide_eq_true hlen, if_pos rfl]⟩
 have A4 := Aside0.mk h2; have c3b0 : decide (0 < (l0.length : Int)) = true := decide_eq_true (by omega); have c3b1 : decide (0 < l0.length) = true := decide_eq_true (by omega); clear hlen h2
 go_enter Try.func95, Try.ntmps95
 try go_wp2_with (first | ((with_reducible refine gate_dst (N := 2) rfl ?_); refine box_event ?hg (N := 2) ?hd (cs := #[.int .u8 0, .int .u8 0, .int .u8 0, .int .u16 0, .int .u8 0, .int .u16 0, .int .u32 0, .int .u32 0, .slice none 0 0, .slice none 0 0]) (t := 73) ?hr ?_; (case hd => rfl); (case hg => rfl); (case hr => first | (go_simp; done) | (go_simp; rfl)); intro gb203 hg w6 hbox hb; have n0_ := Aside0.mk (below_step (bz HB) hb); have n1_ := Aside0.mk (hbox); have n2_ := Aside0.mk ((by rw [hg]; exact (below_size (bz HB)) : w.heap.size <= gb203)); have n3_ := Aside0.mk ((by rw [hg]; exact (below_size (bz HB)) : w.heap.size <= gb203)); clear HB; have HB := n0_; have BK203 := n1_; have GW203 := n2_; have GE203 := n3_; clear n0_ n1_ n2_ n3_; clear hb hbox hg) | ((with_reducible refine gate_callee (f := 117) rfl ?_); refine gL 9 Try.func117 #[.bool (decide ((l0.length : Int) >= 20)), .int .i64 20] ?_; (with_reducible refine (ip_must.calls (decide ((l0.length : Int) >= 20)) 20  _ A2.out).mono ?_); rintro e w' ⟨rfl, ⟨nd, rfl⟩⟩; refine ⟨_, rfl, ?_⟩))
 (try (rw [drewN_self w6]; generalize hq_ : World.drewN w6 _ = w6; have n0_ : Aside0 (w6.heap[gb203]? = some (.cells #[.int .u8 0, .int .u8 0, .int .u8 0, .int .u16 0, .int .u8 0, .int .u16 0, .int .u32 0, .int .u32 0, .slice none 0 0, .slice none 0 0] 73 (0, 0))) := ⟨by rw [<- hq_]; exact (kz BK203)⟩; have n1_ : Aside0 (Below w.heap.size w w6) := ⟨by rw [<- hq_]; exact bz HB⟩; clear BK203 HB hq_; have BK203 := n0_; have HB := n1_; clear n0_ n1_))
 have n0_ := Aside0.mk (blk_drew BK203.out); have n1_ := Aside0.mk (below_drew1 HB.out); clear BK203; clear HB; have BK203 := n0_; have HB := n1_; clear n0_ n1_; have p204 : 0 <= (0 : Int) := (by omega)
 have q204 : 0 < (l0.length : Int) := odt; obtain ⟨ad204, e204, hx204_0⟩ := Kd.at_int HR0.out 0 p204 q204; have hw204_0 := hx204_0
 (try rw [show ((0 : Int)).toNat = 0 from rfl] at hw204_0)
 (try rw [show 0 * 1 = 0 from rfl] at hw204_0)
 (try rw [Addr.add_zero'] at hw204_0)
 cases e204
 have qi204 : (0 < l0.length) = True := eq_true (by omega)
 (try rw [show ((0 : Int)).toNat = 0 from rfl] at hx204_0)
 (try rw [Addr.add_zero'] at hx204_0)
 replace hx204_0 := (HB.out.cell (World.block_lt_of_cell? w _ hx204_0)).trans hx204_0; replace p204 := eq_true p204; replace q204 := eq_true q204; refine start_ (n := 11) (S := fun w' => w'.cell? ad204 = some (.int .u8 (rd l0 0))) (ds := []) #[false, false, false, false, false, false, false, false, false, false, false] (by kernel_rfl) rfl rfl (((HB.out.cell (World.block_lt_of_cell? w _ hw204_0)).trans hw204_0)) (fun hHeld => ?_); refine with_tabW ip_reader_packet.tab2 ip_reader_packet.bits2 (fun HT_ HW_ => ?_); generalize w6.drew = w7 at BK203 HB hx204_0 hHeld |-
 refine pz 0 10 HT_ ?_; refine pz 1 11 HT_ ?_; refine pz 6 16 HT_ ?_; refine tz 2 12 HT_ HW_ hHeld ?_; refine pz 3 13 HT_ ?_; refine pz 4 14 HT_ ?_; refine pz 5 15 HT_ ?_; refine oz 7 (some 17) HT_ (fun K hK => ?_); refine gG Try.func118 #[.slice (some ad204) l0.length c0, .int .i64 2] ?_
 with_reducible refine (ip_reader_two.calls _ _ l0 2 t121 _ ?side1 ?side2 A4.out).mono ?_
 (case side1 => exact Kd.C_below HR0.out (bz HB))
 (case side2 => exact HC0.out)
 rintro e w' ⟨rfl, ⟨nd, rfl⟩⟩; refine ⟨_, rfl, ?_⟩; refine hK.out _ _ (((HB.out.cell (World.block_lt_of_cell? w _ hw204_0)).trans hw204_0)) (fun hHeld => ?_); clear hK K; refine nz 17 ?_; refine pz 8 18 HT_ ?_; refine pz 9 3 HT_ ?_; refine pz 10 4 HT_ ?_; refine dz HT_ ?_
 go_upto_region 3 with (fail)
 (first | rw [c8b0] | (simp only [i64_w, i32_w]; rw [c8b0]) | skip)
 have p206 : 0 <= (0 : Int) := (by omega)
 have q206 : 0 < (l0.length : Int) := odt; obtain ⟨ad206, e206, hx206_0⟩ := Kd.at_int HR0.out 0 p206 q206; obtain rfl : ad204 = ad206 := (by injection e206)
 have qi206 : (0 < l0.length) = True := eq_true (by omega)
 (try rw [show ((0 : Int)).toNat = 0 from rfl] at hx206_0)
 (try rw [Addr.add_zero'] at hx206_0)
 replace hx206_0 := (HB.out.cell (World.block_lt_of_cell? w _ hx206_0)).trans hx206_0; replace p206 := eq_true p206; replace q206 := eq_true q206
 go_upto_region 4 with (first | ((with_reducible refine gate_callee (f := 117) rfl ?_); refine gL 33 Try.func117 #[.bool (decide ((wrap64 (t121)) >= (wrap64 (4 * (wrap64 (Go.bits .and .u8 (rd l0 0) 15)))))), .int .i64 21] ?_; (with_reducible refine (ip_must.calls (decide ((wrap64 (t121)) >= (wrap64 (4 * (wrap64 (Go.bits .and .u8 (rd l0 0) 15)))))) 21  _ A10.out).mono ?_); rintro e w' ⟨rfl, ⟨nd, rfl⟩⟩; refine ⟨_, rfl, ?_⟩))
 obtain ⟨ji14, hji14⟩ : ∃ j_ : Int, (wrap64 (4 * (wrap64 (Go.bits .and .u8 (rd l0 0) 15)))) = j_ := ⟨_, rfl⟩
 rw [hji14] at A17 c15b1 c16b1 c15b0 c16b0
 have hji14w : (IntKind.i64.wrap (4 * (wrap64 (Go.bits .and .u8 (rd l0 0) 15)))) = ji14 := (i64_w _).trans hji14
 go_wp2_with (first | ((with_reducible refine gate_callee (f := 117) rfl ?_); refine gL 38 Try.func117 #[.bool (decide ((l0.length : Int) >= (wrap64 (t121)))), .int .i64 20] ?_; (with_reducible refine (ip_must.calls (decide ((l0.length : Int) >= (wrap64 (t121)))) 20  _ A13.out).mono ?_); rintro e w' ⟨rfl, ⟨nd, rfl⟩⟩; refine ⟨_, rfl, ?_⟩; (try (rw [drewN_self w7]; generalize hq_ : World.drewN wc _ = w7; have n0_ : Aside0 (w7.heap[gb203]? = some (.cells #[.int .u8 0, .int .u8 0, .int .u8 0, .int .u16 0, .int .u8 0, .int .u16 0, .int .u32 0, .int .u32 0, .slice none 0 0, .slice none 0 0] 73 (0, 0))) := ⟨by rw [<- hq_]; exact (kz BK203)⟩; have n1_ : Aside0 (Below w.heap.size w w7) := ⟨by rw [<- hq_]; exact bz HB⟩; clear BK203 HB hq_; have BK203 := n0_; have HB := n1_; clear n0_ n1_)); obtain ⟨i034, hi034, _, hsz34, _⟩ := info_parts info5; obtain ⟨hcut34, hA34, hC34⟩ := print_take_of (P := Try.prog) (Value.int .u8) 0 165 5 .i64 Try.underlying165 hi034 hsz34 (some ad204) c0 l0 (ji14) odt odt HC0.out; have HR207 := Aside0.mk (Kd.C_of_reads (h1 := fun _ => rfl) (hA34 _ (Kd.reads_of_C HR0.out))); have HC207 := Aside0.mk hC34; clear hA34 hC34 hi034 hsz34) | ((with_reducible refine gate_callee (f := 116) rfl ?_); refine goesL_ (some 42) rfl rfl Try.func116 (by kernel_rfl) rfl #[.int .u32 0, .slice (some ad204) (l0.take ((ji14) : Int).toNat).length c0] rfl (by (try simp only [List.map_toArray, List.map_cons, List.map_nil]); first | done | (rw [show (l0.take ((ji14) : Int).toNat).length = (ji14).toNat from (by rw [List.length_take]; have h_ : ((ji14) : Int) <= (l0.length : Int) := odt; omega)] <;> rfl) | (simp only [hji14]; rfl) | rfl | (simp only [List.length_drop, List.length_take]; rfl) | (go_simp; done) | (simp [Act.eval, IntKind.signed]; done) | (simp [Act.eval, IntKind.signed]; rfl)) ?_; (with_reducible refine (sum_Add.calls k 0 _ _ (l0.take ((ji14) : Int).toNat) t124 _ ?side1 ?side2 A17.out).mono ?_); (case side1 => exact Kd.C_below HR207.out (bz HB)); (case side2 => exact HC207.out); rintro e w35 ⟨rfl, hb⟩; refine ⟨_, rfl, ?_⟩; have n0_ := Aside0.mk (blk_below (kz BK203) hb); have n1_ := Aside0.mk (below_step (bz HB) hb); clear BK203; clear HB; have BK203 := n0_; have HB := n1_; clear n0_ n1_; (try clear hb); (try clear hb2); (try clear hk); (try clear hi)) | ((with_reducible refine gate_callee (f := 115) rfl ?_); refine gL 43 Try.func115 #[.int .u32 t124] ?_; (with_reducible refine (sum_Fold.calls k t124 t125 _ A18.out).mono ?_); rintro e w' ⟨rfl, ⟨nd, rfl⟩⟩; refine ⟨_, rfl, ?_⟩; (try (rw [drewN_self w35]; generalize hq_ : World.drewN w35 _ = w35; have n0_ : Aside0 (w35.heap[gb203]? = some (.cells #[.int .u8 0, .int .u8 0, .int .u8 0, .int .u16 0, .int .u8 0, .int .u16 0, .int .u32 0, .int .u32 0, .slice none 0 0, .slice none 0 0] 73 (0, 0))) := ⟨by rw [<- hq_]; exact (kz BK203)⟩; have n1_ : Aside0 (Below w.heap.size w w35) := ⟨by rw [<- hq_]; exact bz HB⟩; clear BK203 HB hq_; have BK203 := n0_; have HB := n1_; clear n0_ n1_))) | ((with_reducible refine gate_callee (f := 117) rfl ?_); refine ip_Parse.goesP (some 45) rfl rfl Try.func117 (by kernel_rfl) rfl #[.bool (t125 == 65535), .int .i64 22] rfl (by (try simp only [List.map_toArray, List.map_cons, List.map_nil]); first | done | rfl | (simp only [List.length_drop, List.length_take]; rfl) | (go_simp; done) | (simp [Act.eval, IntKind.signed]; done) | (simp [Act.eval, IntKind.signed]; rfl)) ?_; (with_reducible refine (ip_must.panics (t125 == 65535) 22 _ HD.out).mono ?_); rintro e w' ⟨rfl, ⟨nd, rfl⟩⟩; refine ⟨_, rfl, ?_⟩; exact ⟨rfl, rfl, bz HB⟩))
theorem ip_Parse.told {tmps : Array Value} {w : World} {gp ge : Nat} {cs : Array Value} {x : Int} (hs : cs.size = 10) (hp : tmps.getD 2 undef = .pointer (some ⟨gp, 0, none⟩)) (hg : w.heap[gp]? = some (.cells cs 73 (0, 0)))
  (he : tmps.getD 3 undef = .pointer (some ⟨ge, 0, none⟩)) (hx : w.heap[ge]? = some (.cells #[.int .i64 x] 49 (0, 0))) : (results Try.f57 tmps).run Try.prog w = .ok (.tuple #[.agg cs, .int .i64 x]) w := by
 have h1 : tmps[2]?.getD undef = .pointer (some ⟨gp, 0, none⟩) := by simpa using hp
 have h2 : tmps[3]?.getD undef = .pointer (some ⟨ge, 0, none⟩) := by simpa using he
 have hc : w.cell? ⟨ge, 0, none⟩ = some (.int .i64 x) := (blk_cell hx 0).trans rfl
 have hl : (loadVar 49 ⟨ge, 0, none⟩).run Try.prog w = .ok (.int .i64 x) w := by
  have hu := Try.underlying49; have hagg : (isAgg 49).run Try.prog w = .ok false w := by kernel_rfl
  simp [loadVar, hu, hc, hagg]
 simp [results, Try.results57, h1, h2, asAddr, run_loadVar_row w gp 73 73 cs (0, 0) _ hg Try.underlying73 rfl (by rw [hs]; kernel_rfl), hl]
theorem ip_Parse.fail (x : Int) (A0 : Option Addr) (c0 n : Nat) (w : World) (hp : ∀ W, Below w.heap.size w W -> Calls Try.prog 95 #[.slice A0 n c0] W fun e w' => e = .panicked [{ v := .iface 163 (.agg #[.int .i64 x]), recovered := false }] /\ Below W.heap.size W w') :
  Calls Try.prog 57 #[.slice A0 n c0] w fun e w' => e = .returned (.tuple #[.agg #[.int .u8 0, .int .u8 0, .int .u8 0, .int .u16 0, .int .u8 0, .int .u16 0, .int .u32 0, .int .u32 0, .slice none 0 0, .slice none 0 0], .int .i64 x]) /\ Below w.heap.size w w' := by
 have HB := Aside0.mk (Below.refl w.heap.size w); have HC := Aside0.mk hp; clear hp; have hmf : ∀ (fn : Fn) (first cap : Array Value) (w : World), (Instr.makeFunc fn first cap).run Try.prog w = .ok (.func fn first cap) w := fun _ _ _ _ => rfl
 go_enter_defers Try.func57, Try.ntmps57
 go_wp2_with (first | ((with_reducible refine gate_dst (N := 2) rfl ?_); refine box_event ?hg (N := 2) ?hd (cs := #[.int .u8 0, .int .u8 0, .int .u8 0, .int .u16 0, .int .u8 0, .int .u16 0, .int .u32 0, .int .u32 0, .slice none 0 0, .slice none 0 0]) (t := 73) ?hr ?_; (case hd => rfl); (case hg => rfl); (case hr => first | (go_simp; done) | (go_simp; rfl)); intro gp hg w1 hbox hb; have n0_ := Aside0.mk (below_step (bz HB) hb); have HP := Aside0.mk hbox; have GP := Aside0.mk ((by rw [hg]; exact (below_size (bz HB))) : w.heap.size <= gp); clear HB; have HB := n0_; clear n0_ hb hbox hg) | ((with_reducible refine gate_dst (N := 3) rfl ?_); refine box_event ?hg (N := 3) ?hd (cs := #[.int .i64 0]) (t := 49) ?hr ?_; (case hd => rfl); (case hg => rfl); (case hr => first | (go_simp; done) | (go_simp; rfl)); intro ge hg w2 hbox hb; have GN := Aside0.mk (show gp ≠ ge by rw [hg]; exact Nat.ne_of_lt (blk_lt (kz HP))); have n1_ := Aside0.mk (blk_below (kz HP) hb); have n0_ := Aside0.mk (below_step (bz HB) hb); have HE := Aside0.mk hbox; have GE := Aside0.mk ((by rw [hg]; exact (below_size (bz HB))) : w.heap.size <= ge); clear HB HP; have HB := n0_; have HP := n1_; clear n0_ n1_ hb hbox hg))
 refine (HC.out _ (bz HB)).mono ?_; rintro e w' ⟨rfl, hb⟩; have HP3 := Aside0.mk (blk_below (kz HP) hb); have HE3 := Aside0.mk (blk_below (kz HE) hb); have HB3 := Aside0.mk (below_step (bz HB) hb); clear hb HP HE HB
 show Leaves _ _ _ _ _ _ _
 refine leaves_cons (f := 94) (args := #[.pointer (some ⟨gp, 0, none⟩), .pointer (some ⟨ge, 0, none⟩)]) (by simp) (by simp [go_sem]) ?_; refine (ip_Parse.catch_panicking x w w' w.heap.size gp ge HP3.out HE3.out GN.out HB3.out GP.out GE.out).mono ?_; rintro e u' w'' ⟨rfl, rfl, f1, f2, f3⟩; exact ⟨_, ip_Parse.told rfl rfl f1 rfl f2, rfl, f3⟩
theorem ip_Parse.done (k : Nat) (A0 : Option Addr) (c0 : Nat) (l0 : List Int) (r1 : Int) (r2 : Int) (r3 : Int) (r4 : Int) (r5 : Int) (r6 : Int) (r7 : Int) (r8 : Int) (r9 : List Int) (r10 : List Int) (w : World) (hr0 : Kd.C (Kd.int .u8) w A0 l0.length l0) (hc0 : l0.length <= c0) (h : ip_reader_packet.f k l0 = some (r1, r2, r3, r4, r5, r6, r7, r8, r9, r10)) :
  Calls Try.prog 57 #[.slice A0 l0.length c0] w fun e w' => ∃ v8_ v9_ : Value, e = .returned (.tuple #[.agg #[.int .u8 r1, .int .u8 r2, .int .u8 r3, .int .u16 r4, .int .u8 r5, .int .u16 r6, .int .u32 r7, .int .u32 r8, v8_, v9_], .int .i64 0]) /\ Kd.R (Kd.int .u8) 5 w' w.heap.size (fun k_ => some k_ ≠ (v9_ : Value).ownBlock) v8_ r9 /\ Kd.R (Kd.int .u8) 5 w' w.heap.size (fun k_ => some k_ ≠ (v8_ : Value).ownBlock) v9_ r10 /\ Below w.heap.size w w' := by
 have HB := Aside0.mk (Below.refl w.heap.size w); have HR0 := Aside0.mk hr0; have HC0 := Aside0.mk hc0; have HH := Aside0.mk h; clear hr0 hc0 h; have hu30 := Try.underlying73; have hmf : ∀ (fn : Fn) (first cap : Array Value) (w : World), (Instr.makeFunc fn first cap).run Try.prog w = .ok (.func fn first cap) w := fun _ _ _ _ => rfl
 go_enter_defers Try.func57, Try.ntmps57
 go_wp2_with (first | ((with_reducible refine gate_dst (N := 2) rfl ?_); refine box_event ?hg (N := 2) ?hd (cs := #[.int .u8 0, .int .u8 0, .int .u8 0, .int .u16 0, .int .u8 0, .int .u16 0, .int .u32 0, .int .u32 0, .slice none 0 0, .slice none 0 0]) (t := 73) ?hr ?_; (case hd => rfl); (case hg => rfl); (case hr => first | (go_simp; done) | (go_simp; rfl)); intro gp hg w1 hbox hb; have n0_ := Aside0.mk (below_step (bz HB) hb); have HP := Aside0.mk hbox; have GP := Aside0.mk ((by rw [hg]; exact (below_size (bz HB))) : w.heap.size <= gp); clear HB; have HB := n0_; clear n0_ hb hbox hg) | ((with_reducible refine gate_dst (N := 3) rfl ?_); refine box_event ?hg (N := 3) ?hd (cs := #[.int .i64 0]) (t := 49) ?hr ?_; (case hd => rfl); (case hg => rfl); (case hr => first | (go_simp; done) | (go_simp; rfl)); intro ge hg w2 hbox hb; have GN := Aside0.mk (show gp ≠ ge by rw [hg]; exact Nat.ne_of_lt (blk_lt (kz HP))); have n1_ := Aside0.mk (blk_below (kz HP) hb); have n0_ := Aside0.mk (below_step (bz HB) hb); have HE := Aside0.mk hbox; have GE := Aside0.mk ((by rw [hg]; exact (below_size (bz HB))) : w.heap.size <= ge); clear HB HP; have HB := n0_; have HP := n1_; clear n0_ n1_ hb hbox hg))
 refine (ip_reader_packet.calls k A0 c0 l0 r1 r2 r3 r4 r5 r6 r7 r8 r9 r10 _ (Kd.C_below HR0.out (bz HB)) HC0.out HH.out).mono ?_; rintro e w' ⟨v8_, v9_, rfl, ho8, ho9, hb⟩; obtain ⟨B8, d8, rfl⟩ := Kd.R_slice ho8; obtain ⟨B9, d9, rfl⟩ := Kd.R_slice ho9; have HP3 := Aside0.mk (blk_below (kz HP) hb); have HE3 := Aside0.mk (blk_below (kz HE) hb); have HB3 := Aside0.mk (below_step (bz HB) hb); have HLP : gp < w2.heap.size := blk_lt HP.out; have HLE : ge < w2.heap.size := blk_lt HE.out; have HS : w.heap.size <= w2.heap.size := below_size (bz HB); have O8 := Aside0.mk ho8; have O9 := Aside0.mk ho9; clear hb HP HE HB ho8 ho9
 (try dsimp only)
 have hs0 : w'.cell? ⟨gp, 0, none⟩ = some (.int .u8 0) := cz HP3.out 0 rfl; have hfs0 := blk_frozen HP3.out 0; have hs1 : w'.cell? ⟨gp, 1, none⟩ = some (.int .u8 0) := cz HP3.out 1 rfl; have hfs1 := blk_frozen HP3.out 1; have hs2 : w'.cell? ⟨gp, 2, none⟩ = some (.int .u8 0) := cz HP3.out 2 rfl; have hfs2 := blk_frozen HP3.out 2; have hs3 : w'.cell? ⟨gp, 3, none⟩ = some (.int .u16 0) := cz HP3.out 3 rfl; have hfs3 := blk_frozen HP3.out 3; have hs4 : w'.cell? ⟨gp, 4, none⟩ = some (.int .u8 0) := cz HP3.out 4 rfl; have hfs4 := blk_frozen HP3.out 4; have hs5 : w'.cell? ⟨gp, 5, none⟩ = some (.int .u16 0) := cz HP3.out 5 rfl; have hfs5 := blk_frozen HP3.out 5; have hs6 : w'.cell? ⟨gp, 6, none⟩ = some (.int .u32 0) := cz HP3.out 6 rfl; have hfs6 := blk_frozen HP3.out 6; have hs7 : w'.cell? ⟨gp, 7, none⟩ = some (.int .u32 0) := cz HP3.out 7 rfl; have hfs7 := blk_frozen HP3.out 7
 have hs8 : w'.cell? ⟨gp, 8, none⟩ = some (.slice none 0 0) := cz HP3.out 8 rfl; have hfs8 := blk_frozen HP3.out 8; have hs9 : w'.cell? ⟨gp, 9, none⟩ = some (.slice none 0 0) := cz HP3.out 9 rfl; have hfs9 := blk_frozen HP3.out 9; have hse : w'.cell? ⟨ge, 0, none⟩ = some (.int .i64 0) := cz HE3.out 0 rfl; have hfse := blk_frozen HE3.out 0; have hnge : gp ≠ ge := GN.out; have hneg : ge ≠ gp := fun e => hnge e.symm
 go_wp2
 clear hs0 hfs0 hs1 hfs1 hs2 hfs2 hs3 hfs3 hs4 hfs4 hs5 hfs5 hs6 hfs6 hs7 hfs7 hs8 hfs8 hs9 hfs9; have b0 := HP3.out; have e0 := HE3.out; have l0_ := HB3.out; have u0 := O8.out; have t0 := O9.out; have b1 := blk_put (cs' := #[.int .u8 r1, .int .u8 0, .int .u8 0, .int .u16 0, .int .u8 0, .int .u16 0, .int .u32 0, .int .u32 0, .slice none 0 0, .slice none 0 0]) b0 0 (.int .u8 r1) rfl; have e1 := blk_far e0 (p := ⟨gp, 0, none⟩) hneg (.int .u8 r1); have l1_ := Below.setCell (p := ⟨gp, 0, none⟩) l0_ GP.out (.int .u8 r1); have u1 := Kd.R_set u0 b0 (by decide) 0 (.int .u8 r1); have t1 := Kd.R_set t0 b0 (by decide) 0 (.int .u8 r1); clear b0 e0 l0_ u0 t0; have b2 := blk_put (cs' := #[.int .u8 r1, .int .u8 r2, .int .u8 0, .int .u16 0, .int .u8 0, .int .u16 0, .int .u32 0, .int .u32 0, .slice none 0 0, .slice none 0 0]) b1 1 (.int .u8 r2) rfl
 have e2 := blk_far e1 (p := ⟨gp, 1, none⟩) hneg (.int .u8 r2); have l2_ := Below.setCell (p := ⟨gp, 1, none⟩) l1_ GP.out (.int .u8 r2); have u2 := Kd.R_set u1 b1 (by decide) 1 (.int .u8 r2); have t2 := Kd.R_set t1 b1 (by decide) 1 (.int .u8 r2); clear b1 e1 l1_ u1 t1; have b3 := blk_put (cs' := #[.int .u8 r1, .int .u8 r2, .int .u8 r3, .int .u16 0, .int .u8 0, .int .u16 0, .int .u32 0, .int .u32 0, .slice none 0 0, .slice none 0 0]) b2 2 (.int .u8 r3) rfl; have e3 := blk_far e2 (p := ⟨gp, 2, none⟩) hneg (.int .u8 r3); have l3_ := Below.setCell (p := ⟨gp, 2, none⟩) l2_ GP.out (.int .u8 r3); have u3 := Kd.R_set u2 b2 (by decide) 2 (.int .u8 r3); have t3 := Kd.R_set t2 b2 (by decide) 2 (.int .u8 r3); clear b2 e2 l2_ u2 t2
 have b4 := blk_put (cs' := #[.int .u8 r1, .int .u8 r2, .int .u8 r3, .int .u16 r4, .int .u8 0, .int .u16 0, .int .u32 0, .int .u32 0, .slice none 0 0, .slice none 0 0]) b3 3 (.int .u16 r4) rfl; have e4 := blk_far e3 (p := ⟨gp, 3, none⟩) hneg (.int .u16 r4); have l4_ := Below.setCell (p := ⟨gp, 3, none⟩) l3_ GP.out (.int .u16 r4); have u4 := Kd.R_set u3 b3 (by decide) 3 (.int .u16 r4); have t4 := Kd.R_set t3 b3 (by decide) 3 (.int .u16 r4); clear b3 e3 l3_ u3 t3; have b5 := blk_put (cs' := #[.int .u8 r1, .int .u8 r2, .int .u8 r3, .int .u16 r4, .int .u8 r5, .int .u16 0, .int .u32 0, .int .u32 0, .slice none 0 0, .slice none 0 0]) b4 4 (.int .u8 r5) rfl; have e5 := blk_far e4 (p := ⟨gp, 4, none⟩) hneg (.int .u8 r5); have l5_ := Below.setCell (p := ⟨gp, 4, none⟩) l4_ GP.out (.int .u8 r5); have u5 := Kd.R_set u4 b4 (by decide) 4 (.int .u8 r5)
 have t5 := Kd.R_set t4 b4 (by decide) 4 (.int .u8 r5); clear b4 e4 l4_ u4 t4; have b6 := blk_put (cs' := #[.int .u8 r1, .int .u8 r2, .int .u8 r3, .int .u16 r4, .int .u8 r5, .int .u16 r6, .int .u32 0, .int .u32 0, .slice none 0 0, .slice none 0 0]) b5 5 (.int .u16 r6) rfl; have e6 := blk_far e5 (p := ⟨gp, 5, none⟩) hneg (.int .u16 r6); have l6_ := Below.setCell (p := ⟨gp, 5, none⟩) l5_ GP.out (.int .u16 r6); have u6 := Kd.R_set u5 b5 (by decide) 5 (.int .u16 r6); have t6 := Kd.R_set t5 b5 (by decide) 5 (.int .u16 r6); clear b5 e5 l5_ u5 t5; have b7 := blk_put (cs' := #[.int .u8 r1, .int .u8 r2, .int .u8 r3, .int .u16 r4, .int .u8 r5, .int .u16 r6, .int .u32 r7, .int .u32 0, .slice none 0 0, .slice none 0 0]) b6 6 (.int .u32 r7) rfl; have e7 := blk_far e6 (p := ⟨gp, 6, none⟩) hneg (.int .u32 r7); have l7_ := Below.setCell (p := ⟨gp, 6, none⟩) l6_ GP.out (.int .u32 r7)
 have u7 := Kd.R_set u6 b6 (by decide) 6 (.int .u32 r7); have t7 := Kd.R_set t6 b6 (by decide) 6 (.int .u32 r7); clear b6 e6 l6_ u6 t6; have b8 := blk_put (cs' := #[.int .u8 r1, .int .u8 r2, .int .u8 r3, .int .u16 r4, .int .u8 r5, .int .u16 r6, .int .u32 r7, .int .u32 r8, .slice none 0 0, .slice none 0 0]) b7 7 (.int .u32 r8) rfl; have e8 := blk_far e7 (p := ⟨gp, 7, none⟩) hneg (.int .u32 r8); have l8_ := Below.setCell (p := ⟨gp, 7, none⟩) l7_ GP.out (.int .u32 r8); have u8 := Kd.R_set u7 b7 (by decide) 7 (.int .u32 r8); have t8 := Kd.R_set t7 b7 (by decide) 7 (.int .u32 r8); clear b7 e7 l7_ u7 t7; have b9 := blk_put (cs' := #[.int .u8 r1, .int .u8 r2, .int .u8 r3, .int .u16 r4, .int .u8 r5, .int .u16 r6, .int .u32 r7, .int .u32 r8, .slice B8 r9.length d8, .slice none 0 0]) b8 8 (.slice B8 r9.length d8) rfl; have e9 := blk_far e8 (p := ⟨gp, 8, none⟩) hneg (.slice B8 r9.length d8)
 have l9_ := Below.setCell (p := ⟨gp, 8, none⟩) l8_ GP.out (.slice B8 r9.length d8); have u9 := Kd.R_set u8 b8 (by decide) 8 (.slice B8 r9.length d8); have t9 := Kd.R_set t8 b8 (by decide) 8 (.slice B8 r9.length d8); clear b8 e8 l8_ u8 t8; have b10 := blk_put (cs' := #[.int .u8 r1, .int .u8 r2, .int .u8 r3, .int .u16 r4, .int .u8 r5, .int .u16 r6, .int .u32 r7, .int .u32 r8, .slice B8 r9.length d8, .slice B9 r10.length d9]) b9 9 (.slice B9 r10.length d9) rfl; have e10 := blk_far e9 (p := ⟨gp, 9, none⟩) hneg (.slice B9 r10.length d9); have l10_ := Below.setCell (p := ⟨gp, 9, none⟩) l9_ GP.out (.slice B9 r10.length d9); have u10 := Kd.R_set u9 b9 (by decide) 9 (.slice B9 r10.length d9); have t10 := Kd.R_set t9 b9 (by decide) 9 (.slice B9 r10.length d9); clear b9 e9 l9_ u9 t9; have b11 := blk_far b10 (p := ⟨ge, 0, none⟩) hnge (.int .i64 0)
 have e11 := blk_put (cs' := #[.int .i64 0]) e10 0 (.int .i64 0) rfl; have l11_ := Below.setCell (p := ⟨ge, 0, none⟩) l10_ GE.out (.int .i64 0); have u11 := Kd.R_set u10 e10 (by decide) 0 (.int .i64 0); have t11 := Kd.R_set t10 e10 (by decide) 0 (.int .i64 0); clear HP3 HE3 HB3 O8 O9 hse hfse
 show Leaves _ _ _ _ _ _ _
 refine leaves_cons (f := 94) (args := #[.pointer (some ⟨gp, 0, none⟩), .pointer (some ⟨ge, 0, none⟩)]) (by simp) (by simp [go_sem]) ?_; refine (ip_Parse.catch_idle ⟨gp, 0, none⟩ ⟨ge, 0, none⟩ _).mono ?_; rintro e u' w'' ⟨rfl, rfl, rfl⟩; exact ⟨_, ip_Parse.told rfl rfl b11 rfl e11, _, _, rfl, Kd.R_lower u11 HS, Kd.R_lower t11 HS, l11_⟩
def ip_Parse.f (k : Nat) (l0 : List Int) : Option (Int × Int × Int × Int × Int × Int × Int × Int × List Int × List Int × Int) :=
 if (l0.length : Int) < 20 then some (0, 0, 0, 0, 0, 0, 0, 0, [], [], 20) else (ip_reader_two.f l0 2).bind fun t =>
 if (rd l0 0) / 16 = 4 /\ (wrap64 (4 * (wrap64 (Go.bits .and .u8 (rd l0 0) 15)))) >= 20 /\ (wrap64 (t)) >= (wrap64 (4 * (wrap64 (Go.bits .and .u8 (rd l0 0) 15)))) then
  if (l0.length : Int) < (wrap64 (t)) then some (0, 0, 0, 0, 0, 0, 0, 0, [], [], 20) else
  (sum_Add.f k 0 (l0.take ((wrap64 (4 * (wrap64 (Go.bits .and .u8 (rd l0 0) 15)))) : Int).toNat)).bind fun a => (sum_Fold.f k a).bind fun b =>
  if b = 65535 then (ip_reader_packet.f k l0).bind fun p => some (p.1, p.2.1, p.2.2.1, p.2.2.2.1, p.2.2.2.2.1, p.2.2.2.2.2.1, p.2.2.2.2.2.2.1, p.2.2.2.2.2.2.2.1, p.2.2.2.2.2.2.2.2.1, p.2.2.2.2.2.2.2.2.2, 0)
  else some (0, 0, 0, 0, 0, 0, 0, 0, [], [], 22)
 else some (0, 0, 0, 0, 0, 0, 0, 0, [], [], 21)
theorem ip_Parse.calls (k : Nat) (A0 : Option Addr) (c0 : Nat) (l0 : List Int) (r1 : Int) (r2 : Int) (r3 : Int) (r4 : Int) (r5 : Int) (r6 : Int) (r7 : Int) (r8 : Int) (r9 : List Int) (r10 : List Int) (r11 : Int) (w : World) (hr0 : Kd.C (Kd.int .u8) w A0 l0.length l0) (hc0 : l0.length <= c0) (h : ip_Parse.f k l0 = some (r1, r2, r3, r4, r5, r6, r7, r8, r9, r10, r11)) :
  Calls Try.prog 57 #[.slice A0 l0.length c0] w fun e w' => ∃ v8_ v9_ : Value, e = .returned (.tuple #[.agg #[.int .u8 r1, .int .u8 r2, .int .u8 r3, .int .u16 r4, .int .u8 r5, .int .u16 r6, .int .u32 r7, .int .u32 r8, v8_, v9_], .int .i64 r11]) /\ Kd.R (Kd.int .u8) 5 w' w.heap.size (fun k_ => some k_ ≠ (v9_ : Value).ownBlock) v8_ r9 /\ Kd.R (Kd.int .u8) 5 w' w.heap.size (fun k_ => some k_ ≠ (v8_ : Value).ownBlock) v9_ r10 /\ Below w.heap.size w w' := by
 have fail : ∀ x : Int, (∀ W, Below w.heap.size w W -> Calls Try.prog 95 #[.slice A0 l0.length c0] W fun e w' => e = .panicked [{ v := .iface 163 (.agg #[.int .i64 x]), recovered := false }] /\ Below W.heap.size W w') -> some (0, 0, 0, 0, 0, 0, 0, 0, ([] : List Int), ([] : List Int), x) = some (r1, r2, r3, r4, r5, r6, r7, r8, r9, r10, r11) ->
   Calls Try.prog 57 #[.slice A0 l0.length c0] w fun e w' => ∃ v8_ v9_ : Value, e = .returned (.tuple #[.agg #[.int .u8 r1, .int .u8 r2, .int .u8 r3, .int .u16 r4, .int .u8 r5, .int .u16 r6, .int .u32 r7, .int .u32 r8, v8_, v9_], .int .i64 r11]) /\ Kd.R (Kd.int .u8) 5 w' w.heap.size (fun k_ => some k_ ≠ (v9_ : Value).ownBlock) v8_ r9 /\ Kd.R (Kd.int .u8) 5 w' w.heap.size (fun k_ => some k_ ≠ (v8_ : Value).ownBlock) v9_ r10 /\ Below w.heap.size w w' := by
  intro x hp hx; simp only [Option.some.injEq, Prod.mk.injEq] at hx
  obtain ⟨rfl, rfl, rfl, rfl, rfl, rfl, rfl, rfl, rfl, rfl, rfl⟩ := hx; refine (ip_Parse.fail x A0 c0 l0.length w hp).mono ?_; rintro e w' ⟨rfl, hb⟩; exact ⟨_, _, rfl, Kd.R_nil _ _ _ _ _, Kd.R_nil _ _ _ _ _, hb⟩
 unfold ip_Parse.f at h
 by_cases c1 : (l0.length : Int) < 20
 ·rw [if_pos c1] at h
  exact fail 20 (fun W hW => ip_reader_packet.pan1 A0 c0 l0 W (Kd.C_below hr0 hW) hc0 c1) h
 ·rw [if_neg c1] at h
  obtain ⟨t, h2, h⟩ := Option.bind_eq_some_iff.mp h; have c1' : (l0.length : Int) >= 20 := by omega
  by_cases c2 : (rd l0 0) / 16 = 4 /\ (wrap64 (4 * (wrap64 (Go.bits .and .u8 (rd l0 0) 15)))) >= 20 /\ (wrap64 (t)) >= (wrap64 (4 * (wrap64 (Go.bits .and .u8 (rd l0 0) 15))))
  ·rw [if_pos c2] at h
   by_cases c3 : (l0.length : Int) < (wrap64 (t))
   ·rw [if_pos c3] at h
    exact fail 20 (fun W hW => ip_reader_packet.pan3 t A0 c0 l0 W (Kd.C_below hr0 hW) hc0 c1' h2 c2 c3) h
   ·rw [if_neg c3] at h
    obtain ⟨a, ha, h⟩ := Option.bind_eq_some_iff.mp h; obtain ⟨b, hb, h⟩ := Option.bind_eq_some_iff.mp h
    by_cases c4 : b = 65535
    ·rw [if_pos c4] at h
     obtain ⟨p, hp, h⟩ := Option.bind_eq_some_iff.mp h; obtain ⟨p1, p2, p3, p4, p5, p6, p7, p8, p9, p10⟩ := p; simp only [Option.some.injEq, Prod.mk.injEq] at h
     obtain ⟨rfl, rfl, rfl, rfl, rfl, rfl, rfl, rfl, rfl, rfl, rfl⟩ := h; exact ip_Parse.done k A0 c0 l0 _ _ _ _ _ _ _ _ _ _ w hr0 hc0 hp
    ·rw [if_neg c4] at h
     exact fail 22 (fun W hW => ip_reader_packet.pan4 k t a b A0 c0 l0 W (Kd.C_below hr0 hW) hc0 c1' h2 c2 (by omega) ha hb c4) h
  ·rw [if_neg c2] at h
   exact fail 21 (fun W hW => ip_reader_packet.pan2 t A0 c0 l0 W (Kd.C_below hr0 hW) hc0 c1' h2 c2) h
attribute [local go_sem] max2_int min2_int max_two min_two max_three min_three max_four min_four
def udp_Bytes.f (a0_0 : Int) (a0_1 : Int) (a0_2 : Int) (l0_3 : List Int) : Option (List Int × Int) := if (wrap64 (8 + (l0_3.length : Int))) > 65535 then (some (([] : List Int), 23)) else ((some (([(a0_0 / 256) % 256, (a0_0) % 256, (a0_1 / 256) % 256, (a0_1) % 256, ((wrap64 (8 + (l0_3.length : Int))) / 256) % 256, (wrap64 (8 + (l0_3.length : Int))) % 256, (a0_2 / 256) % 256, (a0_2) % 256] : List Int) : List Int)).bind fun y125 => (if y125.length + l0_3.length < 140737488355328 then (some ((y125 ++ l0_3), 0)) else (none)))
attribute [local go_sem] max2_int min2_int max_two min_two max_three min_three max_four min_four
def sum_Pseudo.f (k : Nat) (a0 : Int) (a1 : Int) (a2 : Int) (a3 : Int) : Option (Int) := (sum_Fold.f k (((a0 / 65536) + (Go.bits .and .u32 a0 65535) + (a1 / 65536) + (Go.bits .and .u32 a1 65535) + (a2) + (IntKind.u16.wrap (a3))) % 4294967296)).bind fun t261 => (some ((t261) % 4294967296))
def udp_total.f (k : Nat) (a0 : Int) (a1 : Int) (a2_0 : Int) (a2_1 : Int) (a2_2 : Int) (l2_3 : List Int) : Option (Int × Bool) := (udp_Bytes.f a2_0 a2_1 a2_2 l2_3).bind fun bt263 => ((sum_Pseudo.f k a0 a1 17 (bt263.1.length : Int)).bind fun t267 => ((sum_Add.f k t267 bt263.1).bind fun t268 => ((sum_Fold.f k t268).bind fun t269 => (some (t269, (bt263.2 == 0))))))
attribute [local go_sem] max2_int min2_int max_two min_two max_three min_three max_four min_four
attribute [local go_sem] max2_int min2_int max_two min_two max_three min_three max_four min_four
attribute [local go_sem] max2_int min2_int max_two min_two max_three min_three max_four min_four
def slices_Grow_byte_byte.f (l0 : List Int) (a1 : Int) : Option (List Int) := if 0 <= a1 then (if a1 < 70368744177664 then some [] else none) else none
mutual
def slices_Concat_byte_byte.l0 : Nat -> List (List Int) -> Int -> List (List Int) -> Int -> Int -> Option (List Int)
  | 0, _, _, _, _, _ => none
  | k + 1, x0, x3, x9, x10, x11 => if x11 < x10 then (if 0 <= x11 then (if x11 < (x9.length : Int) then (if (wrap64 (x3 + ((rd_L1 x9 x11).length : Int))) < 0 then (none) else (slices_Concat_byte_byte.l0 k x0 (wrap64 (x3 + ((rd_L1 x9 x11).length : Int))) x9 x10 (wrap64 (x11 + 1)))) else (none)) else (none)) else ((slices_Grow_byte_byte.f ([] : List Int) x3).bind fun t102 => (slices_Concat_byte_byte.l1 k t102 x0 (x0.length : Int) 0))
def slices_Concat_byte_byte.l1 : Nat -> List Int -> List (List Int) -> Int -> Int -> Option (List Int)
  | 0, _, _, _, _ => none
  | k + 1, x6, x25, x26, x27 => if x27 < x26 then (if 0 <= x27 then (if x27 < (x25.length : Int) then (if x6.length + (rd_L1 x25 x27).length < 140737488355328 then (slices_Concat_byte_byte.l1 k (x6 ++ (rd_L1 x25 x27)) x25 x26 (wrap64 (x27 + 1))) else (none)) else (none)) else (none)) else (some x6)
end
def slices_Concat_byte_byte.f (k : Nat) (l0 : List (List Int)) : Option (List Int) := slices_Concat_byte_byte.l0 k l0 0 l0 (l0.length : Int) 0
attribute [local go_sem] max2_int min2_int max_two min_two max_three min_three max_four min_four
mutual
def tcp_Bytes.j0 : Nat -> Bool -> Int -> Int -> Int -> Int -> Int -> Int -> Int -> Int -> List Int -> List Int -> Option (List Int × Int)
 | 0, _, _, _, _, _, _, _, _, _, _, _ => none
 | k + 1, x7, x581000, x581001, x581002, x581003, x581004, x581005, x581006, x581007, x581008, x581009 => if x7 = true then (some (([] : List Int), 21)) else (if (wrap64 ((wrap64 (20 + (x581008.length : Int))) + (x581009.length : Int))) > 65515 then (some (([] : List Int), 23)) else ((some (([x581002, x581003] : List Int) : List Int)).bind fun y584 => (tcp_Bytes.l0 k (([(x581000 / 256) % 256, (x581000) % 256, (x581001 / 256) % 256, (x581001) % 256] : List Int)) y584 (y584.length : Int) 0 x581000 x581001 x581002 x581003 x581004 x581005 x581006 x581007 x581008 x581009)))
def tcp_Bytes.l0 : Nat -> List Int -> List Int -> Int -> Int -> Int -> Int -> Int -> Int -> Int -> Int -> Int -> Int -> List Int -> List Int -> Option (List Int × Int)
 | 0, _, _, _, _, _, _, _, _, _, _, _, _, _, _ => none
 | k + 1, x4, x48, x49, x50, x581000, x581001, x581002, x581003, x581004, x581005, x581006, x581007, x581008, x581009 => if x50 < x49 then (if 0 <= x50 then (if x50 < (x48.length : Int) then ((some (([((rd x48 x50) / 16777216) % 256, ((rd x48 x50) / 65536) % 256, ((rd x48 x50) / 256) % 256, (rd x48 x50) % 256] : List Int) : List Int)).bind fun y588 => (if x4.length + y588.length < 140737488355328 then (tcp_Bytes.l0 k (x4 ++ y588) x48 x49 (wrap64 (x50 + 1)) x581000 x581001 x581002 x581003 x581004 x581005 x581006 x581007 x581008 x581009) else (none))) else (none)) else (none)) else ((some (([((((wrap64 (20 + (x581008.length : Int))) % 256) / 4) * 16) % 256, x581004, (x581005 / 256) % 256, (x581005) % 256, (x581006 / 256) % 256, (x581006) % 256, (x581007 / 256) % 256, (x581007) % 256] : List Int) : List Int)).bind fun y594 => (if x4.length + y594.length < 140737488355328 then ((slices_Concat_byte_byte.f k (([(x4 ++ y594), x581008, x581009] : List (List Int)))).bind fun t603 => (some (t603, 0))) else (none)))
end
def tcp_Bytes.f (k : Nat) (a0_0 : Int) (a0_1 : Int) (a0_2 : Int) (a0_3 : Int) (a0_4 : Int) (a0_5 : Int) (a0_6 : Int) (a0_7 : Int) (l0_8 : List Int) (l0_9 : List Int) : Option (List Int × Int) := if ((l0_8.length : Int) % 4) = 0 then (tcp_Bytes.j0 k (decide ((l0_8.length : Int) > 40)) a0_0 a0_1 a0_2 a0_3 a0_4 a0_5 a0_6 a0_7 l0_8 l0_9) else (tcp_Bytes.j0 k true a0_0 a0_1 a0_2 a0_3 a0_4 a0_5 a0_6 a0_7 l0_8 l0_9)
def tcp_total.f (k : Nat) (a0 : Int) (a1 : Int) (a2_0 : Int) (a2_1 : Int) (a2_2 : Int) (a2_3 : Int) (a2_4 : Int) (a2_5 : Int) (a2_6 : Int) (a2_7 : Int) (l2_8 : List Int) (l2_9 : List Int) : Option (Int × Bool) := (tcp_Bytes.f k a2_0 a2_1 a2_2 a2_3 a2_4 a2_5 a2_6 a2_7 l2_8 l2_9).bind fun bt607 => ((sum_Pseudo.f k a0 a1 6 (bt607.1.length : Int)).bind fun t611 => ((sum_Add.f k t611 bt607.1).bind fun t612 => ((sum_Fold.f k t612).bind fun t613 => (some (t613, (bt607.2 == 0))))))
attribute [local go_sem] max2_int min2_int max_two min_two max_three min_three max_four min_four
attribute [local go_sem] max2_int min2_int max_two min_two max_three min_three max_four min_four
def icmp_Bytes.f (a0_0 : Int) (a0_1 : Int) (a0_2 : Int) (a0_3 : Int) (l0_4 : List Int) : Option (List Int × Int) := if (wrap64 (8 + (l0_4.length : Int))) > 65515 then (some (([] : List Int), 23)) else ((some (([a0_0, a0_1, (a0_2 / 256) % 256, (a0_2) % 256, (a0_3 / 16777216) % 256, (a0_3 / 65536) % 256, (a0_3 / 256) % 256, (a0_3) % 256] : List Int) : List Int)).bind fun y621 => (if y621.length + l0_4.length < 140737488355328 then (some ((y621 ++ l0_4), 0)) else (none)))
theorem icmp_Bytes.calls (a0_0 : Int) (a0_1 : Int) (a0_2 : Int) (a0_3 : Int) (A0_4 : Option Addr) (c0_4 : Nat) (l0_4 : List Int) (r1 : List Int) (r2 : Int) (w : World) (hr0_4 : Kd.C (Kd.int .u8) w A0_4 l0_4.length l0_4) (hc0_4 : l0_4.length <= c0_4) (h : icmp_Bytes.f a0_0 a0_1 a0_2 a0_3 l0_4 = some (r1, r2)) :
  Calls Try.prog 112 #[.agg #[.int .u8 a0_0, .int .u8 a0_1, .int .u16 a0_2, .int .u32 a0_3, .slice A0_4 l0_4.length c0_4]] w fun e w' => ∃ v0_ : Value, e = .returned (.tuple #[v0_, .int .i64 r2]) /\ Kd.R (Kd.int .u8) 5 w' w.heap.size (fun _ => True) v0_ r1 /\ Below w.heap.size w w' := by
 have hu101 := Try.underlying101; have HR0_4 := Aside0.mk hr0_4; have HC0_4 := Aside0.mk hc0_4; clear hr0_4 hc0_4; have HB := Aside0.mk (Below.refl w.heap.size w); have H : (if (wrap64 (8 + (l0_4.length : Int))) > 65515 then (some (([] : List Int), 23)) else ((some (([a0_0, a0_1, (a0_2 / 256) % 256, (a0_2) % 256, (a0_3 / 16777216) % 256, (a0_3 / 65536) % 256, (a0_3 / 256) % 256, (a0_3) % 256] : List Int) : List Int)).bind fun y621 => (if y621.length + l0_4.length < 140737488355328 then (some ((y621 ++ l0_4), 0)) else (none)))) = some (r1, r2) := h; clear h
 by_cases c2 : (wrap64 (8 + (l0_4.length : Int))) > 65515
 ·rw [if_pos c2] at H
  have c2b0 : decide (65515 < (wrap64 (8 + (l0_4.length : Int)))) = true := decide_eq_true c2; clear c2; simp only [Option.some.injEq, Prod.mk.injEq] at H
  obtain ⟨rfl, rfl⟩ := H
  go_enter Try.func112, Try.ntmps112
  go_wp2_with (first | ((with_reducible refine gate_dst (N := 1) rfl ?_); refine box_event ?hg (N := 1) ?hd (cs := #[.int .u8 a0_0, .int .u8 a0_1, .int .u16 a0_2, .int .u32 a0_3, .slice A0_4 l0_4.length c0_4]) (t := 101) ?hr ?_; (case hd => rfl); (case hg => rfl); (case hr => first | (go_simp; done) | (go_simp; rfl)); intro gb620 hg w3 hbox hb; have n0_ := Aside0.mk (below_step (bz HB) hb); have n1_ := Aside0.mk (hbox); have n2_ := Aside0.mk ((by rw [hg]; exact (below_size (bz HB)) : w.heap.size <= gb620)); have n3_ := Aside0.mk ((by rw [hg]; exact (below_size (bz HB)) : w.heap.size <= gb620)); clear HB; have HB := n0_; have BK620 := n1_; have GW620 := n2_; have GE620 := n3_; clear n0_ n1_ n2_ n3_; clear hb hbox hg; have hcz4_0 : w3.cell? ⟨gb620, 0, none⟩ = some (.int .u8 a0_0) := cz BK620.out 0 rfl; have hcz4_1 : w3.cell? ⟨gb620, 1, none⟩ = some (.int .u8 a0_1) := cz BK620.out 1 rfl; have hcz4_2 : w3.cell? ⟨gb620, 2, none⟩ = some (.int .u16 a0_2) := cz BK620.out 2 rfl; have hcz4_3 : w3.cell? ⟨gb620, 3, none⟩ = some (.int .u32 a0_3) := cz BK620.out 3 rfl; have hcz4_4 : w3.cell? ⟨gb620, 4, none⟩ = some (.slice A0_4 l0_4.length c0_4) := cz BK620.out 4 rfl; have hfz4_0 := blk_frozen BK620.out 0; have hfz4_1 := blk_frozen BK620.out 1; have hfz4_2 := blk_frozen BK620.out 2; have hfz4_3 := blk_frozen BK620.out 3; have hfz4_4 := blk_frozen BK620.out 4))
  go_ret2
  exact ⟨_, by first | rfl | (simp [errW_none, errW_some] <;> rfl) | (simp [*, errW_none, errW_some] <;> rfl), by first | exact Kd.R_nil _ _ _ _ _ | exact Kd.N_nil _ _ _ _ _ | exact Kd.V_nil _ _ _ _ _ | exact Kd.Q_nil _ _ _ _ _ | exact Kd.S_nil _ _ _ _ _, bz HB⟩
 ·rw [if_neg c2] at H
  have c2b0 : decide (65515 < (wrap64 (8 + (l0_4.length : Int)))) = false := decide_eq_false c2; clear c2; obtain ⟨y621, hy621⟩ : ∃ y_ : List Int, y_ = (([a0_0, a0_1, (a0_2 / 256) % 256, (a0_2) % 256, (a0_3 / 16777216) % 256, (a0_3 / 65536) % 256, (a0_3 / 256) % 256, (a0_3) % 256] : List Int)) := ⟨_, rfl⟩
  replace H : (if y621.length + l0_4.length < 140737488355328 then (some ((y621 ++ l0_4), 0)) else (none)) = some (r1, r2) := by first | (rw [hy621]; with_reducible exact H) | (have H2_ := (Option.bind_some _ _).symm.trans H; rw [hy621]; with_reducible exact H2_) | (have H2_ := (Option.bind_some _ _).symm.trans H; with_reducible exact H2_) | with_reducible exact H | (rw [hy621]; exact H) | exact H
  have Ny621 := Aside0.mk hy621; clear hy621
  by_cases c5 : y621.length + l0_4.length < 140737488355328
  ·rw [if_pos c5] at H
   have LMc5 := Aside0.mk c5; clear c5; obtain ⟨y624, hy624⟩ : ∃ y_ : List Int, y_ = (y621 ++ l0_4) := ⟨_, rfl⟩
   replace H : (some (y624, 0)) = some (r1, r2) := by first | (rw [hy624]; with_reducible exact H) | (have H2_ := (Option.bind_some _ _).symm.trans H; rw [hy624]; with_reducible exact H2_) | (have H2_ := (Option.bind_some _ _).symm.trans H; with_reducible exact H2_) | with_reducible exact H | (rw [hy624]; exact H) | exact H
   have Ny624 := Aside0.mk hy624; clear hy624; simp only [Option.some.injEq, Prod.mk.injEq] at H
   obtain ⟨rfl, rfl⟩ := H
   go_enter Try.func112, Try.ntmps112
   go_wp2_with (first | ((with_reducible refine gate_dst (N := 1) rfl ?_); refine box_event ?hg (N := 1) ?hd (cs := #[.int .u8 a0_0, .int .u8 a0_1, .int .u16 a0_2, .int .u32 a0_3, .slice A0_4 l0_4.length c0_4]) (t := 101) ?hr ?_; (case hd => rfl); (case hg => rfl); (case hr => first | (go_simp; done) | (go_simp; rfl)); intro gb620 hg w6 hbox hb; have n0_ := Aside0.mk (below_step (bz HB) hb); have n1_ := Aside0.mk (hbox); have n2_ := Aside0.mk ((by rw [hg]; exact (below_size (bz HB)) : w.heap.size <= gb620)); have n3_ := Aside0.mk ((by rw [hg]; exact (below_size (bz HB)) : w.heap.size <= gb620)); clear HB; have HB := n0_; have BK620 := n1_; have GW620 := n2_; have GE620 := n3_; clear n0_ n1_ n2_ n3_; clear hb hbox hg; have hcz7_0 : w6.cell? ⟨gb620, 0, none⟩ = some (.int .u8 a0_0) := cz BK620.out 0 rfl; have hcz7_1 : w6.cell? ⟨gb620, 1, none⟩ = some (.int .u8 a0_1) := cz BK620.out 1 rfl; have hcz7_2 : w6.cell? ⟨gb620, 2, none⟩ = some (.int .u16 a0_2) := cz BK620.out 2 rfl; have hcz7_3 : w6.cell? ⟨gb620, 3, none⟩ = some (.int .u32 a0_3) := cz BK620.out 3 rfl; have hcz7_4 : w6.cell? ⟨gb620, 4, none⟩ = some (.slice A0_4 l0_4.length c0_4) := cz BK620.out 4 rfl; have hfz7_0 := blk_frozen BK620.out 0; have hfz7_1 := blk_frozen BK620.out 1; have hfz7_2 := blk_frozen BK620.out 2; have hfz7_3 := blk_frozen BK620.out 3; have hfz7_4 := blk_frozen BK620.out 4) | ((with_reducible refine gate_dst (N := 35) rfl ?_); refine Kd.R_lit (Kd.int .u8) _ 5 ?hg (N := 35) ?hd (xs := ([a0_0, a0_1, (a0_2 / 256) % 256, (a0_2) % 256, (a0_3 / 16777216) % 256, (a0_3 / 65536) % 256, (a0_3 / 256) % 256, (a0_3) % 256] : List Int)) (inner := [.int .u8 a0_0, .int .u8 a0_1, .int .u8 ((a0_2 / 256) % 256), .int .u8 ((a0_2) % 256), .int .u8 ((a0_3 / 16777216) % 256), .int .u8 ((a0_3 / 65536) % 256), .int .u8 ((a0_3 / 256) % 256), .int .u8 ((a0_3) % 256)]) (ok := fun _ => True) (okp := fun _ => True) ?hr ?hp (fun _ hk => hk) trivial (Below.refl _ _) (Nat.le_refl _) (by simp) ?_; (case hd => rfl); (case hg => rfl); (case hr => first | (go_simp; done) | (go_simp; simp only [IntKind.wrap_u8, IntKind.wrap_u16, IntKind.wrap_u32]; done) | (go_simp; rfl)); (case hp => exact (Reps.one (show Kd.M (Kd.int .u8) _ _ _ a0_0 [.int .u8 a0_0] from rfl) (Reps.one (show Kd.M (Kd.int .u8) _ _ _ a0_1 [.int .u8 a0_1] from rfl) (Reps.one (show Kd.M (Kd.int .u8) _ _ _ ((a0_2 / 256) % 256) [.int .u8 ((a0_2 / 256) % 256)] from rfl) (Reps.one (show Kd.M (Kd.int .u8) _ _ _ ((a0_2) % 256) [.int .u8 ((a0_2) % 256)] from rfl) (Reps.one (show Kd.M (Kd.int .u8) _ _ _ ((a0_3 / 16777216) % 256) [.int .u8 ((a0_3 / 16777216) % 256)] from rfl) (Reps.one (show Kd.M (Kd.int .u8) _ _ _ ((a0_3 / 65536) % 256) [.int .u8 ((a0_3 / 65536) % 256)] from rfl) (Reps.one (show Kd.M (Kd.int .u8) _ _ _ ((a0_3 / 256) % 256) [.int .u8 ((a0_3 / 256) % 256)] from rfl) (Reps.one (show Kd.M (Kd.int .u8) _ _ _ ((a0_3) % 256) [.int .u8 ((a0_3) % 256)] from rfl) (Reps.none _ _)))))))))); intro v622 w8 ho9 hb hg_ hnew_; clear hg_ hnew_; (first | rw [<- Ny621.out] at ho9 | (simp only [Int.reduceToNat] at ho9; rw [<- Ny621.out] at ho9)); have n0_ := Aside0.mk (Kd.R_lower ho9 (below_size (bz HB))); have n1_ := Aside0.mk (blk_below (kz BK620) hb); have n2_ := Aside0.mk (below_step (bz HB) hb); clear BK620; clear HB; have HO623 := n0_; have BK620 := n1_; have HB := n2_; clear n0_ n1_ n2_; clear hb ho9; have hcz10_0 : w8.cell? ⟨gb620, 0, none⟩ = some (.int .u8 a0_0) := cz BK620.out 0 rfl; have hcz10_1 : w8.cell? ⟨gb620, 1, none⟩ = some (.int .u8 a0_1) := cz BK620.out 1 rfl; have hcz10_2 : w8.cell? ⟨gb620, 2, none⟩ = some (.int .u16 a0_2) := cz BK620.out 2 rfl; have hcz10_3 : w8.cell? ⟨gb620, 3, none⟩ = some (.int .u32 a0_3) := cz BK620.out 3 rfl; have hcz10_4 : w8.cell? ⟨gb620, 4, none⟩ = some (.slice A0_4 l0_4.length c0_4) := cz BK620.out 4 rfl; have hfz10_0 := blk_frozen BK620.out 0; have hfz10_1 := blk_frozen BK620.out 1; have hfz10_2 := blk_frozen BK620.out 2; have hfz10_3 := blk_frozen BK620.out 3; have hfz10_4 := blk_frozen BK620.out 4) | ((with_reducible refine gate_builtin (b := .append) (xs := #[.tmp 35, .tmp 37]) rfl ?_); at_builtin; refine Kd.R_append_rows (Kd.int .u8) (w0 := w) w.heap.size rfl (.tmp 35) (.tmp 37) 23 5 (.int .u8 0) 1 rfl Try.underlying23 info5 rfl (by decide) (by omega) v622 y621 l0_4 _ _ _ (fun _ => True) (fun _ => False) rfl rfl ?aO ?aR (fun _ _ h => h) (fun _ h => h.elim) ?aF ?aB ?aS ?aL ?_; (case aR => exact Kd.C_below HR0_4.out (bz HB)); (case aB => exact bz HB); (case aF => exact (fun _ _ => trivial)); (case aO => exact (Kd.rz HO623)); (case aS => exact (below_size (bz HB))); (case aL => have := LMc5.out; omega); intro v625 w11 ho hb hg hat; rw [<- Ny624.out] at ho; have n0_ := Aside0.mk (blk_grown (kz BK620) hg (Kd.R_ne HO623.out BK620.out (by decide))); have n1_ := Aside0.mk (hb); have n2_ := Aside0.mk (ho); clear BK620; clear HB; clear HO623; have BK620 := n0_; have HB := n1_; have HO626 := n2_; clear n0_ n1_ n2_; clear ho hb hg hat))
   go_ret2
   exact ⟨_, by first | rfl | (simp [errW_none, errW_some] <;> rfl) | (simp [*, errW_none, errW_some] <;> rfl), by (with_reducible repeat (first | apply Kd.R_alloc | apply Kd.R_drewN | apply Kd.R_drew)); exact HO626.out, bz HB⟩
  ·rw [if_neg c5] at H
   exact absurd H (by simp)
def icmp_Right.f (k : Nat) (a0_0 : Int) (a0_1 : Int) (a0_2 : Int) (a0_3 : Int) (l0_4 : List Int) : Option (Bool) := (icmp_Bytes.f a0_0 a0_1 a0_2 a0_3 l0_4).bind fun bt628 => (if bt628.2 = 0 then ((sum_Of.f k bt628.1).bind fun t632 => (some (t632 == 0))) else (some false))
theorem icmp_Right.calls (k : Nat) (a0_0 : Int) (a0_1 : Int) (a0_2 : Int) (a0_3 : Int) (A0_4 : Option Addr) (c0_4 : Nat) (l0_4 : List Int) (r : Bool) (w : World) (hr0_4 : Kd.C (Kd.int .u8) w A0_4 l0_4.length l0_4) (hc0_4 : l0_4.length <= c0_4) (h : icmp_Right.f k a0_0 a0_1 a0_2 a0_3 l0_4 = some r) :
  Calls Try.prog 162 #[.agg #[.int .u8 a0_0, .int .u8 a0_1, .int .u16 a0_2, .int .u32 a0_3, .slice A0_4 l0_4.length c0_4]] w fun e w' => e = .returned (.bool r) /\ Below w.heap.size w w' := by
 have hu101 := Try.underlying101; have HR0_4 := Aside0.mk hr0_4; have HC0_4 := Aside0.mk hc0_4; clear hr0_4 hc0_4; have HB := Aside0.mk (Below.refl w.heap.size w); have H : ((icmp_Bytes.f a0_0 a0_1 a0_2 a0_3 l0_4).bind fun bt628 => (if bt628.2 = 0 then ((sum_Of.f k bt628.1).bind fun t632 => (some (t632 == 0))) else (some false))) = some r := h; clear h; replace H := Option.bind_eq_some_iff.mp H; obtain ⟨⟨t628, t631⟩, A20, H⟩ := H
 (try dsimp -simprocs only at H)
 have A2 := Aside0.mk A20; clear A20
 by_cases c3 : t631 = 0
 ·rw [if_pos c3] at H
  have c3b0 : (t631 == 0) = true := beq_iff_eq.mpr c3; have c3b1 : (t631 != 0) = false := bne_eq_false_iff_eq.mpr c3; clear c3; replace H := Option.bind_eq_some_iff.mp H; obtain ⟨t632, A40, H⟩ := H
  (try dsimp -simprocs only at H)
  have A4 := Aside0.mk A40; clear A40; obtain rfl := Option.some.inj H
  go_enter Try.func162, Try.ntmps162
  go_wp2_with (first | ((with_reducible refine gate_dst (N := 1) rfl ?_); refine box_event ?hg (N := 1) ?hd (cs := #[.int .u8 a0_0, .int .u8 a0_1, .int .u16 a0_2, .int .u32 a0_3, .slice A0_4 l0_4.length c0_4]) (t := 101) ?hr ?_; (case hd => rfl); (case hg => rfl); (case hr => first | (go_simp; done) | (go_simp; rfl)); intro gb627 hg w5 hbox hb; have n0_ := Aside0.mk (below_step (bz HB) hb); have n1_ := Aside0.mk (hbox); have n2_ := Aside0.mk ((by rw [hg]; exact (below_size (bz HB)) : w.heap.size <= gb627)); have n3_ := Aside0.mk ((by rw [hg]; exact (below_size (bz HB)) : w.heap.size <= gb627)); clear HB; have HB := n0_; have BK627 := n1_; have GW627 := n2_; have GE627 := n3_; clear n0_ n1_ n2_ n3_; clear hb hbox hg; have hcz6_0 : w5.cell? ⟨gb627, 0, none⟩ = some (.int .u8 a0_0) := cz BK627.out 0 rfl; have hcz6_1 : w5.cell? ⟨gb627, 1, none⟩ = some (.int .u8 a0_1) := cz BK627.out 1 rfl; have hcz6_2 : w5.cell? ⟨gb627, 2, none⟩ = some (.int .u16 a0_2) := cz BK627.out 2 rfl; have hcz6_3 : w5.cell? ⟨gb627, 3, none⟩ = some (.int .u32 a0_3) := cz BK627.out 3 rfl; have hcz6_4 : w5.cell? ⟨gb627, 4, none⟩ = some (.slice A0_4 l0_4.length c0_4) := cz BK627.out 4 rfl; have hfz6_0 := blk_frozen BK627.out 0; have hfz6_1 := blk_frozen BK627.out 1; have hfz6_2 := blk_frozen BK627.out 2; have hfz6_3 := blk_frozen BK627.out 3; have hfz6_4 := blk_frozen BK627.out 4) | ((with_reducible refine gate_callee (f := 112) rfl ?_); refine gL 7 Try.func112 #[.agg #[.int .u8 a0_0, .int .u8 a0_1, .int .u16 a0_2, .int .u32 a0_3, .slice A0_4 l0_4.length c0_4]] ?_; (with_reducible refine (icmp_Bytes.calls a0_0 a0_1 a0_2 a0_3 _ _ l0_4 t628 t631 _ ?side1 ?side2 A2.out).mono ?_); (case side1 => exact Kd.C_below HR0_4.out (bz HB)); (case side2 => exact HC0_4.out); rintro e w7 ⟨v629, rfl, ho0, hb⟩; refine ⟨_, rfl, ?_⟩; have n0_ := Aside0.mk (Kd.R_lower ho0 (below_size (bz HB))); have n1_ := Aside0.mk (blk_below (kz BK627) hb); have n2_ := Aside0.mk (below_step (bz HB) hb); clear BK627; clear HB; have HO630 := n0_; have BK627 := n1_; have HB := n2_; clear n0_ n1_ n2_; (try clear hb); (try clear hb2); (try clear hk); (try clear hi); (try clear ho0); obtain ⟨Ao8, co8, eo8⟩ := Kd.R_slice HO630.out; subst eo8) | (go_at_call 90; (with_reducible refine (sum_Of.calls k _ _ t628 t632 _ ?side1 ?side2 A4.out).mono ?_); (case side1 => repeat (first | exact (Kd.R_reads' HO630.out).2.2 | (with_reducible refine Kd.C_alloc ?_ _) | (with_reducible refine Kd.C_drewN ?_ _) | (with_reducible refine Kd.C_drew ?_))); (case side2 => exact (Kd.R_reads' HO630.out).2.1); rintro e w9 ⟨rfl, hb⟩; have n0_ := Aside0.mk (Kd.R_below (Kd.rz HO630) hb); have n1_ := Aside0.mk (blk_below (kz BK627) hb); have n2_ := Aside0.mk (below_step (bz HB) hb); clear HO630; clear BK627; clear HB; have HO630 := n0_; have BK627 := n1_; have HB := n2_; clear n0_ n1_ n2_; (try clear hb); (try clear hb2); (try clear hk); (try clear hi)))
  go_ret
  exact ⟨by first | rfl | (simp [errW_none, errW_some] <;> rfl) | (simp [*, errW_none, errW_some] <;> rfl), bz HB⟩
 ·rw [if_neg c3] at H
  have c3b0 : (t631 == 0) = false := beq_eq_false_iff_ne.mpr c3; have c3b1 : (t631 != 0) = true := bne_iff_ne.mpr c3; obtain rfl := Option.some.inj H
  go_enter Try.func162, Try.ntmps162
  go_wp2_with (first | ((with_reducible refine gate_dst (N := 1) rfl ?_); refine box_event ?hg (N := 1) ?hd (cs := #[.int .u8 a0_0, .int .u8 a0_1, .int .u16 a0_2, .int .u32 a0_3, .slice A0_4 l0_4.length c0_4]) (t := 101) ?hr ?_; (case hd => rfl); (case hg => rfl); (case hr => first | (go_simp; done) | (go_simp; rfl)); intro gb627 hg w10 hbox hb; have n0_ := Aside0.mk (below_step (bz HB) hb); have n1_ := Aside0.mk (hbox); have n2_ := Aside0.mk ((by rw [hg]; exact (below_size (bz HB)) : w.heap.size <= gb627)); have n3_ := Aside0.mk ((by rw [hg]; exact (below_size (bz HB)) : w.heap.size <= gb627)); clear HB; have HB := n0_; have BK627 := n1_; have GW627 := n2_; have GE627 := n3_; clear n0_ n1_ n2_ n3_; clear hb hbox hg; have hcz11_0 : w10.cell? ⟨gb627, 0, none⟩ = some (.int .u8 a0_0) := cz BK627.out 0 rfl; have hcz11_1 : w10.cell? ⟨gb627, 1, none⟩ = some (.int .u8 a0_1) := cz BK627.out 1 rfl; have hcz11_2 : w10.cell? ⟨gb627, 2, none⟩ = some (.int .u16 a0_2) := cz BK627.out 2 rfl; have hcz11_3 : w10.cell? ⟨gb627, 3, none⟩ = some (.int .u32 a0_3) := cz BK627.out 3 rfl; have hcz11_4 : w10.cell? ⟨gb627, 4, none⟩ = some (.slice A0_4 l0_4.length c0_4) := cz BK627.out 4 rfl; have hfz11_0 := blk_frozen BK627.out 0; have hfz11_1 := blk_frozen BK627.out 1; have hfz11_2 := blk_frozen BK627.out 2; have hfz11_3 := blk_frozen BK627.out 3; have hfz11_4 := blk_frozen BK627.out 4) | ((with_reducible refine gate_callee (f := 112) rfl ?_); refine gL 7 Try.func112 #[.agg #[.int .u8 a0_0, .int .u8 a0_1, .int .u16 a0_2, .int .u32 a0_3, .slice A0_4 l0_4.length c0_4]] ?_; (with_reducible refine (icmp_Bytes.calls a0_0 a0_1 a0_2 a0_3 _ _ l0_4 t628 t631 _ ?side1 ?side2 A2.out).mono ?_); (case side1 => exact Kd.C_below HR0_4.out (bz HB)); (case side2 => exact HC0_4.out); rintro e w12 ⟨v629, rfl, ho0, hb⟩; refine ⟨_, rfl, ?_⟩; have n0_ := Aside0.mk (Kd.R_lower ho0 (below_size (bz HB))); have n1_ := Aside0.mk (blk_below (kz BK627) hb); have n2_ := Aside0.mk (below_step (bz HB) hb); clear BK627; clear HB; have HO630 := n0_; have BK627 := n1_; have HB := n2_; clear n0_ n1_ n2_; (try clear hb); (try clear hb2); (try clear hk); (try clear hi); (try clear ho0)))
  go_ret
  exact ⟨by first | rfl | (simp [errW_none, errW_some] <;> rfl) | (simp [*, errW_none, errW_some] <;> rfl), bz HB⟩
attribute [local go_sem] max2_int min2_int max_two min_two max_three min_three max_four min_four
def rewrite_message_right.f (k : Nat) (a0_0 : Int) (a0_1 : Int) (a0_2 : Int) (a0_3 : Int) (l0_4 : List Int) (a1_0 : Int) (a1_1 : Int) (a1_2 : Int) (a1_3 : Int) (a1_4 : Int) (a1_5 : Int) (a1_6 : Int) (a1_7 : Int) (l1_8 : List Int) (l1_9 : List Int) : Option (Bool) := (icmp_Right.f k a0_0 a0_1 a0_2 a0_3 l0_4).bind fun t635 => (some t635)
theorem rewrite_message_right.calls (k : Nat) (a0_0 : Int) (a0_1 : Int) (a0_2 : Int) (a0_3 : Int) (A0_4 : Option Addr) (c0_4 : Nat) (l0_4 : List Int) (a1_0 : Int) (a1_1 : Int) (a1_2 : Int) (a1_3 : Int) (a1_4 : Int) (a1_5 : Int) (a1_6 : Int) (a1_7 : Int) (A1_8 : Option Addr) (c1_8 : Nat) (l1_8 : List Int) (A1_9 : Option Addr) (c1_9 : Nat) (l1_9 : List Int) (r : Bool) (w : World) (hr0_4 : Kd.C (Kd.int .u8) w A0_4 l0_4.length l0_4) (hc0_4 : l0_4.length <= c0_4) (hr1_8 : Kd.C (Kd.int .u8) w A1_8 l1_8.length l1_8) (hc1_8 : l1_8.length <= c1_8) (hr1_9 : Kd.C (Kd.int .u8) w A1_9 l1_9.length l1_9) (hc1_9 : l1_9.length <= c1_9) (h : rewrite_message_right.f k a0_0 a0_1 a0_2 a0_3 l0_4 a1_0 a1_1 a1_2 a1_3 a1_4 a1_5 a1_6 a1_7 l1_8 l1_9 = some r) :
  Calls Try.prog 161 #[.agg #[.int .u8 a0_0, .int .u8 a0_1, .int .u16 a0_2, .int .u32 a0_3, .slice A0_4 l0_4.length c0_4], .agg #[.int .u8 a1_0, .int .u8 a1_1, .int .u8 a1_2, .int .u16 a1_3, .int .u8 a1_4, .int .u16 a1_5, .int .u32 a1_6, .int .u32 a1_7, .slice A1_8 l1_8.length c1_8, .slice A1_9 l1_9.length c1_9]] w fun e w' => e = .returned (.bool r) /\ Below w.heap.size w w' := by
 have hu183 := Try.underlying183; have hu73 := Try.underlying73; have hu101 := Try.underlying101; have HR0_4 := Aside0.mk hr0_4; have HC0_4 := Aside0.mk hc0_4; clear hr0_4 hc0_4; have HR1_8 := Aside0.mk hr1_8; have HC1_8 := Aside0.mk hc1_8; clear hr1_8 hc1_8; have HR1_9 := Aside0.mk hr1_9; have HC1_9 := Aside0.mk hc1_9; clear hr1_9 hc1_9; have HB := Aside0.mk (Below.refl w.heap.size w); have H : ((icmp_Right.f k a0_0 a0_1 a0_2 a0_3 l0_4).bind fun t635 => (some t635)) = some r := h; clear h; replace H := Option.bind_eq_some_iff.mp H; obtain ⟨t635, A30, H⟩ := H; replace H : (some t635) = some r := H; have A3 := Aside0.mk A30; clear A30; obtain rfl := Option.some.inj H
 go_enter Try.func161, Try.ntmps161
 go_wp2_with (first | ((with_reducible refine gate_dst (N := 2) rfl ?_); refine box_event ?hg (N := 2) ?hd (cs := #[.int .u8 a0_0, .int .u8 a0_1, .int .u16 a0_2, .int .u32 a0_3, .slice A0_4 l0_4.length c0_4]) (t := 183) ?hr ?_; (case hd => rfl); (case hg => rfl); (case hr => first | (go_simp; done) | (go_simp; rfl)); intro gb633 hg w4 hbox hb; have n0_ := Aside0.mk (below_step (bz HB) hb); have n1_ := Aside0.mk (hbox); have n2_ := Aside0.mk ((by rw [hg]; exact (below_size (bz HB)) : w.heap.size <= gb633)); have n3_ := Aside0.mk ((by rw [hg]; exact (below_size (bz HB)) : w.heap.size <= gb633)); clear HB; have HB := n0_; have BK633 := n1_; have GW633 := n2_; have GE633 := n3_; clear n0_ n1_ n2_ n3_; clear hb hbox hg) | ((with_reducible refine gate_dst (N := 3) rfl ?_); refine box_event ?hg (N := 3) ?hd (cs := #[.int .u8 a1_0, .int .u8 a1_1, .int .u8 a1_2, .int .u16 a1_3, .int .u8 a1_4, .int .u16 a1_5, .int .u32 a1_6, .int .u32 a1_7, .slice A1_8 l1_8.length c1_8, .slice A1_9 l1_9.length c1_9]) (t := 73) ?hr ?_; (case hd => rfl); (case hg => rfl); (case hr => first | (go_simp; done) | (go_simp; rfl)); intro gb634 hg w5 hbox hb; have n0_ := Aside0.mk (blk_below (kz BK633) hb); have n1_ := Aside0.mk (below_step (bz HB) hb); have n2_ := Aside0.mk (hbox); have n3_ := Aside0.mk ((by rw [hg]; exact (below_size (bz HB)) : w.heap.size <= gb634)); have n4_ := Aside0.mk ((by rw [hg]; exact (below_size (bz HB)) : w.heap.size <= gb634)); have n5_ := Aside0.mk ((by rw [hg]; exact Nat.ne_of_lt (blk_lt (g := gb633) (o := .cells #[.int .u8 a0_0, .int .u8 a0_1, .int .u16 a0_2, .int .u32 a0_3, .slice A0_4 l0_4.length c0_4] 183 (0, 0)) (kz BK633)) : gb633 ≠ gb634)); have n6_ := Aside0.mk ((by rw [hg]; exact Nat.ne_of_gt (blk_lt (g := gb633) (o := .cells #[.int .u8 a0_0, .int .u8 a0_1, .int .u16 a0_2, .int .u32 a0_3, .slice A0_4 l0_4.length c0_4] 183 (0, 0)) (kz BK633)) : gb634 ≠ gb633)); clear BK633; clear HB; have BK633 := n0_; have HB := n1_; have BK634 := n2_; have GW634 := n3_; have GE634 := n4_; have NB633_634 := n5_; have NB634_633 := n6_; clear n0_ n1_ n2_ n3_ n4_ n5_ n6_; clear hb hbox hg; have hnb6 := NB633_634.out; have hnc6 := NB634_633.out; have hcz7_0 : w5.cell? ⟨gb633, 0, none⟩ = some (.int .u8 a0_0) := cz BK633.out 0 rfl; have hcz7_1 : w5.cell? ⟨gb633, 1, none⟩ = some (.int .u8 a0_1) := cz BK633.out 1 rfl; have hcz7_2 : w5.cell? ⟨gb633, 2, none⟩ = some (.int .u16 a0_2) := cz BK633.out 2 rfl; have hcz7_3 : w5.cell? ⟨gb633, 3, none⟩ = some (.int .u32 a0_3) := cz BK633.out 3 rfl; have hcz7_4 : w5.cell? ⟨gb633, 4, none⟩ = some (.slice A0_4 l0_4.length c0_4) := cz BK633.out 4 rfl; have hfz7_0 := blk_frozen BK633.out 0; have hfz7_1 := blk_frozen BK633.out 1; have hfz7_2 := blk_frozen BK633.out 2; have hfz7_3 := blk_frozen BK633.out 3; have hfz7_4 := blk_frozen BK633.out 4) | ((with_reducible refine gate_callee (f := 162) rfl ?_); refine gL 7 Try.func162 #[.agg #[.int .u8 a0_0, .int .u8 a0_1, .int .u16 a0_2, .int .u32 a0_3, .slice A0_4 l0_4.length c0_4]] ?_; (with_reducible refine (icmp_Right.calls k a0_0 a0_1 a0_2 a0_3 _ _ l0_4 t635 _ ?side1 ?side2 A3.out).mono ?_); (case side1 => exact Kd.C_below HR0_4.out (bz HB)); (case side2 => exact HC0_4.out); rintro e w8 ⟨rfl, hb⟩; refine ⟨_, rfl, ?_⟩; have n0_ := Aside0.mk (blk_below (kz BK633) hb); have n1_ := Aside0.mk (blk_below (kz BK634) hb); have n2_ := Aside0.mk (below_step (bz HB) hb); clear BK633; clear BK634; clear HB; have BK633 := n0_; have BK634 := n1_; have HB := n2_; clear n0_ n1_ n2_; (try clear hb); (try clear hb2); (try clear hk); (try clear hi)))
 go_ret
 exact ⟨by first | rfl | (simp [errW_none, errW_some] <;> rfl) | (simp [*, errW_none, errW_some] <;> rfl), bz HB⟩
attribute [local go_sem] max2_int min2_int max_two min_two max_three min_three max_four min_four
attribute [local go_sem] max2_int min2_int max_two min_two max_three min_three max_four min_four
attribute [local go_sem] max2_int min2_int max_two min_two max_three min_three max_four min_four
def rewrite_message_proto.f (a0_0 : Int) (a0_1 : Int) (a0_2 : Int) (a0_3 : Int) (l0_4 : List Int) : Option (Int) := some 1
theorem rewrite_message_proto.calls (a0_0 : Int) (a0_1 : Int) (a0_2 : Int) (a0_3 : Int) (A0_4 : Option Addr) (c0_4 : Nat) (l0_4 : List Int) (r : Int) (w : World) (hr0_4 : Kd.C (Kd.int .u8) w A0_4 l0_4.length l0_4) (hc0_4 : l0_4.length <= c0_4) (h : rewrite_message_proto.f a0_0 a0_1 a0_2 a0_3 l0_4 = some r) :
  Calls Try.prog 160 #[.agg #[.int .u8 a0_0, .int .u8 a0_1, .int .u16 a0_2, .int .u32 a0_3, .slice A0_4 l0_4.length c0_4]] w fun e w' => e = .returned (.int .u8 r) /\ Below w.heap.size w w' := by
 have hu183 := Try.underlying183; have HR0_4 := Aside0.mk hr0_4; have HC0_4 := Aside0.mk hc0_4; clear hr0_4 hc0_4; have HB := Aside0.mk (Below.refl w.heap.size w); have H : (some 1) = some r := h; clear h; obtain rfl := Option.some.inj H
 go_enter Try.func160, Try.ntmps160
 go_wp2_with (first | ((with_reducible refine gate_dst (N := 1) rfl ?_); refine box_event ?hg (N := 1) ?hd (cs := #[.int .u8 a0_0, .int .u8 a0_1, .int .u16 a0_2, .int .u32 a0_3, .slice A0_4 l0_4.length c0_4]) (t := 183) ?hr ?_; (case hd => rfl); (case hg => rfl); (case hr => first | (go_simp; done) | (go_simp; rfl)); intro gb638 hg w2 hbox hb; have n0_ := Aside0.mk (below_step (bz HB) hb); have n1_ := Aside0.mk (hbox); have n2_ := Aside0.mk ((by rw [hg]; exact (below_size (bz HB)) : w.heap.size <= gb638)); have n3_ := Aside0.mk ((by rw [hg]; exact (below_size (bz HB)) : w.heap.size <= gb638)); clear HB; have HB := n0_; have BK638 := n1_; have GW638 := n2_; have GE638 := n3_; clear n0_ n1_ n2_ n3_; clear hb hbox hg))
 go_ret
 exact ⟨by first | rfl | (simp [errW_none, errW_some] <;> rfl) | (simp [*, errW_none, errW_some] <;> rfl), bz HB⟩
end Go.Proofs.Ytkmimamminddiaa.PB
