-- written by a patched print
import Derived.Test.YtnfgmcjgmccggaaProg
import Derived.Below
import Derived.Deep.Draws
import Derived.Deep.AppendLies
import Derived.Maps.AppendAt
import Derived.OwnWalk
import Derived.Laws.BytesArg
import Derived.Laws.MakeOwn
import Derived.Laws.OwnMore
import Derived.Deep.OwnRows
import Derived.Tactics
import Derived.Lib.ConvBytes
import Derived.Laws.Slices
import Derived.WalkKit
import Derived.KernelRfl
import Derived.RowKit3
import Derived.Deep.LoopGhost
import Derived.Deep.QuietTactic
import Derived.BigQuiet
import Derived.WideLaws
import Derived.Deep.DeepCutAuto
import Derived.Deep.CutBlock
import Derived.Deep.RegionHeld3
import Derived.Laws.Rows
import Derived.Lib.AppendStr
import Derived.ArgAppend
import Derived.Laws.IdiomCopy
import Derived.OrdersHeld
import Derived.Laws.BitsLemmas
import Derived.RowKit
import Derived.Defers
import Derived.Recover
import Derived.ChangeKeysEq
import Derived.Test.YtnfgmcjgmccggaaWWords
import Derived.Test.YtnfgmcjgmccggaaWLast
import Derived.Test.YtnfgmcjgmccggaaWTab
import Derived.Test.YtnfgmcjgmccggaaWFour
import Derived.Test.YtnfgmcjgmccggaaWQPut
import Derived.Test.YtnfgmcjgmccggaaWApart
import Derived.Test.YtnfgmcjgmccggaaWArr
import Derived.Test.YtnfgmcjgmccggaaWZeros
import Derived.Test.YtnfgmcjgmccggaaWFoot
import Derived.Test.YtnfgmcjgmccggaaWKept
import Derived.Test.YtnfgmcjgmccggaaWShare
import Derived.Test.YtnfgmcjgmccggaaWN
import Derived.Test.YtnfgmcjgmccggaaWFootNe
import Derived.Test.YtnfgmcjgmccggaaWAt
import Derived.Test.YtnfgmcjgmccggaaWEqStruct
import Derived.Test.YtnfgmcjgmccggaaWRepsOne
import Derived.Test.YtnfgmcjgmccggaaWInv
import Derived.Test.YtnfgmcjgmccggaaWInvWords
import Derived.Test.YtnfgmcjgmccggaaWGuard
import Derived.Test.YtnfgmcjgmccggaaWNEv
import Derived.Test.YtnfgmcjgmccggaaWMore
import Derived.Test.YtnfgmcjgmccggaaMyWords
namespace Go.Proofs.Ytnfgmcjgmccggaa.PA
open Go.RowKit Go.Proofs.YtnfgmcjgmccggaaW.PrintWords Go.Proofs.YtnfgmcjgmccggaaW.PrintLast Go.Proofs.YtnfgmcjgmccggaaW.PrintMore
attribute [local go_sem] max2_int min2_int max_two min_two max_three min_three max_four min_four   -- for this text's walks alone
set_option linter.unusedVariables false
set_option linter.unusedSimpArgs false



def errW : Option Int → Value
  | none => .nilIface
  | some c => .iface 0 (.int .i64 c)
theorem errW_none : errW none = .nilIface := rfl
theorem errW_some (c : Int) : errW (some c) = .iface 0 (.int .i64 c) := rfl

theorem info5 : (Try.prog.info? 5).map (fun i => (i.zero, i.size, i.bytes)) = some (some (.int .u8 0), 1, 1) := by kernel_rfl
-- the values' own types
def rd_L1 (xs : List (List Int)) (i : Int) : (List Int) := xs.getD i.toNat ([] : List Int)
theorem at_L1 {w : World} {A : Option Addr} {n : Nat} {xs : List (List Int)} (h : Kd.C (Kd.slice 5 (Kd.int .u8)) w A n xs) (i : Int) (h0 : 0 ≤ i) (h1 : i < n) : ∃ ad A0 c0, A = some ad ∧ w.cell? (ad.add i.toNat) = some (.slice A0 (rd_L1 xs i).length c0) ∧ (rd_L1 xs i).length ≤ c0 ∧ (Kd.int .u8).C w A0 (rd_L1 xs i).length (rd_L1 xs i) := by
  obtain ⟨ad, c, e, _, hK, hc0⟩ := Kd.C_get h ([] : List Int) i h0 h1
  have hc : ∀ j u, c[j]? = some u → w.cell? (ad.add (i.toNat * 1 + j)) = some u := hc0
  obtain ⟨A0, c0, rfl, l0, g0⟩ := hK
  exact ⟨ad, A0, c0, e, by have hq := hc 0 _ rfl; rwa [Nat.mul_one, Nat.add_zero] at hq, l0, g0⟩

/-! #### struct type 26 -/
structure S26 where
  f0 : Int
  f1 : Int
  f2 : Int
  f3 : Int
  f4 : Int
  f5 : Int
def z26 : S26 := ⟨(0 : Int), (0 : Int), (0 : Int), (0 : Int), (0 : Int), (0 : Int)⟩
def k26 : Kd S26 := Kd.iso (Kd.pair (Kd.int .u8) (Kd.pair (Kd.int .u8) (Kd.pair (Kd.int .u8) (Kd.pair (Kd.int .u8) (Kd.pair (Kd.int .u8) (Kd.int .u8)))))) (fun x : S26 => (x.f0, x.f1, x.f2, x.f3, x.f4, x.f5))
theorem k26_open {w : World} {x : S26} {cs : List Value} (h : k26.K w x cs) : cs = [.int .u8 x.f0, .int .u8 x.f1, .int .u8 x.f2, .int .u8 x.f3, .int .u8 x.f4, .int .u8 x.f5] := by
  obtain ⟨_, _, rfl, rfl, ⟨_, _, rfl, rfl, ⟨_, _, rfl, rfl, ⟨_, _, rfl, rfl, ⟨_, _, rfl, rfl, rfl⟩⟩⟩⟩⟩ := h
  exact rfl
theorem k26_openM {w : World} {base : Nat} {ok : Nat → Prop} {x : S26} {cs : List Value} (h : k26.M w base ok x cs) : cs = [.int .u8 x.f0, .int .u8 x.f1, .int .u8 x.f2, .int .u8 x.f3, .int .u8 x.f4, .int .u8 x.f5] := by
  obtain ⟨_, _, rfl, rfl, ⟨_, _, rfl, rfl, ⟨_, _, rfl, rfl, ⟨_, _, rfl, rfl, ⟨_, _, rfl, rfl, rfl⟩⟩⟩⟩⟩ := h
  exact rfl
theorem k26_mk (w : World) (x : S26)  : k26.K w x [.int .u8 x.f0, .int .u8 x.f1, .int .u8 x.f2, .int .u8 x.f3, .int .u8 x.f4, .int .u8 x.f5] := ⟨[.int .u8 x.f0], [.int .u8 x.f1, .int .u8 x.f2, .int .u8 x.f3, .int .u8 x.f4, .int .u8 x.f5], rfl, rfl, ⟨[.int .u8 x.f1], [.int .u8 x.f2, .int .u8 x.f3, .int .u8 x.f4, .int .u8 x.f5], rfl, rfl, ⟨[.int .u8 x.f2], [.int .u8 x.f3, .int .u8 x.f4, .int .u8 x.f5], rfl, rfl, ⟨[.int .u8 x.f3], [.int .u8 x.f4, .int .u8 x.f5], rfl, rfl, ⟨[.int .u8 x.f4], [.int .u8 x.f5], rfl, rfl, rfl⟩⟩⟩⟩⟩
theorem k26_mkM (w : World) (base : Nat) (ok : Nat → Prop) (x : S26)  : k26.M w base ok x [.int .u8 x.f0, .int .u8 x.f1, .int .u8 x.f2, .int .u8 x.f3, .int .u8 x.f4, .int .u8 x.f5] := ⟨[.int .u8 x.f0], [.int .u8 x.f1, .int .u8 x.f2, .int .u8 x.f3, .int .u8 x.f4, .int .u8 x.f5], rfl, rfl, ⟨[.int .u8 x.f1], [.int .u8 x.f2, .int .u8 x.f3, .int .u8 x.f4, .int .u8 x.f5], rfl, rfl, ⟨[.int .u8 x.f2], [.int .u8 x.f3, .int .u8 x.f4, .int .u8 x.f5], rfl, rfl, ⟨[.int .u8 x.f3], [.int .u8 x.f4, .int .u8 x.f5], rfl, rfl, ⟨[.int .u8 x.f4], [.int .u8 x.f5], rfl, rfl, rfl⟩⟩⟩⟩⟩
def rd_T26 (xs : List S26) (i : Int) : S26 := xs.getD i.toNat z26
theorem at_T26 {w : World} {A : Option Addr} {n : Nat} {xs : List S26} (h : Kd.C k26 w A n xs) (i : Int) (h0 : 0 ≤ i) (h1 : i < n) : ∃ ad , A = some ad ∧ w.cell? (ad.add (i.toNat * 6)) = some (.int .u8 (rd_T26 xs i).f0) ∧ w.cell? ⟨(ad.add (i.toNat * 6)).block, (ad.add (i.toNat * 6)).off + 1, none⟩ = some (.int .u8 (rd_T26 xs i).f1) ∧ w.cell? ⟨(ad.add (i.toNat * 6)).block, (ad.add (i.toNat * 6)).off + 2, none⟩ = some (.int .u8 (rd_T26 xs i).f2) ∧ w.cell? ⟨(ad.add (i.toNat * 6)).block, (ad.add (i.toNat * 6)).off + 3, none⟩ = some (.int .u8 (rd_T26 xs i).f3) ∧ w.cell? ⟨(ad.add (i.toNat * 6)).block, (ad.add (i.toNat * 6)).off + 4, none⟩ = some (.int .u8 (rd_T26 xs i).f4) ∧ w.cell? ⟨(ad.add (i.toNat * 6)).block, (ad.add (i.toNat * 6)).off + 5, none⟩ = some (.int .u8 (rd_T26 xs i).f5) := by
  obtain ⟨ad, c, e, _, hK, hc0⟩ := Kd.C_get h z26 i h0 h1
  have hc : ∀ j u, c[j]? = some u → w.cell? (ad.add (i.toNat * 6 + j)) = some u := hc0
  obtain rfl := k26_open hK
  exact ⟨ad, e, hc 0 _ rfl, by rw [← add_field _ _ 1 (by omega)]; exact hc 1 _ rfl, by rw [← add_field _ _ 2 (by omega)]; exact hc 2 _ rfl, by rw [← add_field _ _ 3 (by omega)]; exact hc 3 _ rfl, by rw [← add_field _ _ 4 (by omega)]; exact hc 4 _ rfl, by rw [← add_field _ _ 5 (by omega)]; exact hc 5 _ rfl⟩

/-! #### struct type 28 -/
structure S28 where
  f0 : S26
  f1 : S26
  f2 : Int
  f3 : (List Int)
def z28 : S28 := ⟨z26, z26, (0 : Int), ([] : List Int)⟩
def k28 : Kd S28 := Kd.iso (Kd.pair k26 (Kd.pair k26 (Kd.pair (Kd.int .u16) (Kd.slice 5 (Kd.int .u8))))) (fun x : S28 => (x.f0, x.f1, x.f2, x.f3))
theorem k28_open {w : World} {x : S28} {cs : List Value} (h : k28.K w x cs) : ∃ A13 c13, cs = [.int .u8 x.f0.f0, .int .u8 x.f0.f1, .int .u8 x.f0.f2, .int .u8 x.f0.f3, .int .u8 x.f0.f4, .int .u8 x.f0.f5, .int .u8 x.f1.f0, .int .u8 x.f1.f1, .int .u8 x.f1.f2, .int .u8 x.f1.f3, .int .u8 x.f1.f4, .int .u8 x.f1.f5, .int .u16 x.f2, .slice A13 x.f3.length c13] ∧ x.f3.length ≤ c13 ∧ (Kd.int .u8).C w A13 x.f3.length x.f3 := by
  obtain ⟨_, _, rfl, s0, ⟨_, _, rfl, s6, ⟨_, _, rfl, rfl, ⟨A13, c13, rfl, l13, g13⟩⟩⟩⟩ := h
  obtain rfl := k26_open s0
  obtain rfl := k26_open s6
  exact ⟨A13, c13, rfl, l13, g13⟩
theorem k28_openM {w : World} {base : Nat} {ok : Nat → Prop} {x : S28} {cs : List Value} (h : k28.M w base ok x cs) : ∃ v13, cs = [.int .u8 x.f0.f0, .int .u8 x.f0.f1, .int .u8 x.f0.f2, .int .u8 x.f0.f3, .int .u8 x.f0.f4, .int .u8 x.f0.f5, .int .u8 x.f1.f0, .int .u8 x.f1.f1, .int .u8 x.f1.f2, .int .u8 x.f1.f3, .int .u8 x.f1.f4, .int .u8 x.f1.f5, .int .u16 x.f2, v13] ∧ (Kd.int .u8).R 5 w base ok v13 x.f3 := by
  obtain ⟨_, _, rfl, s0, ⟨_, _, rfl, s6, ⟨_, _, rfl, rfl, ⟨v13, rfl, g13⟩⟩⟩⟩ := h
  obtain rfl := k26_openM s0
  obtain rfl := k26_openM s6
  exact ⟨v13, rfl, g13⟩
theorem k28_mk (w : World) (x : S28) {A13 : Option Addr} {c13 : Nat} (l13 : x.f3.length ≤ c13) (g13 : (Kd.int .u8).C w A13 x.f3.length x.f3) : k28.K w x [.int .u8 x.f0.f0, .int .u8 x.f0.f1, .int .u8 x.f0.f2, .int .u8 x.f0.f3, .int .u8 x.f0.f4, .int .u8 x.f0.f5, .int .u8 x.f1.f0, .int .u8 x.f1.f1, .int .u8 x.f1.f2, .int .u8 x.f1.f3, .int .u8 x.f1.f4, .int .u8 x.f1.f5, .int .u16 x.f2, .slice A13 x.f3.length c13] := ⟨[.int .u8 x.f0.f0, .int .u8 x.f0.f1, .int .u8 x.f0.f2, .int .u8 x.f0.f3, .int .u8 x.f0.f4, .int .u8 x.f0.f5], [.int .u8 x.f1.f0, .int .u8 x.f1.f1, .int .u8 x.f1.f2, .int .u8 x.f1.f3, .int .u8 x.f1.f4, .int .u8 x.f1.f5, .int .u16 x.f2, .slice A13 x.f3.length c13], rfl, (k26_mk w x.f0 ), ⟨[.int .u8 x.f1.f0, .int .u8 x.f1.f1, .int .u8 x.f1.f2, .int .u8 x.f1.f3, .int .u8 x.f1.f4, .int .u8 x.f1.f5], [.int .u16 x.f2, .slice A13 x.f3.length c13], rfl, (k26_mk w x.f1 ), ⟨[.int .u16 x.f2], [.slice A13 x.f3.length c13], rfl, rfl, ⟨A13, c13, rfl, l13, g13⟩⟩⟩⟩
theorem k28_mkM (w : World) (base : Nat) (ok : Nat → Prop) (x : S28) {v13 : Value} (g13 : (Kd.int .u8).R 5 w base ok v13 x.f3) : k28.M w base ok x [.int .u8 x.f0.f0, .int .u8 x.f0.f1, .int .u8 x.f0.f2, .int .u8 x.f0.f3, .int .u8 x.f0.f4, .int .u8 x.f0.f5, .int .u8 x.f1.f0, .int .u8 x.f1.f1, .int .u8 x.f1.f2, .int .u8 x.f1.f3, .int .u8 x.f1.f4, .int .u8 x.f1.f5, .int .u16 x.f2, v13] := ⟨[.int .u8 x.f0.f0, .int .u8 x.f0.f1, .int .u8 x.f0.f2, .int .u8 x.f0.f3, .int .u8 x.f0.f4, .int .u8 x.f0.f5], [.int .u8 x.f1.f0, .int .u8 x.f1.f1, .int .u8 x.f1.f2, .int .u8 x.f1.f3, .int .u8 x.f1.f4, .int .u8 x.f1.f5, .int .u16 x.f2, v13], rfl, (k26_mkM w base ok x.f0 ), ⟨[.int .u8 x.f1.f0, .int .u8 x.f1.f1, .int .u8 x.f1.f2, .int .u8 x.f1.f3, .int .u8 x.f1.f4, .int .u8 x.f1.f5], [.int .u16 x.f2, v13], rfl, (k26_mkM w base ok x.f1 ), ⟨[.int .u16 x.f2], [v13], rfl, rfl, ⟨v13, rfl, g13⟩⟩⟩⟩
def rd_T28 (xs : List S28) (i : Int) : S28 := xs.getD i.toNat z28
theorem at_T28 {w : World} {A : Option Addr} {n : Nat} {xs : List S28} (h : Kd.C k28 w A n xs) (i : Int) (h0 : 0 ≤ i) (h1 : i < n) : ∃ ad A13 c13, A = some ad ∧ w.cell? (ad.add (i.toNat * 14)) = some (.int .u8 (rd_T28 xs i).f0.f0) ∧ w.cell? ⟨(ad.add (i.toNat * 14)).block, (ad.add (i.toNat * 14)).off + 1, none⟩ = some (.int .u8 (rd_T28 xs i).f0.f1) ∧ w.cell? ⟨(ad.add (i.toNat * 14)).block, (ad.add (i.toNat * 14)).off + 2, none⟩ = some (.int .u8 (rd_T28 xs i).f0.f2) ∧ w.cell? ⟨(ad.add (i.toNat * 14)).block, (ad.add (i.toNat * 14)).off + 3, none⟩ = some (.int .u8 (rd_T28 xs i).f0.f3) ∧ w.cell? ⟨(ad.add (i.toNat * 14)).block, (ad.add (i.toNat * 14)).off + 4, none⟩ = some (.int .u8 (rd_T28 xs i).f0.f4) ∧ w.cell? ⟨(ad.add (i.toNat * 14)).block, (ad.add (i.toNat * 14)).off + 5, none⟩ = some (.int .u8 (rd_T28 xs i).f0.f5) ∧ w.cell? ⟨(ad.add (i.toNat * 14)).block, (ad.add (i.toNat * 14)).off + 6, none⟩ = some (.int .u8 (rd_T28 xs i).f1.f0) ∧ w.cell? ⟨(ad.add (i.toNat * 14)).block, (ad.add (i.toNat * 14)).off + 7, none⟩ = some (.int .u8 (rd_T28 xs i).f1.f1) ∧ w.cell? ⟨(ad.add (i.toNat * 14)).block, (ad.add (i.toNat * 14)).off + 8, none⟩ = some (.int .u8 (rd_T28 xs i).f1.f2) ∧ w.cell? ⟨(ad.add (i.toNat * 14)).block, (ad.add (i.toNat * 14)).off + 9, none⟩ = some (.int .u8 (rd_T28 xs i).f1.f3) ∧ w.cell? ⟨(ad.add (i.toNat * 14)).block, (ad.add (i.toNat * 14)).off + 10, none⟩ = some (.int .u8 (rd_T28 xs i).f1.f4) ∧ w.cell? ⟨(ad.add (i.toNat * 14)).block, (ad.add (i.toNat * 14)).off + 11, none⟩ = some (.int .u8 (rd_T28 xs i).f1.f5) ∧ w.cell? ⟨(ad.add (i.toNat * 14)).block, (ad.add (i.toNat * 14)).off + 12, none⟩ = some (.int .u16 (rd_T28 xs i).f2) ∧ w.cell? ⟨(ad.add (i.toNat * 14)).block, (ad.add (i.toNat * 14)).off + 13, none⟩ = some (.slice A13 (rd_T28 xs i).f3.length c13) ∧ (rd_T28 xs i).f3.length ≤ c13 ∧ (Kd.int .u8).C w A13 (rd_T28 xs i).f3.length (rd_T28 xs i).f3 := by
  obtain ⟨ad, c, e, _, hK, hc0⟩ := Kd.C_get h z28 i h0 h1
  have hc : ∀ j u, c[j]? = some u → w.cell? (ad.add (i.toNat * 14 + j)) = some u := hc0
  obtain ⟨A13, c13, rfl, l13, g13⟩ := k28_open hK
  exact ⟨ad, A13, c13, e, hc 0 _ rfl, by rw [← add_field _ _ 1 (by omega)]; exact hc 1 _ rfl, by rw [← add_field _ _ 2 (by omega)]; exact hc 2 _ rfl, by rw [← add_field _ _ 3 (by omega)]; exact hc 3 _ rfl, by rw [← add_field _ _ 4 (by omega)]; exact hc 4 _ rfl, by rw [← add_field _ _ 5 (by omega)]; exact hc 5 _ rfl, by rw [← add_field _ _ 6 (by omega)]; exact hc 6 _ rfl, by rw [← add_field _ _ 7 (by omega)]; exact hc 7 _ rfl, by rw [← add_field _ _ 8 (by omega)]; exact hc 8 _ rfl, by rw [← add_field _ _ 9 (by omega)]; exact hc 9 _ rfl, by rw [← add_field _ _ 10 (by omega)]; exact hc 10 _ rfl, by rw [← add_field _ _ 11 (by omega)]; exact hc 11 _ rfl, by rw [← add_field _ _ 12 (by omega)]; exact hc 12 _ rfl, by rw [← add_field _ _ 13 (by omega)]; exact hc 13 _ rfl, l13, g13⟩

end Go.Proofs.Ytnfgmcjgmccggaa.PA
