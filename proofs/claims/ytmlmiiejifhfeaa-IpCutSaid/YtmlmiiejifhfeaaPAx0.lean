-- written by a patched print
import Derived.Test.YtmlmiiejifhfeaaProg
import Derived.Below
import Derived.Deep.Draws
import Derived.Deep.AppendLies
import Derived.Maps.AppendAt
import Derived.OwnWalk
import Derived.Laws.BytesArg
import Derived.Laws.MakeOwn
import Derived.Laws.OwnMore
import Derived.Deep.OwnRows
import Derived.Tactics
import Derived.Lib.ConvBytes
import Derived.Laws.Slices
import Derived.WalkKit
import Derived.KernelRfl
import Derived.RowKit3
import Derived.Deep.LoopGhost
import Derived.Deep.QuietTactic
import Derived.BigQuiet
import Derived.WideLaws
import Derived.Deep.DeepCutAuto
import Derived.Deep.CutBlock
import Derived.Deep.RegionHeld3
import Derived.Laws.Rows
import Derived.Lib.AppendStr
import Derived.ArgAppend
import Derived.Laws.IdiomCopy
import Derived.OrdersHeld
import Derived.Laws.BitsLemmas
import Derived.RowKit
import Derived.Defers
import Derived.Recover
import Derived.Test.YtmlmiiejifhfeaaWWords
import Derived.Test.YtmlmiiejifhfeaaWLast
import Derived.Test.YtmlmiiejifhfeaaWTab
import Derived.Test.YtmlmiiejifhfeaaWFour
import Derived.Test.YtmlmiiejifhfeaaWQPut
import Derived.Test.YtmlmiiejifhfeaaWApart
import Derived.Test.YtmlmiiejifhfeaaWArr
import Derived.Test.YtmlmiiejifhfeaaWZeros
import Derived.Test.YtmlmiiejifhfeaaWFoot
import Derived.Test.YtmlmiiejifhfeaaWKept
import Derived.Test.YtmlmiiejifhfeaaWShare
import Derived.Test.YtmlmiiejifhfeaaWN
import Derived.Test.YtmlmiiejifhfeaaWFootNe
import Derived.Test.YtmlmiiejifhfeaaWAt
import Derived.Test.YtmlmiiejifhfeaaWEqStruct
import Derived.Test.YtmlmiiejifhfeaaWRepsOne
import Derived.Test.YtmlmiiejifhfeaaWInv
import Derived.Test.YtmlmiiejifhfeaaWInvWords
import Derived.Test.YtmlmiiejifhfeaaWGuard
import Derived.Test.YtmlmiiejifhfeaaWNEv
import Derived.Test.YtmlmiiejifhfeaaWMore
import Derived.Test.YtmlmiiejifhfeaaMyWords
namespace Go.Proofs.Ytmlmiiejifhfeaa.PA
open Go.RowKit Go.Proofs.YtmlmiiejifhfeaaW.PrintWords Go.Proofs.YtmlmiiejifhfeaaW.PrintLast Go.Proofs.YtmlmiiejifhfeaaW.PrintMore
attribute [local go_sem] max2_int min2_int max_two min_two max_three min_three max_four min_four   -- for this text's walks alone
set_option linter.unusedVariables false
set_option linter.unusedSimpArgs false



def errW : Option Int → Value
 | none => .nilIface
 | some c => .iface 0 (.int .i64 c)
theorem errW_none : errW none = .nilIface := rfl
theorem errW_some (c : Int) : errW (some c) = .iface 0 (.int .i64 c) := rfl

theorem info5 : (Try.prog.info? 5).map (fun i => (i.zero, i.size, i.bytes)) = some (some (.int .u8 0), 1, 1) := by kernel_rfl
theorem info25 : (Try.prog.info? 25).map (fun i => (i.zero, i.size, i.bytes)) = some (some (.int .u16 0), 1, 2) := by kernel_rfl
theorem info28 : (Try.prog.info? 28).map (fun i => (i.zero, i.size, i.bytes)) = some (some (.int .u32 0), 1, 4) := by kernel_rfl
-- the values' own types
def rd_L2 (xs : List (List Int)) (i : Int) : (List Int) := xs.getD i.toNat ([] : List Int)
theorem at_L2 {w : World} {A : Option Addr} {n : Nat} {xs : List (List Int)} (h : Kd.C (Kd.slice 5 (Kd.int .u8)) w A n xs) (i : Int) (h0 : 0 ≤ i) (h1 : i < n) : ∃ ad A0 c0, A = some ad ∧ w.cell? (ad.add i.toNat) = some (.slice A0 (rd_L2 xs i).length c0) ∧ (rd_L2 xs i).length ≤ c0 ∧ (Kd.int .u8).C w A0 (rd_L2 xs i).length (rd_L2 xs i) := by
 obtain ⟨ad, c, e, _, hK, hc0⟩ := Kd.C_get h ([] : List Int) i h0 h1
 have hc : ∀ j u, c[j]? = some u → w.cell? (ad.add (i.toNat * 1 + j)) = some u := hc0
 obtain ⟨A0, c0, rfl, l0, g0⟩ := hK
 exact ⟨ad, A0, c0, e, by have hq := hc 0 _ rfl; rwa [Nat.mul_one, Nat.add_zero] at hq, l0, g0⟩

/-! #### struct type 30 -/
structure S30 where
 f0 : Int
 f1 : Int
 f2 : Int
 f3 : Int
 f4 : Int
 f5 : Int
 f6 : Int
 f7 : Int
 f8 : (List Int)
 f9 : (List Int)
def z30 : S30 := ⟨(0 : Int), (0 : Int), (0 : Int), (0 : Int), (0 : Int), (0 : Int), (0 : Int), (0 : Int), ([] : List Int), ([] : List Int)⟩
def k30 : Kd S30 := Kd.iso (Kd.pair (Kd.int .u8) (Kd.pair (Kd.int .u8) (Kd.pair (Kd.int .u8) (Kd.pair (Kd.int .u16) (Kd.pair (Kd.int .u8) (Kd.pair (Kd.int .u16) (Kd.pair (Kd.int .u32) (Kd.pair (Kd.int .u32) (Kd.pair (Kd.slice 5 (Kd.int .u8)) (Kd.slice 5 (Kd.int .u8))))))))))) (fun x : S30 => (x.f0, x.f1, x.f2, x.f3, x.f4, x.f5, x.f6, x.f7, x.f8, x.f9))
theorem k30_open {w : World} {x : S30} {cs : List Value} (h : k30.K w x cs) : ∃ A8 c8 A9 c9, cs = [.int .u8 x.f0, .int .u8 x.f1, .int .u8 x.f2, .int .u16 x.f3, .int .u8 x.f4, .int .u16 x.f5, .int .u32 x.f6, .int .u32 x.f7, .slice A8 x.f8.length c8, .slice A9 x.f9.length c9] ∧ x.f8.length ≤ c8 ∧ (Kd.int .u8).C w A8 x.f8.length x.f8 ∧ x.f9.length ≤ c9 ∧ (Kd.int .u8).C w A9 x.f9.length x.f9 := by
 obtain ⟨_, _, rfl, rfl, ⟨_, _, rfl, rfl, ⟨_, _, rfl, rfl, ⟨_, _, rfl, rfl, ⟨_, _, rfl, rfl, ⟨_, _, rfl, rfl, ⟨_, _, rfl, rfl, ⟨_, _, rfl, rfl, ⟨_, _, rfl, ⟨A8, c8, rfl, l8, g8⟩, ⟨A9, c9, rfl, l9, g9⟩⟩⟩⟩⟩⟩⟩⟩⟩⟩ := h
 exact ⟨A8, c8, A9, c9, rfl, l8, g8, l9, g9⟩
theorem k30_openM {w : World} {base : Nat} {ok : Nat → Prop} {x : S30} {cs : List Value} (h : k30.M w base ok x cs) : ∃ v8 v9, cs = [.int .u8 x.f0, .int .u8 x.f1, .int .u8 x.f2, .int .u16 x.f3, .int .u8 x.f4, .int .u16 x.f5, .int .u32 x.f6, .int .u32 x.f7, v8, v9] ∧ (Kd.int .u8).R 5 w base ok v8 x.f8 ∧ (Kd.int .u8).R 5 w base ok v9 x.f9 := by
 obtain ⟨_, _, rfl, rfl, ⟨_, _, rfl, rfl, ⟨_, _, rfl, rfl, ⟨_, _, rfl, rfl, ⟨_, _, rfl, rfl, ⟨_, _, rfl, rfl, ⟨_, _, rfl, rfl, ⟨_, _, rfl, rfl, ⟨_, _, rfl, ⟨v8, rfl, g8⟩, ⟨v9, rfl, g9⟩⟩⟩⟩⟩⟩⟩⟩⟩⟩ := h
 exact ⟨v8, v9, rfl, g8, g9⟩
theorem k30_mk (w : World) (x : S30) {A8 : Option Addr} {c8 : Nat} (l8 : x.f8.length ≤ c8) (g8 : (Kd.int .u8).C w A8 x.f8.length x.f8) {A9 : Option Addr} {c9 : Nat} (l9 : x.f9.length ≤ c9) (g9 : (Kd.int .u8).C w A9 x.f9.length x.f9) : k30.K w x [.int .u8 x.f0, .int .u8 x.f1, .int .u8 x.f2, .int .u16 x.f3, .int .u8 x.f4, .int .u16 x.f5, .int .u32 x.f6, .int .u32 x.f7, .slice A8 x.f8.length c8, .slice A9 x.f9.length c9] := ⟨[.int .u8 x.f0], [.int .u8 x.f1, .int .u8 x.f2, .int .u16 x.f3, .int .u8 x.f4, .int .u16 x.f5, .int .u32 x.f6, .int .u32 x.f7, .slice A8 x.f8.length c8, .slice A9 x.f9.length c9], rfl, rfl, ⟨[.int .u8 x.f1], [.int .u8 x.f2, .int .u16 x.f3, .int .u8 x.f4, .int .u16 x.f5, .int .u32 x.f6, .int .u32 x.f7, .slice A8 x.f8.length c8, .slice A9 x.f9.length c9], rfl, rfl, ⟨[.int .u8 x.f2], [.int .u16 x.f3, .int .u8 x.f4, .int .u16 x.f5, .int .u32 x.f6, .int .u32 x.f7, .slice A8 x.f8.length c8, .slice A9 x.f9.length c9], rfl, rfl, ⟨[.int .u16 x.f3], [.int .u8 x.f4, .int .u16 x.f5, .int .u32 x.f6, .int .u32 x.f7, .slice A8 x.f8.length c8, .slice A9 x.f9.length c9], rfl, rfl, ⟨[.int .u8 x.f4], [.int .u16 x.f5, .int .u32 x.f6, .int .u32 x.f7, .slice A8 x.f8.length c8, .slice A9 x.f9.length c9], rfl, rfl, ⟨[.int .u16 x.f5], [.int .u32 x.f6, .int .u32 x.f7, .slice A8 x.f8.length c8, .slice A9 x.f9.length c9], rfl, rfl, ⟨[.int .u32 x.f6], [.int .u32 x.f7, .slice A8 x.f8.length c8, .slice A9 x.f9.length c9], rfl, rfl, ⟨[.int .u32 x.f7], [.slice A8 x.f8.length c8, .slice A9 x.f9.length c9], rfl, rfl, ⟨[.slice A8 x.f8.length c8], [.slice A9 x.f9.length c9], rfl, ⟨A8, c8, rfl, l8, g8⟩, ⟨A9, c9, rfl, l9, g9⟩⟩⟩⟩⟩⟩⟩⟩⟩⟩
theorem k30_mkM (w : World) (base : Nat) (ok : Nat → Prop) (x : S30) {v8 : Value} (g8 : (Kd.int .u8).R 5 w base ok v8 x.f8) {v9 : Value} (g9 : (Kd.int .u8).R 5 w base ok v9 x.f9) : k30.M w base ok x [.int .u8 x.f0, .int .u8 x.f1, .int .u8 x.f2, .int .u16 x.f3, .int .u8 x.f4, .int .u16 x.f5, .int .u32 x.f6, .int .u32 x.f7, v8, v9] := ⟨[.int .u8 x.f0], [.int .u8 x.f1, .int .u8 x.f2, .int .u16 x.f3, .int .u8 x.f4, .int .u16 x.f5, .int .u32 x.f6, .int .u32 x.f7, v8, v9], rfl, rfl, ⟨[.int .u8 x.f1], [.int .u8 x.f2, .int .u16 x.f3, .int .u8 x.f4, .int .u16 x.f5, .int .u32 x.f6, .int .u32 x.f7, v8, v9], rfl, rfl, ⟨[.int .u8 x.f2], [.int .u16 x.f3, .int .u8 x.f4, .int .u16 x.f5, .int .u32 x.f6, .int .u32 x.f7, v8, v9], rfl, rfl, ⟨[.int .u16 x.f3], [.int .u8 x.f4, .int .u16 x.f5, .int .u32 x.f6, .int .u32 x.f7, v8, v9], rfl, rfl, ⟨[.int .u8 x.f4], [.int .u16 x.f5, .int .u32 x.f6, .int .u32 x.f7, v8, v9], rfl, rfl, ⟨[.int .u16 x.f5], [.int .u32 x.f6, .int .u32 x.f7, v8, v9], rfl, rfl, ⟨[.int .u32 x.f6], [.int .u32 x.f7, v8, v9], rfl, rfl, ⟨[.int .u32 x.f7], [v8, v9], rfl, rfl, ⟨[v8], [v9], rfl, ⟨v8, rfl, g8⟩, ⟨v9, rfl, g9⟩⟩⟩⟩⟩⟩⟩⟩⟩⟩
def rd_T30 (xs : List S30) (i : Int) : S30 := xs.getD i.toNat z30
theorem at_T30 {w : World} {A : Option Addr} {n : Nat} {xs : List S30} (h : Kd.C k30 w A n xs) (i : Int) (h0 : 0 ≤ i) (h1 : i < n) : ∃ ad A8 c8 A9 c9, A = some ad ∧ w.cell? (ad.add (i.toNat * 10)) = some (.int .u8 (rd_T30 xs i).f0) ∧ w.cell? ⟨(ad.add (i.toNat * 10)).block, (ad.add (i.toNat * 10)).off + 1, none⟩ = some (.int .u8 (rd_T30 xs i).f1) ∧ w.cell? ⟨(ad.add (i.toNat * 10)).block, (ad.add (i.toNat * 10)).off + 2, none⟩ = some (.int .u8 (rd_T30 xs i).f2) ∧ w.cell? ⟨(ad.add (i.toNat * 10)).block, (ad.add (i.toNat * 10)).off + 3, none⟩ = some (.int .u16 (rd_T30 xs i).f3) ∧ w.cell? ⟨(ad.add (i.toNat * 10)).block, (ad.add (i.toNat * 10)).off + 4, none⟩ = some (.int .u8 (rd_T30 xs i).f4) ∧ w.cell? ⟨(ad.add (i.toNat * 10)).block, (ad.add (i.toNat * 10)).off + 5, none⟩ = some (.int .u16 (rd_T30 xs i).f5) ∧ w.cell? ⟨(ad.add (i.toNat * 10)).block, (ad.add (i.toNat * 10)).off + 6, none⟩ = some (.int .u32 (rd_T30 xs i).f6) ∧ w.cell? ⟨(ad.add (i.toNat * 10)).block, (ad.add (i.toNat * 10)).off + 7, none⟩ = some (.int .u32 (rd_T30 xs i).f7) ∧ w.cell? ⟨(ad.add (i.toNat * 10)).block, (ad.add (i.toNat * 10)).off + 8, none⟩ = some (.slice A8 (rd_T30 xs i).f8.length c8) ∧ w.cell? ⟨(ad.add (i.toNat * 10)).block, (ad.add (i.toNat * 10)).off + 9, none⟩ = some (.slice A9 (rd_T30 xs i).f9.length c9) ∧ (rd_T30 xs i).f8.length ≤ c8 ∧ (Kd.int .u8).C w A8 (rd_T30 xs i).f8.length (rd_T30 xs i).f8 ∧ (rd_T30 xs i).f9.length ≤ c9 ∧ (Kd.int .u8).C w A9 (rd_T30 xs i).f9.length (rd_T30 xs i).f9 := by
 obtain ⟨ad, c, e, _, hK, hc0⟩ := Kd.C_get h z30 i h0 h1
 have hc : ∀ j u, c[j]? = some u → w.cell? (ad.add (i.toNat * 10 + j)) = some u := hc0
 obtain ⟨A8, c8, A9, c9, rfl, l8, g8, l9, g9⟩ := k30_open hK
 exact ⟨ad, A8, c8, A9, c9, e, hc 0 _ rfl, by rw [← add_field _ _ 1 (by omega)]; exact hc 1 _ rfl, by rw [← add_field _ _ 2 (by omega)]; exact hc 2 _ rfl, by rw [← add_field _ _ 3 (by omega)]; exact hc 3 _ rfl, by rw [← add_field _ _ 4 (by omega)]; exact hc 4 _ rfl, by rw [← add_field _ _ 5 (by omega)]; exact hc 5 _ rfl, by rw [← add_field _ _ 6 (by omega)]; exact hc 6 _ rfl, by rw [← add_field _ _ 7 (by omega)]; exact hc 7 _ rfl, by rw [← add_field _ _ 8 (by omega)]; exact hc 8 _ rfl, by rw [← add_field _ _ 9 (by omega)]; exact hc 9 _ rfl, l8, g8, l9, g9⟩

end Go.Proofs.Ytmlmiiejifhfeaa.PA
