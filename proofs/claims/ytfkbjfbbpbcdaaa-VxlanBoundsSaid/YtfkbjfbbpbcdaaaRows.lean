/-
  No cell of these rows narrows 'for every input' (looked for: loops, veiled, ifaces, maps, wideKeys, modest, calm, conditions, laid).
  DERIVED. THE GIVEN ROWS OF THIS SEAT. 11 by the template 'for every input the law returns true; each argument reads behind the call as it read before'; 0 by the template 'total and deterministic' (their statements: YtfkbjfbbpbcdaaaTotals.lean).
  GIVEN WITH THE SEED: the statements are not yours to turn. If you find one false, say at which input.
  Laid BY PROGRAM, IN A SANDBOX (cutbox-rows.mjs): the forced cells as the released guide's own fill.sh prints them over the translation b4657b2df98563ee… (all of the seat's roots in one cut). By AI agents, Wed Nov 11 2026. No macro, syntax, notation, axiom, sorry.
-/
import Derived.Test.YtfkbjfbbpbcdaaaChecked
import GoSem.Claim
import GoSem.ClaimJoined
import GoSem.ClaimMapViews
import Derived.JoinedTies
import Derived.KernelRfl
namespace Go.Proofs.Ytfkbjfbbpbcdaaa
/- THE CELL 'sum', in the pinned program and in every row, IS THE sha256 OF THE DUMP (.gsa) THAT YtfkbjfbbpbcdaaaProg.lean LOADS. Nothing in Lean hashes anything: it is a label: what it is worth is what the hold of that sum in a sandbox is worth. -/
noncomputable def Try.pinned : Pinned := { name := "ytfkbjfbbpbcdaaa", sum := "b4657b2df98563eeb3b31b5828b25f6d4e5ae290b2fe233f6b9ae7f61a025ab9", checked := Try.checked }
namespace Rows
def none {H : Type} : Left H := { results := [], args := [] }

/-- 'lychlaw7.VxlanReads': WHATEVER THE INPUT: true; the input reads as it did. -/
def vxlanReadsSpec : ChangeSpec := { name := "vxlanReads", fn := fun _ => fun
  | [d] => { results := [.lit (.bool true)], args := [d] }
  | _ => none }
def vxlanReadsRow : OpenClaim := { program := "ytfkbjfbbpbcdaaa", sum := "b4657b2df98563eeb3b31b5828b25f6d4e5ae290b2fe233f6b9ae7f61a025ab9", func := "lych/lychlaw7.VxlanReads", spec := "vxlanReads", apart := false }
def VxlanReadsSaid : Prop := vxlanReadsRow.holds Try.pinned (OpenSpec.ofChange vxlanReadsSpec)

/-- ITS FALSE NEIGHBOUR: 'it returns false'. Refute it at one input. -/
def vxlanReadsWrong : ChangeSpec := { name := "vxlanReads", fn := fun _ => fun
  | [d] => { results := [.lit (.bool false)], args := [d] }
  | _ => none }
def VxlanReadsWrongFalsely : Prop := vxlanReadsRow.holds Try.pinned (OpenSpec.ofChange vxlanReadsWrong)

/-- 'lychlaw7.VxlanBits': WHATEVER THE INPUT: true; the input reads as it did. -/
def vxlanBitsSpec : ChangeSpec := { name := "vxlanBits", fn := fun _ => fun
  | [d1, d2, d3, d4, d5, d6] => { results := [.lit (.bool true)], args := [d1, d2, d3, d4, d5, d6] }
  | _ => none }
def vxlanBitsRow : OpenClaim := { program := "ytfkbjfbbpbcdaaa", sum := "b4657b2df98563eeb3b31b5828b25f6d4e5ae290b2fe233f6b9ae7f61a025ab9", func := "lych/lychlaw7.VxlanBits", spec := "vxlanBits", apart := false }
def VxlanBitsSaid : Prop := vxlanBitsRow.holds Try.pinned (OpenSpec.ofChange vxlanBitsSpec)

/-- ITS FALSE NEIGHBOUR: 'it returns false'. Refute it at one input. -/
def vxlanBitsWrong : ChangeSpec := { name := "vxlanBits", fn := fun _ => fun
  | [d1, d2, d3, d4, d5, d6] => { results := [.lit (.bool false)], args := [d1, d2, d3, d4, d5, d6] }
  | _ => none }
def VxlanBitsWrongFalsely : Prop := vxlanBitsRow.holds Try.pinned (OpenSpec.ofChange vxlanBitsWrong)

/-- 'lychlaw7.VxlanBack': WHATEVER THE INPUT: true; the input reads as it did. -/
def vxlanBackSpec : ChangeSpec := { name := "vxlanBack", fn := fun _ => fun
  | [d1, d2, d3] => { results := [.lit (.bool true)], args := [d1, d2, d3] }
  | _ => none }
def vxlanBackRow : OpenClaim := { program := "ytfkbjfbbpbcdaaa", sum := "b4657b2df98563eeb3b31b5828b25f6d4e5ae290b2fe233f6b9ae7f61a025ab9", func := "lych/lychlaw7.VxlanBack", spec := "vxlanBack", apart := false }
def VxlanBackSaid : Prop := vxlanBackRow.holds Try.pinned (OpenSpec.ofChange vxlanBackSpec)

/-- ITS FALSE NEIGHBOUR: 'it returns false'. Refute it at one input. -/
def vxlanBackWrong : ChangeSpec := { name := "vxlanBack", fn := fun _ => fun
  | [d1, d2, d3] => { results := [.lit (.bool false)], args := [d1, d2, d3] }
  | _ => none }
def VxlanBackWrongFalsely : Prop := vxlanBackRow.holds Try.pinned (OpenSpec.ofChange vxlanBackWrong)

/-- 'lychlaw7.VxlanBounds': WHATEVER THE INPUT: true; the input reads as it did. -/
def vxlanBoundsSpec : ChangeSpec := { name := "vxlanBounds", fn := fun _ => fun
  | [d1, d2] => { results := [.lit (.bool true)], args := [d1, d2] }
  | _ => none }
def vxlanBoundsRow : OpenClaim := { program := "ytfkbjfbbpbcdaaa", sum := "b4657b2df98563eeb3b31b5828b25f6d4e5ae290b2fe233f6b9ae7f61a025ab9", func := "lych/lychlaw7.VxlanBounds", spec := "vxlanBounds", apart := false }
def VxlanBoundsSaid : Prop := vxlanBoundsRow.holds Try.pinned (OpenSpec.ofChange vxlanBoundsSpec)

/-- ITS FALSE NEIGHBOUR: 'it returns false'. Refute it at one input. -/
def vxlanBoundsWrong : ChangeSpec := { name := "vxlanBounds", fn := fun _ => fun
  | [d1, d2] => { results := [.lit (.bool false)], args := [d1, d2] }
  | _ => none }
def VxlanBoundsWrongFalsely : Prop := vxlanBoundsRow.holds Try.pinned (OpenSpec.ofChange vxlanBoundsWrong)

/-- 'lychlaw1.SumWords': WHATEVER THE INPUT: true; the input reads as it did. -/
def sumWordsSpec : ChangeSpec := { name := "sumWords", fn := fun _ => fun
  | [d1, d2] => { results := [.lit (.bool true)], args := [d1, d2] }
  | _ => none }
def sumWordsRow : OpenClaim := { program := "ytfkbjfbbpbcdaaa", sum := "b4657b2df98563eeb3b31b5828b25f6d4e5ae290b2fe233f6b9ae7f61a025ab9", func := "lych/lychlaw1.SumWords", spec := "sumWords", apart := false }
def SumWordsSaid : Prop := sumWordsRow.holds Try.pinned (OpenSpec.ofChange sumWordsSpec)

/-- ITS FALSE NEIGHBOUR: 'it returns false'. Refute it at one input. -/
def sumWordsWrong : ChangeSpec := { name := "sumWords", fn := fun _ => fun
  | [d1, d2] => { results := [.lit (.bool false)], args := [d1, d2] }
  | _ => none }
def SumWordsWrongFalsely : Prop := sumWordsRow.holds Try.pinned (OpenSpec.ofChange sumWordsWrong)

/-- 'lychlaw1.SumPseudo': WHATEVER THE INPUT: true; the input reads as it did. -/
def sumPseudoSpec : ChangeSpec := { name := "sumPseudo", fn := fun _ => fun
  | [d1, d2, d3, d4] => { results := [.lit (.bool true)], args := [d1, d2, d3, d4] }
  | _ => none }
def sumPseudoRow : OpenClaim := { program := "ytfkbjfbbpbcdaaa", sum := "b4657b2df98563eeb3b31b5828b25f6d4e5ae290b2fe233f6b9ae7f61a025ab9", func := "lych/lychlaw1.SumPseudo", spec := "sumPseudo", apart := false }
def SumPseudoSaid : Prop := sumPseudoRow.holds Try.pinned (OpenSpec.ofChange sumPseudoSpec)

/-- ITS FALSE NEIGHBOUR: 'it returns false'. Refute it at one input. -/
def sumPseudoWrong : ChangeSpec := { name := "sumPseudo", fn := fun _ => fun
  | [d1, d2, d3, d4] => { results := [.lit (.bool false)], args := [d1, d2, d3, d4] }
  | _ => none }
def SumPseudoWrongFalsely : Prop := sumPseudoRow.holds Try.pinned (OpenSpec.ofChange sumPseudoWrong)

/-- 'lychlaw1.SumChanges': WHATEVER THE INPUT: true; the input reads as it did. -/
def sumChangesSpec : ChangeSpec := { name := "sumChanges", fn := fun _ => fun
  | [d1, d2, d3] => { results := [.lit (.bool true)], args := [d1, d2, d3] }
  | _ => none }
def sumChangesRow : OpenClaim := { program := "ytfkbjfbbpbcdaaa", sum := "b4657b2df98563eeb3b31b5828b25f6d4e5ae290b2fe233f6b9ae7f61a025ab9", func := "lych/lychlaw1.SumChanges", spec := "sumChanges", apart := false }
def SumChangesSaid : Prop := sumChangesRow.holds Try.pinned (OpenSpec.ofChange sumChangesSpec)

/-- ITS FALSE NEIGHBOUR: 'it returns false'. Refute it at one input. -/
def sumChangesWrong : ChangeSpec := { name := "sumChanges", fn := fun _ => fun
  | [d1, d2, d3] => { results := [.lit (.bool false)], args := [d1, d2, d3] }
  | _ => none }
def SumChangesWrongFalsely : Prop := sumChangesRow.holds Try.pinned (OpenSpec.ofChange sumChangesWrong)

/-- 'lychlaw1.SumStands': WHATEVER THE INPUT: true; the input reads as it did. -/
def sumStandsSpec : ChangeSpec := { name := "sumStands", fn := fun _ => fun
  | [d1, d2] => { results := [.lit (.bool true)], args := [d1, d2] }
  | _ => none }
def sumStandsRow : OpenClaim := { program := "ytfkbjfbbpbcdaaa", sum := "b4657b2df98563eeb3b31b5828b25f6d4e5ae290b2fe233f6b9ae7f61a025ab9", func := "lych/lychlaw1.SumStands", spec := "sumStands", apart := false }
def SumStandsSaid : Prop := sumStandsRow.holds Try.pinned (OpenSpec.ofChange sumStandsSpec)

/-- ITS FALSE NEIGHBOUR: 'it returns false'. Refute it at one input. -/
def sumStandsWrong : ChangeSpec := { name := "sumStands", fn := fun _ => fun
  | [d1, d2] => { results := [.lit (.bool false)], args := [d1, d2] }
  | _ => none }
def SumStandsWrongFalsely : Prop := sumStandsRow.holds Try.pinned (OpenSpec.ofChange sumStandsWrong)

/-- 'lychlaw1.SumParts': WHATEVER THE INPUT: true; the input reads as it did. -/
def sumPartsSpec : ChangeSpec := { name := "sumParts", fn := fun _ => fun
  | [d1, d2, d3] => { results := [.lit (.bool true)], args := [d1, d2, d3] }
  | _ => none }
def sumPartsRow : OpenClaim := { program := "ytfkbjfbbpbcdaaa", sum := "b4657b2df98563eeb3b31b5828b25f6d4e5ae290b2fe233f6b9ae7f61a025ab9", func := "lych/lychlaw1.SumParts", spec := "sumParts", apart := false }
def SumPartsSaid : Prop := sumPartsRow.holds Try.pinned (OpenSpec.ofChange sumPartsSpec)

/-- ITS FALSE NEIGHBOUR: 'it returns false'. Refute it at one input. -/
def sumPartsWrong : ChangeSpec := { name := "sumParts", fn := fun _ => fun
  | [d1, d2, d3] => { results := [.lit (.bool false)], args := [d1, d2, d3] }
  | _ => none }
def SumPartsWrongFalsely : Prop := sumPartsRow.holds Try.pinned (OpenSpec.ofChange sumPartsWrong)

/-- 'lychlaw1.SumOdd': WHATEVER THE INPUT: true; the input reads as it did. -/
def sumOddSpec : ChangeSpec := { name := "sumOdd", fn := fun _ => fun
  | [d1, d2] => { results := [.lit (.bool true)], args := [d1, d2] }
  | _ => none }
def sumOddRow : OpenClaim := { program := "ytfkbjfbbpbcdaaa", sum := "b4657b2df98563eeb3b31b5828b25f6d4e5ae290b2fe233f6b9ae7f61a025ab9", func := "lych/lychlaw1.SumOdd", spec := "sumOdd", apart := false }
def SumOddSaid : Prop := sumOddRow.holds Try.pinned (OpenSpec.ofChange sumOddSpec)

/-- ITS FALSE NEIGHBOUR: 'it returns false'. Refute it at one input. -/
def sumOddWrong : ChangeSpec := { name := "sumOdd", fn := fun _ => fun
  | [d1, d2] => { results := [.lit (.bool false)], args := [d1, d2] }
  | _ => none }
def SumOddWrongFalsely : Prop := sumOddRow.holds Try.pinned (OpenSpec.ofChange sumOddWrong)

/-- 'lychlaw1.SumSwaps': WHATEVER THE INPUT: true; the input reads as it did. -/
def sumSwapsSpec : ChangeSpec := { name := "sumSwaps", fn := fun _ => fun
  | [d1, d2, d3] => { results := [.lit (.bool true)], args := [d1, d2, d3] }
  | _ => none }
def sumSwapsRow : OpenClaim := { program := "ytfkbjfbbpbcdaaa", sum := "b4657b2df98563eeb3b31b5828b25f6d4e5ae290b2fe233f6b9ae7f61a025ab9", func := "lych/lychlaw1.SumSwaps", spec := "sumSwaps", apart := false }
def SumSwapsSaid : Prop := sumSwapsRow.holds Try.pinned (OpenSpec.ofChange sumSwapsSpec)

/-- ITS FALSE NEIGHBOUR: 'it returns false'. Refute it at one input. -/
def sumSwapsWrong : ChangeSpec := { name := "sumSwaps", fn := fun _ => fun
  | [d1, d2, d3] => { results := [.lit (.bool false)], args := [d1, d2, d3] }
  | _ => none }
def SumSwapsWrongFalsely : Prop := sumSwapsRow.holds Try.pinned (OpenSpec.ofChange sumSwapsWrong)

/- THE SECOND FORM. 'bulk': how many values and letters a reading holds, each counted each time it is reached (what is shared counts as often as it is met; a slice's spare places count too). A statement '..UptoSaid' is the law's where the arguments, and the package variables that the reading takes, are together of bulk at most 1048576: NARROWER than '..Said'. Prove '..Said' where nothing that the law and all that it calls make is longer than what came in: it says more and counts as full. Else prove '..UptoSaid'. A law counts once. -/
mutual
def uptoBulk {H : Type} : DataW H → Nat
  | .lit (.string bytes) => bytes.length + 1
  | .lit _ => 1
  | .nil => 1
  | .ptr d => uptoBulk d + 1
  | .slice elems spare => uptoBulkAll elems + uptoBulkAll spare + 1
  | .agg parts => uptoBulkAll parts + 1
  | .iface _ d => uptoBulk d + 1
  | .map entries => uptoBulkEntries entries + 1
  | .held _ => 1
def uptoBulkAll {H : Type} : List (DataW H) → Nat
  | [] => 0
  | d :: r => uptoBulk d + uptoBulkAll r
def uptoBulkEntries {H : Type} : List (Lit × DataW H) → Nat
  | [] => 0
  | x :: r => uptoBulkEntry x + uptoBulkEntries r
def uptoBulkEntry {H : Type} : Lit × DataW H → Nat
  | (.string bytes, d) => bytes.length + uptoBulk d + 1
  | (_, d) => uptoBulk d + 1
 end
def uptoSmall : (H : Type) → List (DataW H) → Bool := fun _ ds => decide (uptoBulkAll ds ≤ 1048576)
def OpenSpec.upto (s : _root_.Go.ChangeSpec) : _root_.Go.OpenSpec := { _root_.Go.OpenSpec.ofChange s with cond := some uptoSmall }

/-- 'lychlaw7.VxlanReads', WHERE WHAT IT READS IS OF BULK AT MOST 1048576: true; the input reads as it did. -/
def vxlanReadsUptoRow : OpenClaim := { program := "ytfkbjfbbpbcdaaa", sum := "b4657b2df98563eeb3b31b5828b25f6d4e5ae290b2fe233f6b9ae7f61a025ab9", func := "lych/lychlaw7.VxlanReads", spec := "vxlanReads", apart := false, narrowed := true }
def VxlanReadsUptoSaid : Prop := vxlanReadsUptoRow.holds Try.pinned (OpenSpec.upto vxlanReadsSpec)

/-- 'lychlaw7.VxlanBits', WHERE WHAT IT READS IS OF BULK AT MOST 1048576: true; the input reads as it did. -/
def vxlanBitsUptoRow : OpenClaim := { program := "ytfkbjfbbpbcdaaa", sum := "b4657b2df98563eeb3b31b5828b25f6d4e5ae290b2fe233f6b9ae7f61a025ab9", func := "lych/lychlaw7.VxlanBits", spec := "vxlanBits", apart := false, narrowed := true }
def VxlanBitsUptoSaid : Prop := vxlanBitsUptoRow.holds Try.pinned (OpenSpec.upto vxlanBitsSpec)

/-- 'lychlaw7.VxlanBack', WHERE WHAT IT READS IS OF BULK AT MOST 1048576: true; the input reads as it did. -/
def vxlanBackUptoRow : OpenClaim := { program := "ytfkbjfbbpbcdaaa", sum := "b4657b2df98563eeb3b31b5828b25f6d4e5ae290b2fe233f6b9ae7f61a025ab9", func := "lych/lychlaw7.VxlanBack", spec := "vxlanBack", apart := false, narrowed := true }
def VxlanBackUptoSaid : Prop := vxlanBackUptoRow.holds Try.pinned (OpenSpec.upto vxlanBackSpec)

/-- 'lychlaw7.VxlanBounds', WHERE WHAT IT READS IS OF BULK AT MOST 1048576: true; the input reads as it did. -/
def vxlanBoundsUptoRow : OpenClaim := { program := "ytfkbjfbbpbcdaaa", sum := "b4657b2df98563eeb3b31b5828b25f6d4e5ae290b2fe233f6b9ae7f61a025ab9", func := "lych/lychlaw7.VxlanBounds", spec := "vxlanBounds", apart := false, narrowed := true }
def VxlanBoundsUptoSaid : Prop := vxlanBoundsUptoRow.holds Try.pinned (OpenSpec.upto vxlanBoundsSpec)

/-- 'lychlaw1.SumWords', WHERE WHAT IT READS IS OF BULK AT MOST 1048576: true; the input reads as it did. -/
def sumWordsUptoRow : OpenClaim := { program := "ytfkbjfbbpbcdaaa", sum := "b4657b2df98563eeb3b31b5828b25f6d4e5ae290b2fe233f6b9ae7f61a025ab9", func := "lych/lychlaw1.SumWords", spec := "sumWords", apart := false, narrowed := true }
def SumWordsUptoSaid : Prop := sumWordsUptoRow.holds Try.pinned (OpenSpec.upto sumWordsSpec)

/-- 'lychlaw1.SumPseudo', WHERE WHAT IT READS IS OF BULK AT MOST 1048576: true; the input reads as it did. -/
def sumPseudoUptoRow : OpenClaim := { program := "ytfkbjfbbpbcdaaa", sum := "b4657b2df98563eeb3b31b5828b25f6d4e5ae290b2fe233f6b9ae7f61a025ab9", func := "lych/lychlaw1.SumPseudo", spec := "sumPseudo", apart := false, narrowed := true }
def SumPseudoUptoSaid : Prop := sumPseudoUptoRow.holds Try.pinned (OpenSpec.upto sumPseudoSpec)

/-- 'lychlaw1.SumChanges', WHERE WHAT IT READS IS OF BULK AT MOST 1048576: true; the input reads as it did. -/
def sumChangesUptoRow : OpenClaim := { program := "ytfkbjfbbpbcdaaa", sum := "b4657b2df98563eeb3b31b5828b25f6d4e5ae290b2fe233f6b9ae7f61a025ab9", func := "lych/lychlaw1.SumChanges", spec := "sumChanges", apart := false, narrowed := true }
def SumChangesUptoSaid : Prop := sumChangesUptoRow.holds Try.pinned (OpenSpec.upto sumChangesSpec)

/-- 'lychlaw1.SumStands', WHERE WHAT IT READS IS OF BULK AT MOST 1048576: true; the input reads as it did. -/
def sumStandsUptoRow : OpenClaim := { program := "ytfkbjfbbpbcdaaa", sum := "b4657b2df98563eeb3b31b5828b25f6d4e5ae290b2fe233f6b9ae7f61a025ab9", func := "lych/lychlaw1.SumStands", spec := "sumStands", apart := false, narrowed := true }
def SumStandsUptoSaid : Prop := sumStandsUptoRow.holds Try.pinned (OpenSpec.upto sumStandsSpec)

/-- 'lychlaw1.SumParts', WHERE WHAT IT READS IS OF BULK AT MOST 1048576: true; the input reads as it did. -/
def sumPartsUptoRow : OpenClaim := { program := "ytfkbjfbbpbcdaaa", sum := "b4657b2df98563eeb3b31b5828b25f6d4e5ae290b2fe233f6b9ae7f61a025ab9", func := "lych/lychlaw1.SumParts", spec := "sumParts", apart := false, narrowed := true }
def SumPartsUptoSaid : Prop := sumPartsUptoRow.holds Try.pinned (OpenSpec.upto sumPartsSpec)

/-- 'lychlaw1.SumOdd', WHERE WHAT IT READS IS OF BULK AT MOST 1048576: true; the input reads as it did. -/
def sumOddUptoRow : OpenClaim := { program := "ytfkbjfbbpbcdaaa", sum := "b4657b2df98563eeb3b31b5828b25f6d4e5ae290b2fe233f6b9ae7f61a025ab9", func := "lych/lychlaw1.SumOdd", spec := "sumOdd", apart := false, narrowed := true }
def SumOddUptoSaid : Prop := sumOddUptoRow.holds Try.pinned (OpenSpec.upto sumOddSpec)

/-- 'lychlaw1.SumSwaps', WHERE WHAT IT READS IS OF BULK AT MOST 1048576: true; the input reads as it did. -/
def sumSwapsUptoRow : OpenClaim := { program := "ytfkbjfbbpbcdaaa", sum := "b4657b2df98563eeb3b31b5828b25f6d4e5ae290b2fe233f6b9ae7f61a025ab9", func := "lych/lychlaw1.SumSwaps", spec := "sumSwaps", apart := false, narrowed := true }
def SumSwapsUptoSaid : Prop := sumSwapsUptoRow.holds Try.pinned (OpenSpec.upto sumSwapsSpec)

end Rows
end Go.Proofs.Ytfkbjfbbpbcdaaa
