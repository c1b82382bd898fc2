/-
  No cell of these rows narrows 'for every input' (looked for: loops, veiled, ifaces, maps, wideKeys, modest, calm, conditions, laid).
  DERIVED. THE GIVEN ROWS OF THIS SEAT. 6 by the template 'for every input the law returns true; each argument reads behind the call as it read before'; 0 by the template 'total and deterministic' (their statements: YtmlmiiejifhfeaaTotals.lean).
  GIVEN WITH THE SEED: the statements are not yours to turn. If you find one false, say at which input.
  Laid BY PROGRAM, IN A SANDBOX (cutbox-rows.mjs): the forced cells as the released guide's own fill.sh prints them over the translation 7a6549bebea3eaef… (all of the seat's roots in one cut). By AI agents, Wed Nov 11 2026. No macro, syntax, notation, axiom, sorry.
-/
import Derived.Test.YtmlmiiejifhfeaaChecked
import GoSem.Claim
import GoSem.ClaimJoined
import GoSem.ClaimMapViews
import Derived.JoinedTies
import Derived.KernelRfl
namespace Go.Proofs.Ytmlmiiejifhfeaa
/- THE CELL 'sum', in the pinned program and in every row, IS THE sha256 OF THE DUMP (.gsa) THAT YtmlmiiejifhfeaaProg.lean LOADS. Nothing in Lean hashes anything: it is a label: what it is worth is what the hold of that sum in a sandbox is worth. -/
noncomputable def Try.pinned : Pinned := { name := "ytmlmiiejifhfeaa", sum := "7a6549bebea3eaef6b0d2474e96323be28f396e10ecb5a6a3079a105dcac9add", checked := Try.checked }
namespace Rows
def none {H : Type} : Left H := { results := [], args := [] }

/-- 'lychlaw3.IpReads': WHATEVER THE INPUT: true; the input reads as it did. -/
def ipReadsSpec : ChangeSpec := { name := "ipReads", fn := fun _ => fun
  | [d1, d2] => { results := [.lit (.bool true)], args := [d1, d2] }
  | _ => none }
def ipReadsRow : OpenClaim := { program := "ytmlmiiejifhfeaa", sum := "7a6549bebea3eaef6b0d2474e96323be28f396e10ecb5a6a3079a105dcac9add", func := "lych/lychlaw3.IpReads", spec := "ipReads", unfollowed := true, recurses := true, apart := false }
def IpReadsSaid : Prop := ipReadsRow.holds Try.pinned (OpenSpec.ofChange ipReadsSpec)

/-- ITS FALSE NEIGHBOUR: 'it returns false'. Refute it at one input. -/
def ipReadsWrong : ChangeSpec := { name := "ipReads", fn := fun _ => fun
  | [d1, d2] => { results := [.lit (.bool false)], args := [d1, d2] }
  | _ => none }
def IpReadsWrongFalsely : Prop := ipReadsRow.holds Try.pinned (OpenSpec.ofChange ipReadsWrong)

/-- 'lychlaw3.IpBack': WHATEVER THE INPUT: true; the input reads as it did. -/
def ipBackSpec : ChangeSpec := { name := "ipBack", fn := fun _ => fun
  | [d1, d2] => { results := [.lit (.bool true)], args := [d1, d2] }
  | _ => none }
def ipBackRow : OpenClaim := { program := "ytmlmiiejifhfeaa", sum := "7a6549bebea3eaef6b0d2474e96323be28f396e10ecb5a6a3079a105dcac9add", func := "lych/lychlaw3.IpBack", spec := "ipBack", unfollowed := true, recurses := true, apart := false }
def IpBackSaid : Prop := ipBackRow.holds Try.pinned (OpenSpec.ofChange ipBackSpec)

/-- ITS FALSE NEIGHBOUR: 'it returns false'. Refute it at one input. -/
def ipBackWrong : ChangeSpec := { name := "ipBack", fn := fun _ => fun
  | [d1, d2] => { results := [.lit (.bool false)], args := [d1, d2] }
  | _ => none }
def IpBackWrongFalsely : Prop := ipBackRow.holds Try.pinned (OpenSpec.ofChange ipBackWrong)

/-- 'lychlaw3.IpBits': WHATEVER THE INPUT: true; the input reads as it did. -/
def ipBitsSpec : ChangeSpec := { name := "ipBits", fn := fun _ => fun
  | [d1, d2, d3] => { results := [.lit (.bool true)], args := [d1, d2, d3] }
  | _ => none }
def ipBitsRow : OpenClaim := { program := "ytmlmiiejifhfeaa", sum := "7a6549bebea3eaef6b0d2474e96323be28f396e10ecb5a6a3079a105dcac9add", func := "lych/lychlaw3.IpBits", spec := "ipBits", unfollowed := true, recurses := true, apart := false }
def IpBitsSaid : Prop := ipBitsRow.holds Try.pinned (OpenSpec.ofChange ipBitsSpec)

/-- ITS FALSE NEIGHBOUR: 'it returns false'. Refute it at one input. -/
def ipBitsWrong : ChangeSpec := { name := "ipBits", fn := fun _ => fun
  | [d1, d2, d3] => { results := [.lit (.bool false)], args := [d1, d2, d3] }
  | _ => none }
def IpBitsWrongFalsely : Prop := ipBitsRow.holds Try.pinned (OpenSpec.ofChange ipBitsWrong)

/-- 'lychlaw3.IpGreat': WHATEVER THE INPUT: true; the input reads as it did. -/
def ipGreatSpec : ChangeSpec := { name := "ipGreat", fn := fun _ => fun
  | [d1, d2] => { results := [.lit (.bool true)], args := [d1, d2] }
  | _ => none }
def ipGreatRow : OpenClaim := { program := "ytmlmiiejifhfeaa", sum := "7a6549bebea3eaef6b0d2474e96323be28f396e10ecb5a6a3079a105dcac9add", func := "lych/lychlaw3.IpGreat", spec := "ipGreat", unfollowed := true, recurses := true, apart := false }
def IpGreatSaid : Prop := ipGreatRow.holds Try.pinned (OpenSpec.ofChange ipGreatSpec)

/-- ITS FALSE NEIGHBOUR: 'it returns false'. Refute it at one input. -/
def ipGreatWrong : ChangeSpec := { name := "ipGreat", fn := fun _ => fun
  | [d1, d2] => { results := [.lit (.bool false)], args := [d1, d2] }
  | _ => none }
def IpGreatWrongFalsely : Prop := ipGreatRow.holds Try.pinned (OpenSpec.ofChange ipGreatWrong)

/-- 'lychlaw3.IpCut': WHATEVER THE INPUT: true; the input reads as it did. -/
def ipCutSpec : ChangeSpec := { name := "ipCut", fn := fun _ => fun
  | [d1, d2, d3] => { results := [.lit (.bool true)], args := [d1, d2, d3] }
  | _ => none }
def ipCutRow : OpenClaim := { program := "ytmlmiiejifhfeaa", sum := "7a6549bebea3eaef6b0d2474e96323be28f396e10ecb5a6a3079a105dcac9add", func := "lych/lychlaw3.IpCut", spec := "ipCut", unfollowed := true, recurses := true, apart := false }
def IpCutSaid : Prop := ipCutRow.holds Try.pinned (OpenSpec.ofChange ipCutSpec)

/-- ITS FALSE NEIGHBOUR: 'it returns false'. Refute it at one input. -/
def ipCutWrong : ChangeSpec := { name := "ipCut", fn := fun _ => fun
  | [d1, d2, d3] => { results := [.lit (.bool false)], args := [d1, d2, d3] }
  | _ => none }
def IpCutWrongFalsely : Prop := ipCutRow.holds Try.pinned (OpenSpec.ofChange ipCutWrong)

/-- 'lychlaw3.IpHeads': WHATEVER THE INPUT: true; the input reads as it did. -/
def ipHeadsSpec : ChangeSpec := { name := "ipHeads", fn := fun _ => fun
  | [d1, d2, d3] => { results := [.lit (.bool true)], args := [d1, d2, d3] }
  | _ => none }
def ipHeadsRow : OpenClaim := { program := "ytmlmiiejifhfeaa", sum := "7a6549bebea3eaef6b0d2474e96323be28f396e10ecb5a6a3079a105dcac9add", func := "lych/lychlaw3.IpHeads", spec := "ipHeads", unfollowed := true, recurses := true, apart := false }
def IpHeadsSaid : Prop := ipHeadsRow.holds Try.pinned (OpenSpec.ofChange ipHeadsSpec)

/-- ITS FALSE NEIGHBOUR: 'it returns false'. Refute it at one input. -/
def ipHeadsWrong : ChangeSpec := { name := "ipHeads", fn := fun _ => fun
  | [d1, d2, d3] => { results := [.lit (.bool false)], args := [d1, d2, d3] }
  | _ => none }
def IpHeadsWrongFalsely : Prop := ipHeadsRow.holds Try.pinned (OpenSpec.ofChange ipHeadsWrong)

/- THE SECOND FORM. 'bulk': how many values and letters a reading holds, each counted each time it is reached (what is shared counts as often as it is met; a slice's spare places count too). A statement '..UptoSaid' is the law's where the arguments, and the package variables that the reading takes, are together of bulk at most 1048576: NARROWER than '..Said'. Prove '..Said' where nothing that the law and all that it calls make is longer than what came in: it says more and counts as full. Else prove '..UptoSaid'. A law counts once. -/
mutual
def uptoBulk {H : Type} : DataW H → Nat
  | .lit (.string bytes) => bytes.length + 1
  | .lit _ => 1
  | .nil => 1
  | .ptr d => uptoBulk d + 1
  | .slice elems spare => uptoBulkAll elems + uptoBulkAll spare + 1
  | .agg parts => uptoBulkAll parts + 1
  | .iface _ d => uptoBulk d + 1
  | .map entries => uptoBulkEntries entries + 1
  | .held _ => 1
def uptoBulkAll {H : Type} : List (DataW H) → Nat
  | [] => 0
  | d :: r => uptoBulk d + uptoBulkAll r
def uptoBulkEntries {H : Type} : List (Lit × DataW H) → Nat
  | [] => 0
  | x :: r => uptoBulkEntry x + uptoBulkEntries r
def uptoBulkEntry {H : Type} : Lit × DataW H → Nat
  | (.string bytes, d) => bytes.length + uptoBulk d + 1
  | (_, d) => uptoBulk d + 1
 end
def uptoSmall : (H : Type) → List (DataW H) → Bool := fun _ ds => decide (uptoBulkAll ds ≤ 1048576)
def OpenSpec.upto (s : _root_.Go.ChangeSpec) : _root_.Go.OpenSpec := { _root_.Go.OpenSpec.ofChange s with cond := some uptoSmall }

/-- 'lychlaw3.IpReads', WHERE WHAT IT READS IS OF BULK AT MOST 1048576: true; the input reads as it did. -/
def ipReadsUptoRow : OpenClaim := { program := "ytmlmiiejifhfeaa", sum := "7a6549bebea3eaef6b0d2474e96323be28f396e10ecb5a6a3079a105dcac9add", func := "lych/lychlaw3.IpReads", spec := "ipReads", unfollowed := true, recurses := true, apart := false, narrowed := true }
def IpReadsUptoSaid : Prop := ipReadsUptoRow.holds Try.pinned (OpenSpec.upto ipReadsSpec)

/-- 'lychlaw3.IpBack', WHERE WHAT IT READS IS OF BULK AT MOST 1048576: true; the input reads as it did. -/
def ipBackUptoRow : OpenClaim := { program := "ytmlmiiejifhfeaa", sum := "7a6549bebea3eaef6b0d2474e96323be28f396e10ecb5a6a3079a105dcac9add", func := "lych/lychlaw3.IpBack", spec := "ipBack", unfollowed := true, recurses := true, apart := false, narrowed := true }
def IpBackUptoSaid : Prop := ipBackUptoRow.holds Try.pinned (OpenSpec.upto ipBackSpec)

/-- 'lychlaw3.IpBits', WHERE WHAT IT READS IS OF BULK AT MOST 1048576: true; the input reads as it did. -/
def ipBitsUptoRow : OpenClaim := { program := "ytmlmiiejifhfeaa", sum := "7a6549bebea3eaef6b0d2474e96323be28f396e10ecb5a6a3079a105dcac9add", func := "lych/lychlaw3.IpBits", spec := "ipBits", unfollowed := true, recurses := true, apart := false, narrowed := true }
def IpBitsUptoSaid : Prop := ipBitsUptoRow.holds Try.pinned (OpenSpec.upto ipBitsSpec)

/-- 'lychlaw3.IpGreat', WHERE WHAT IT READS IS OF BULK AT MOST 1048576: true; the input reads as it did. -/
def ipGreatUptoRow : OpenClaim := { program := "ytmlmiiejifhfeaa", sum := "7a6549bebea3eaef6b0d2474e96323be28f396e10ecb5a6a3079a105dcac9add", func := "lych/lychlaw3.IpGreat", spec := "ipGreat", unfollowed := true, recurses := true, apart := false, narrowed := true }
def IpGreatUptoSaid : Prop := ipGreatUptoRow.holds Try.pinned (OpenSpec.upto ipGreatSpec)

/-- 'lychlaw3.IpCut', WHERE WHAT IT READS IS OF BULK AT MOST 1048576: true; the input reads as it did. -/
def ipCutUptoRow : OpenClaim := { program := "ytmlmiiejifhfeaa", sum := "7a6549bebea3eaef6b0d2474e96323be28f396e10ecb5a6a3079a105dcac9add", func := "lych/lychlaw3.IpCut", spec := "ipCut", unfollowed := true, recurses := true, apart := false, narrowed := true }
def IpCutUptoSaid : Prop := ipCutUptoRow.holds Try.pinned (OpenSpec.upto ipCutSpec)

/-- 'lychlaw3.IpHeads', WHERE WHAT IT READS IS OF BULK AT MOST 1048576: true; the input reads as it did. -/
def ipHeadsUptoRow : OpenClaim := { program := "ytmlmiiejifhfeaa", sum := "7a6549bebea3eaef6b0d2474e96323be28f396e10ecb5a6a3079a105dcac9add", func := "lych/lychlaw3.IpHeads", spec := "ipHeads", unfollowed := true, recurses := true, apart := false, narrowed := true }
def IpHeadsUptoSaid : Prop := ipHeadsUptoRow.holds Try.pinned (OpenSpec.upto ipHeadsSpec)

end Rows
end Go.Proofs.Ytmlmiiejifhfeaa
