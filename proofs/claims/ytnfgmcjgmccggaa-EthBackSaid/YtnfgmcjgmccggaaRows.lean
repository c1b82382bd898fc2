/-
  No cell of these rows narrows 'for every input' (looked for: loops, veiled, ifaces, maps, wideKeys, modest, calm, conditions, laid).
  DERIVED. THE GIVEN ROWS OF THIS SEAT. 9 by the template 'for every input the law returns true; each argument reads behind the call as it read before'; 0 by the template 'total and deterministic' (their statements: YtnfgmcjgmccggaaTotals.lean).
  GIVEN WITH THE SEED: the statements are not yours to turn. If you find one false, say at which input.
  Laid BY PROGRAM, IN A SANDBOX (cutbox-rows.mjs): the forced cells as the released guide's own fill.sh prints them over the translation 1ce0d5c0837eae63… (all of the seat's roots in one cut). By AI agents, Wed Nov 11 2026. No macro, syntax, notation, axiom, sorry.
-/
import Derived.Test.YtnfgmcjgmccggaaChecked
import GoSem.Claim
import GoSem.ClaimJoined
import GoSem.ClaimMapViews
import Derived.JoinedTies
import Derived.KernelRfl
namespace Go.Proofs.Ytnfgmcjgmccggaa
/- THE CELL 'sum', in the pinned program and in every row, IS THE sha256 OF THE DUMP (.gsa) THAT YtnfgmcjgmccggaaProg.lean LOADS. Nothing in Lean hashes anything: it is a label: what it is worth is what the hold of that sum in a sandbox is worth. -/
noncomputable def Try.pinned : Pinned := { name := "ytnfgmcjgmccggaa", sum := "1ce0d5c0837eae63c24097fc47dd20282b73792a58f3dd4daca233df61fa28ee", checked := Try.checked }
namespace Rows
def none {H : Type} : Left H := { results := [], args := [] }

/-- 'lychlaw2.EthReads': WHATEVER THE INPUT: true; the input reads as it did. -/
def ethReadsSpec : ChangeSpec := { name := "ethReads", fn := fun _ => fun
  | [d1, d2] => { results := [.lit (.bool true)], args := [d1, d2] }
  | _ => none }
def ethReadsRow : OpenClaim := { program := "ytnfgmcjgmccggaa", sum := "1ce0d5c0837eae63c24097fc47dd20282b73792a58f3dd4daca233df61fa28ee", func := "lych/lychlaw2.EthReads", spec := "ethReads", apart := false }
def EthReadsSaid : Prop := ethReadsRow.holds Try.pinned (OpenSpec.ofChange ethReadsSpec)

/-- ITS FALSE NEIGHBOUR: 'it returns false'. Refute it at one input. -/
def ethReadsWrong : ChangeSpec := { name := "ethReads", fn := fun _ => fun
  | [d1, d2] => { results := [.lit (.bool false)], args := [d1, d2] }
  | _ => none }
def EthReadsWrongFalsely : Prop := ethReadsRow.holds Try.pinned (OpenSpec.ofChange ethReadsWrong)

/-- 'lychlaw2.EthBack': WHATEVER THE INPUT: true; the input reads as it did. -/
def ethBackSpec : ChangeSpec := { name := "ethBack", fn := fun _ => fun
  | [d1, d2] => { results := [.lit (.bool true)], args := [d1, d2] }
  | _ => none }
def ethBackRow : OpenClaim := { program := "ytnfgmcjgmccggaa", sum := "1ce0d5c0837eae63c24097fc47dd20282b73792a58f3dd4daca233df61fa28ee", func := "lych/lychlaw2.EthBack", spec := "ethBack", apart := false }
def EthBackSaid : Prop := ethBackRow.holds Try.pinned (OpenSpec.ofChange ethBackSpec)

/-- ITS FALSE NEIGHBOUR: 'it returns false'. Refute it at one input. -/
def ethBackWrong : ChangeSpec := { name := "ethBack", fn := fun _ => fun
  | [d1, d2] => { results := [.lit (.bool false)], args := [d1, d2] }
  | _ => none }
def EthBackWrongFalsely : Prop := ethBackRow.holds Try.pinned (OpenSpec.ofChange ethBackWrong)

/-- 'lychlaw2.EthOnce': WHATEVER THE INPUT: true; the input reads as it did. -/
def ethOnceSpec : ChangeSpec := { name := "ethOnce", fn := fun _ => fun
  | [d] => { results := [.lit (.bool true)], args := [d] }
  | _ => none }
def ethOnceRow : OpenClaim := { program := "ytnfgmcjgmccggaa", sum := "1ce0d5c0837eae63c24097fc47dd20282b73792a58f3dd4daca233df61fa28ee", func := "lych/lychlaw2.EthOnce", spec := "ethOnce", apart := false }
def EthOnceSaid : Prop := ethOnceRow.holds Try.pinned (OpenSpec.ofChange ethOnceSpec)

/-- ITS FALSE NEIGHBOUR: 'it returns false'. Refute it at one input. -/
def ethOnceWrong : ChangeSpec := { name := "ethOnce", fn := fun _ => fun
  | [d] => { results := [.lit (.bool false)], args := [d] }
  | _ => none }
def EthOnceWrongFalsely : Prop := ethOnceRow.holds Try.pinned (OpenSpec.ofChange ethOnceWrong)

/-- 'lychlaw2.EthBounds': WHATEVER THE INPUT: true; the input reads as it did. -/
def ethBoundsSpec : ChangeSpec := { name := "ethBounds", fn := fun _ => fun
  | [d] => { results := [.lit (.bool true)], args := [d] }
  | _ => none }
def ethBoundsRow : OpenClaim := { program := "ytnfgmcjgmccggaa", sum := "1ce0d5c0837eae63c24097fc47dd20282b73792a58f3dd4daca233df61fa28ee", func := "lych/lychlaw2.EthBounds", spec := "ethBounds", apart := false }
def EthBoundsSaid : Prop := ethBoundsRow.holds Try.pinned (OpenSpec.ofChange ethBoundsSpec)

/-- ITS FALSE NEIGHBOUR: 'it returns false'. Refute it at one input. -/
def ethBoundsWrong : ChangeSpec := { name := "ethBounds", fn := fun _ => fun
  | [d] => { results := [.lit (.bool false)], args := [d] }
  | _ => none }
def EthBoundsWrongFalsely : Prop := ethBoundsRow.holds Try.pinned (OpenSpec.ofChange ethBoundsWrong)

/-- 'lychlaw6.IcmpReads': WHATEVER THE INPUT: true; the input reads as it did. -/
def icmpReadsSpec : ChangeSpec := { name := "icmpReads", fn := fun _ => fun
  | [d] => { results := [.lit (.bool true)], args := [d] }
  | _ => none }
def icmpReadsRow : OpenClaim := { program := "ytnfgmcjgmccggaa", sum := "1ce0d5c0837eae63c24097fc47dd20282b73792a58f3dd4daca233df61fa28ee", func := "lych/lychlaw6.IcmpReads", spec := "icmpReads", apart := false }
def IcmpReadsSaid : Prop := icmpReadsRow.holds Try.pinned (OpenSpec.ofChange icmpReadsSpec)

/-- ITS FALSE NEIGHBOUR: 'it returns false'. Refute it at one input. -/
def icmpReadsWrong : ChangeSpec := { name := "icmpReads", fn := fun _ => fun
  | [d] => { results := [.lit (.bool false)], args := [d] }
  | _ => none }
def IcmpReadsWrongFalsely : Prop := icmpReadsRow.holds Try.pinned (OpenSpec.ofChange icmpReadsWrong)

/-- 'lychlaw6.IcmpBack': WHATEVER THE INPUT: true; the input reads as it did. -/
def icmpBackSpec : ChangeSpec := { name := "icmpBack", fn := fun _ => fun
  | [d] => { results := [.lit (.bool true)], args := [d] }
  | _ => none }
def icmpBackRow : OpenClaim := { program := "ytnfgmcjgmccggaa", sum := "1ce0d5c0837eae63c24097fc47dd20282b73792a58f3dd4daca233df61fa28ee", func := "lych/lychlaw6.IcmpBack", spec := "icmpBack", apart := false }
def IcmpBackSaid : Prop := icmpBackRow.holds Try.pinned (OpenSpec.ofChange icmpBackSpec)

/-- ITS FALSE NEIGHBOUR: 'it returns false'. Refute it at one input. -/
def icmpBackWrong : ChangeSpec := { name := "icmpBack", fn := fun _ => fun
  | [d] => { results := [.lit (.bool false)], args := [d] }
  | _ => none }
def IcmpBackWrongFalsely : Prop := icmpBackRow.holds Try.pinned (OpenSpec.ofChange icmpBackWrong)

/-- 'lychlaw6.IcmpKinds': WHATEVER THE INPUT: true; the input reads as it did. -/
def icmpKindsSpec : ChangeSpec := { name := "icmpKinds", fn := fun _ => fun
  | [d1, d2, d3] => { results := [.lit (.bool true)], args := [d1, d2, d3] }
  | _ => none }
def icmpKindsRow : OpenClaim := { program := "ytnfgmcjgmccggaa", sum := "1ce0d5c0837eae63c24097fc47dd20282b73792a58f3dd4daca233df61fa28ee", func := "lych/lychlaw6.IcmpKinds", spec := "icmpKinds", apart := false }
def IcmpKindsSaid : Prop := icmpKindsRow.holds Try.pinned (OpenSpec.ofChange icmpKindsSpec)

/-- ITS FALSE NEIGHBOUR: 'it returns false'. Refute it at one input. -/
def icmpKindsWrong : ChangeSpec := { name := "icmpKinds", fn := fun _ => fun
  | [d1, d2, d3] => { results := [.lit (.bool false)], args := [d1, d2, d3] }
  | _ => none }
def IcmpKindsWrongFalsely : Prop := icmpKindsRow.holds Try.pinned (OpenSpec.ofChange icmpKindsWrong)

/-- 'lychlaw6.IcmpSums': WHATEVER THE INPUT: true; the input reads as it did. -/
def icmpSumsSpec : ChangeSpec := { name := "icmpSums", fn := fun _ => fun
  | [d1, d2] => { results := [.lit (.bool true)], args := [d1, d2] }
  | _ => none }
def icmpSumsRow : OpenClaim := { program := "ytnfgmcjgmccggaa", sum := "1ce0d5c0837eae63c24097fc47dd20282b73792a58f3dd4daca233df61fa28ee", func := "lych/lychlaw6.IcmpSums", spec := "icmpSums", apart := false }
def IcmpSumsSaid : Prop := icmpSumsRow.holds Try.pinned (OpenSpec.ofChange icmpSumsSpec)

/-- ITS FALSE NEIGHBOUR: 'it returns false'. Refute it at one input. -/
def icmpSumsWrong : ChangeSpec := { name := "icmpSums", fn := fun _ => fun
  | [d1, d2] => { results := [.lit (.bool false)], args := [d1, d2] }
  | _ => none }
def IcmpSumsWrongFalsely : Prop := icmpSumsRow.holds Try.pinned (OpenSpec.ofChange icmpSumsWrong)

/-- 'lychlaw6.IcmpGreat': WHATEVER THE INPUT: true; the input reads as it did. -/
def icmpGreatSpec : ChangeSpec := { name := "icmpGreat", fn := fun _ => fun
  | [d] => { results := [.lit (.bool true)], args := [d] }
  | _ => none }
def icmpGreatRow : OpenClaim := { program := "ytnfgmcjgmccggaa", sum := "1ce0d5c0837eae63c24097fc47dd20282b73792a58f3dd4daca233df61fa28ee", func := "lych/lychlaw6.IcmpGreat", spec := "icmpGreat", apart := false }
def IcmpGreatSaid : Prop := icmpGreatRow.holds Try.pinned (OpenSpec.ofChange icmpGreatSpec)

/-- ITS FALSE NEIGHBOUR: 'it returns false'. Refute it at one input. -/
def icmpGreatWrong : ChangeSpec := { name := "icmpGreat", fn := fun _ => fun
  | [d] => { results := [.lit (.bool false)], args := [d] }
  | _ => none }
def IcmpGreatWrongFalsely : Prop := icmpGreatRow.holds Try.pinned (OpenSpec.ofChange icmpGreatWrong)

/- THE SECOND FORM. 'bulk': how many values and letters a reading holds, each counted each time it is reached (what is shared counts as often as it is met; a slice's spare places count too). A statement '..UptoSaid' is the law's where the arguments, and the package variables that the reading takes, are together of bulk at most 1048576: NARROWER than '..Said'. Prove '..Said' where nothing that the law and all that it calls make is longer than what came in: it says more and counts as full. Else prove '..UptoSaid'. A law counts once. -/
mutual
def uptoBulk {H : Type} : DataW H → Nat
  | .lit (.string bytes) => bytes.length + 1
  | .lit _ => 1
  | .nil => 1
  | .ptr d => uptoBulk d + 1
  | .slice elems spare => uptoBulkAll elems + uptoBulkAll spare + 1
  | .agg parts => uptoBulkAll parts + 1
  | .iface _ d => uptoBulk d + 1
  | .map entries => uptoBulkEntries entries + 1
  | .held _ => 1
def uptoBulkAll {H : Type} : List (DataW H) → Nat
  | [] => 0
  | d :: r => uptoBulk d + uptoBulkAll r
def uptoBulkEntries {H : Type} : List (Lit × DataW H) → Nat
  | [] => 0
  | x :: r => uptoBulkEntry x + uptoBulkEntries r
def uptoBulkEntry {H : Type} : Lit × DataW H → Nat
  | (.string bytes, d) => bytes.length + uptoBulk d + 1
  | (_, d) => uptoBulk d + 1
 end
def uptoSmall : (H : Type) → List (DataW H) → Bool := fun _ ds => decide (uptoBulkAll ds ≤ 1048576)
def OpenSpec.upto (s : _root_.Go.ChangeSpec) : _root_.Go.OpenSpec := { _root_.Go.OpenSpec.ofChange s with cond := some uptoSmall }

/-- 'lychlaw2.EthReads', WHERE WHAT IT READS IS OF BULK AT MOST 1048576: true; the input reads as it did. -/
def ethReadsUptoRow : OpenClaim := { program := "ytnfgmcjgmccggaa", sum := "1ce0d5c0837eae63c24097fc47dd20282b73792a58f3dd4daca233df61fa28ee", func := "lych/lychlaw2.EthReads", spec := "ethReads", apart := false, narrowed := true }
def EthReadsUptoSaid : Prop := ethReadsUptoRow.holds Try.pinned (OpenSpec.upto ethReadsSpec)

/-- 'lychlaw2.EthBack', WHERE WHAT IT READS IS OF BULK AT MOST 1048576: true; the input reads as it did. -/
def ethBackUptoRow : OpenClaim := { program := "ytnfgmcjgmccggaa", sum := "1ce0d5c0837eae63c24097fc47dd20282b73792a58f3dd4daca233df61fa28ee", func := "lych/lychlaw2.EthBack", spec := "ethBack", apart := false, narrowed := true }
def EthBackUptoSaid : Prop := ethBackUptoRow.holds Try.pinned (OpenSpec.upto ethBackSpec)

/-- 'lychlaw2.EthOnce', WHERE WHAT IT READS IS OF BULK AT MOST 1048576: true; the input reads as it did. -/
def ethOnceUptoRow : OpenClaim := { program := "ytnfgmcjgmccggaa", sum := "1ce0d5c0837eae63c24097fc47dd20282b73792a58f3dd4daca233df61fa28ee", func := "lych/lychlaw2.EthOnce", spec := "ethOnce", apart := false, narrowed := true }
def EthOnceUptoSaid : Prop := ethOnceUptoRow.holds Try.pinned (OpenSpec.upto ethOnceSpec)

/-- 'lychlaw2.EthBounds', WHERE WHAT IT READS IS OF BULK AT MOST 1048576: true; the input reads as it did. -/
def ethBoundsUptoRow : OpenClaim := { program := "ytnfgmcjgmccggaa", sum := "1ce0d5c0837eae63c24097fc47dd20282b73792a58f3dd4daca233df61fa28ee", func := "lych/lychlaw2.EthBounds", spec := "ethBounds", apart := false, narrowed := true }
def EthBoundsUptoSaid : Prop := ethBoundsUptoRow.holds Try.pinned (OpenSpec.upto ethBoundsSpec)

/-- 'lychlaw6.IcmpReads', WHERE WHAT IT READS IS OF BULK AT MOST 1048576: true; the input reads as it did. -/
def icmpReadsUptoRow : OpenClaim := { program := "ytnfgmcjgmccggaa", sum := "1ce0d5c0837eae63c24097fc47dd20282b73792a58f3dd4daca233df61fa28ee", func := "lych/lychlaw6.IcmpReads", spec := "icmpReads", apart := false, narrowed := true }
def IcmpReadsUptoSaid : Prop := icmpReadsUptoRow.holds Try.pinned (OpenSpec.upto icmpReadsSpec)

/-- 'lychlaw6.IcmpBack', WHERE WHAT IT READS IS OF BULK AT MOST 1048576: true; the input reads as it did. -/
def icmpBackUptoRow : OpenClaim := { program := "ytnfgmcjgmccggaa", sum := "1ce0d5c0837eae63c24097fc47dd20282b73792a58f3dd4daca233df61fa28ee", func := "lych/lychlaw6.IcmpBack", spec := "icmpBack", apart := false, narrowed := true }
def IcmpBackUptoSaid : Prop := icmpBackUptoRow.holds Try.pinned (OpenSpec.upto icmpBackSpec)

/-- 'lychlaw6.IcmpKinds', WHERE WHAT IT READS IS OF BULK AT MOST 1048576: true; the input reads as it did. -/
def icmpKindsUptoRow : OpenClaim := { program := "ytnfgmcjgmccggaa", sum := "1ce0d5c0837eae63c24097fc47dd20282b73792a58f3dd4daca233df61fa28ee", func := "lych/lychlaw6.IcmpKinds", spec := "icmpKinds", apart := false, narrowed := true }
def IcmpKindsUptoSaid : Prop := icmpKindsUptoRow.holds Try.pinned (OpenSpec.upto icmpKindsSpec)

/-- 'lychlaw6.IcmpSums', WHERE WHAT IT READS IS OF BULK AT MOST 1048576: true; the input reads as it did. -/
def icmpSumsUptoRow : OpenClaim := { program := "ytnfgmcjgmccggaa", sum := "1ce0d5c0837eae63c24097fc47dd20282b73792a58f3dd4daca233df61fa28ee", func := "lych/lychlaw6.IcmpSums", spec := "icmpSums", apart := false, narrowed := true }
def IcmpSumsUptoSaid : Prop := icmpSumsUptoRow.holds Try.pinned (OpenSpec.upto icmpSumsSpec)

/-- 'lychlaw6.IcmpGreat', WHERE WHAT IT READS IS OF BULK AT MOST 1048576: true; the input reads as it did. -/
def icmpGreatUptoRow : OpenClaim := { program := "ytnfgmcjgmccggaa", sum := "1ce0d5c0837eae63c24097fc47dd20282b73792a58f3dd4daca233df61fa28ee", func := "lych/lychlaw6.IcmpGreat", spec := "icmpGreat", apart := false, narrowed := true }
def IcmpGreatUptoSaid : Prop := icmpGreatUptoRow.holds Try.pinned (OpenSpec.upto icmpGreatSpec)

end Rows
end Go.Proofs.Ytnfgmcjgmccggaa
