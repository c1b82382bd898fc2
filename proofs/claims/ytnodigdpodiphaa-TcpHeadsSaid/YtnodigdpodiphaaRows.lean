/-
  No cell of these rows narrows 'for every input' (looked for: loops, veiled, ifaces, maps, wideKeys, modest, calm, conditions, laid).
  DERIVED. THE GIVEN ROWS OF THIS SEAT. 10 by the template 'for every input the law returns true; each argument reads behind the call as it read before'; 0 by the template 'total and deterministic' (their statements: YtnodigdpodiphaaTotals.lean).
  GIVEN WITH THE SEED: the statements are not yours to turn. If you find one false, say at which input.
  Laid BY PROGRAM, IN A SANDBOX (cutbox-rows.mjs): the forced cells as the released guide's own fill.sh prints them over the translation 277311e5dd6ff82f… (all of the seat's roots in one cut). By AI agents, Wed Nov 11 2026. No macro, syntax, notation, axiom, sorry.
-/
import Derived.Test.YtnodigdpodiphaaChecked
import GoSem.Claim
import GoSem.ClaimJoined
import GoSem.ClaimMapViews
import Derived.JoinedTies
import Derived.KernelRfl
namespace Go.Proofs.Ytnodigdpodiphaa
/- THE CELL 'sum', in the pinned program and in every row, IS THE sha256 OF THE DUMP (.gsa) THAT YtnodigdpodiphaaProg.lean LOADS. Nothing in Lean hashes anything: it is a label: what it is worth is what the hold of that sum in a sandbox is worth. -/
noncomputable def Try.pinned : Pinned := { name := "ytnodigdpodiphaa", sum := "277311e5dd6ff82f5dfc596ecda6c421ff8c65bd934419ffd5edf5b230f58b7a", checked := Try.checked }
namespace Rows
def none {H : Type} : Left H := { results := [], args := [] }

/-- 'lychlaw4.UdpReads': WHATEVER THE INPUT: true; the input reads as it did. -/
def udpReadsSpec : ChangeSpec := { name := "udpReads", fn := fun _ => fun
  | [d] => { results := [.lit (.bool true)], args := [d] }
  | _ => none }
def udpReadsRow : OpenClaim := { program := "ytnodigdpodiphaa", sum := "277311e5dd6ff82f5dfc596ecda6c421ff8c65bd934419ffd5edf5b230f58b7a", func := "lych/lychlaw4.UdpReads", spec := "udpReads", apart := false }
def UdpReadsSaid : Prop := udpReadsRow.holds Try.pinned (OpenSpec.ofChange udpReadsSpec)

/-- ITS FALSE NEIGHBOUR: 'it returns false'. Refute it at one input. -/
def udpReadsWrong : ChangeSpec := { name := "udpReads", fn := fun _ => fun
  | [d] => { results := [.lit (.bool false)], args := [d] }
  | _ => none }
def UdpReadsWrongFalsely : Prop := udpReadsRow.holds Try.pinned (OpenSpec.ofChange udpReadsWrong)

/-- 'lychlaw4.UdpBack': WHATEVER THE INPUT: true; the input reads as it did. -/
def udpBackSpec : ChangeSpec := { name := "udpBack", fn := fun _ => fun
  | [d] => { results := [.lit (.bool true)], args := [d] }
  | _ => none }
def udpBackRow : OpenClaim := { program := "ytnodigdpodiphaa", sum := "277311e5dd6ff82f5dfc596ecda6c421ff8c65bd934419ffd5edf5b230f58b7a", func := "lych/lychlaw4.UdpBack", spec := "udpBack", apart := false }
def UdpBackSaid : Prop := udpBackRow.holds Try.pinned (OpenSpec.ofChange udpBackSpec)

/-- ITS FALSE NEIGHBOUR: 'it returns false'. Refute it at one input. -/
def udpBackWrong : ChangeSpec := { name := "udpBack", fn := fun _ => fun
  | [d] => { results := [.lit (.bool false)], args := [d] }
  | _ => none }
def UdpBackWrongFalsely : Prop := udpBackRow.holds Try.pinned (OpenSpec.ofChange udpBackWrong)

/-- 'lychlaw4.UdpSums': WHATEVER THE INPUT: true; the input reads as it did. -/
def udpSumsSpec : ChangeSpec := { name := "udpSums", fn := fun _ => fun
  | [d1, d2, d3, d4] => { results := [.lit (.bool true)], args := [d1, d2, d3, d4] }
  | _ => none }
def udpSumsRow : OpenClaim := { program := "ytnodigdpodiphaa", sum := "277311e5dd6ff82f5dfc596ecda6c421ff8c65bd934419ffd5edf5b230f58b7a", func := "lych/lychlaw4.UdpSums", spec := "udpSums", apart := false }
def UdpSumsSaid : Prop := udpSumsRow.holds Try.pinned (OpenSpec.ofChange udpSumsSpec)

/-- ITS FALSE NEIGHBOUR: 'it returns false'. Refute it at one input. -/
def udpSumsWrong : ChangeSpec := { name := "udpSums", fn := fun _ => fun
  | [d1, d2, d3, d4] => { results := [.lit (.bool false)], args := [d1, d2, d3, d4] }
  | _ => none }
def UdpSumsWrongFalsely : Prop := udpSumsRow.holds Try.pinned (OpenSpec.ofChange udpSumsWrong)

/-- 'lychlaw4.UdpGreat': WHATEVER THE INPUT: true; the input reads as it did. -/
def udpGreatSpec : ChangeSpec := { name := "udpGreat", fn := fun _ => fun
  | [d] => { results := [.lit (.bool true)], args := [d] }
  | _ => none }
def udpGreatRow : OpenClaim := { program := "ytnodigdpodiphaa", sum := "277311e5dd6ff82f5dfc596ecda6c421ff8c65bd934419ffd5edf5b230f58b7a", func := "lych/lychlaw4.UdpGreat", spec := "udpGreat", apart := false }
def UdpGreatSaid : Prop := udpGreatRow.holds Try.pinned (OpenSpec.ofChange udpGreatSpec)

/-- ITS FALSE NEIGHBOUR: 'it returns false'. Refute it at one input. -/
def udpGreatWrong : ChangeSpec := { name := "udpGreat", fn := fun _ => fun
  | [d] => { results := [.lit (.bool false)], args := [d] }
  | _ => none }
def UdpGreatWrongFalsely : Prop := udpGreatRow.holds Try.pinned (OpenSpec.ofChange udpGreatWrong)

/-- 'lychlaw4.UdpLengths': WHATEVER THE INPUT: true; the input reads as it did. -/
def udpLengthsSpec : ChangeSpec := { name := "udpLengths", fn := fun _ => fun
  | [d1, d2] => { results := [.lit (.bool true)], args := [d1, d2] }
  | _ => none }
def udpLengthsRow : OpenClaim := { program := "ytnodigdpodiphaa", sum := "277311e5dd6ff82f5dfc596ecda6c421ff8c65bd934419ffd5edf5b230f58b7a", func := "lych/lychlaw4.UdpLengths", spec := "udpLengths", apart := false }
def UdpLengthsSaid : Prop := udpLengthsRow.holds Try.pinned (OpenSpec.ofChange udpLengthsSpec)

/-- ITS FALSE NEIGHBOUR: 'it returns false'. Refute it at one input. -/
def udpLengthsWrong : ChangeSpec := { name := "udpLengths", fn := fun _ => fun
  | [d1, d2] => { results := [.lit (.bool false)], args := [d1, d2] }
  | _ => none }
def UdpLengthsWrongFalsely : Prop := udpLengthsRow.holds Try.pinned (OpenSpec.ofChange udpLengthsWrong)

/-- 'lychlaw4.UdpNone': WHATEVER THE INPUT: true; the input reads as it did. -/
def udpNoneSpec : ChangeSpec := { name := "udpNone", fn := fun _ => fun
  | [d1, d2, d3] => { results := [.lit (.bool true)], args := [d1, d2, d3] }
  | _ => none }
def udpNoneRow : OpenClaim := { program := "ytnodigdpodiphaa", sum := "277311e5dd6ff82f5dfc596ecda6c421ff8c65bd934419ffd5edf5b230f58b7a", func := "lych/lychlaw4.UdpNone", spec := "udpNone", apart := false }
def UdpNoneSaid : Prop := udpNoneRow.holds Try.pinned (OpenSpec.ofChange udpNoneSpec)

/-- ITS FALSE NEIGHBOUR: 'it returns false'. Refute it at one input. -/
def udpNoneWrong : ChangeSpec := { name := "udpNone", fn := fun _ => fun
  | [d1, d2, d3] => { results := [.lit (.bool false)], args := [d1, d2, d3] }
  | _ => none }
def UdpNoneWrongFalsely : Prop := udpNoneRow.holds Try.pinned (OpenSpec.ofChange udpNoneWrong)

/-- 'lychlaw5.TcpReads': WHATEVER THE INPUT: true; the input reads as it did. -/
def tcpReadsSpec : ChangeSpec := { name := "tcpReads", fn := fun _ => fun
  | [d] => { results := [.lit (.bool true)], args := [d] }
  | _ => none }
def tcpReadsRow : OpenClaim := { program := "ytnodigdpodiphaa", sum := "277311e5dd6ff82f5dfc596ecda6c421ff8c65bd934419ffd5edf5b230f58b7a", func := "lych/lychlaw5.TcpReads", spec := "tcpReads", apart := false }
def TcpReadsSaid : Prop := tcpReadsRow.holds Try.pinned (OpenSpec.ofChange tcpReadsSpec)

/-- ITS FALSE NEIGHBOUR: 'it returns false'. Refute it at one input. -/
def tcpReadsWrong : ChangeSpec := { name := "tcpReads", fn := fun _ => fun
  | [d] => { results := [.lit (.bool false)], args := [d] }
  | _ => none }
def TcpReadsWrongFalsely : Prop := tcpReadsRow.holds Try.pinned (OpenSpec.ofChange tcpReadsWrong)

/-- 'lychlaw5.TcpBack': WHATEVER THE INPUT: true; the input reads as it did. -/
def tcpBackSpec : ChangeSpec := { name := "tcpBack", fn := fun _ => fun
  | [d] => { results := [.lit (.bool true)], args := [d] }
  | _ => none }
def tcpBackRow : OpenClaim := { program := "ytnodigdpodiphaa", sum := "277311e5dd6ff82f5dfc596ecda6c421ff8c65bd934419ffd5edf5b230f58b7a", func := "lych/lychlaw5.TcpBack", spec := "tcpBack", apart := false }
def TcpBackSaid : Prop := tcpBackRow.holds Try.pinned (OpenSpec.ofChange tcpBackSpec)

/-- ITS FALSE NEIGHBOUR: 'it returns false'. Refute it at one input. -/
def tcpBackWrong : ChangeSpec := { name := "tcpBack", fn := fun _ => fun
  | [d] => { results := [.lit (.bool false)], args := [d] }
  | _ => none }
def TcpBackWrongFalsely : Prop := tcpBackRow.holds Try.pinned (OpenSpec.ofChange tcpBackWrong)

/-- 'lychlaw5.TcpGreat': WHATEVER THE INPUT: true; the input reads as it did. -/
def tcpGreatSpec : ChangeSpec := { name := "tcpGreat", fn := fun _ => fun
  | [d] => { results := [.lit (.bool true)], args := [d] }
  | _ => none }
def tcpGreatRow : OpenClaim := { program := "ytnodigdpodiphaa", sum := "277311e5dd6ff82f5dfc596ecda6c421ff8c65bd934419ffd5edf5b230f58b7a", func := "lych/lychlaw5.TcpGreat", spec := "tcpGreat", apart := false }
def TcpGreatSaid : Prop := tcpGreatRow.holds Try.pinned (OpenSpec.ofChange tcpGreatSpec)

/-- ITS FALSE NEIGHBOUR: 'it returns false'. Refute it at one input. -/
def tcpGreatWrong : ChangeSpec := { name := "tcpGreat", fn := fun _ => fun
  | [d] => { results := [.lit (.bool false)], args := [d] }
  | _ => none }
def TcpGreatWrongFalsely : Prop := tcpGreatRow.holds Try.pinned (OpenSpec.ofChange tcpGreatWrong)

/-- 'lychlaw5.TcpHeads': WHATEVER THE INPUT: true; the input reads as it did. -/
def tcpHeadsSpec : ChangeSpec := { name := "tcpHeads", fn := fun _ => fun
  | [d1, d2, d3] => { results := [.lit (.bool true)], args := [d1, d2, d3] }
  | _ => none }
def tcpHeadsRow : OpenClaim := { program := "ytnodigdpodiphaa", sum := "277311e5dd6ff82f5dfc596ecda6c421ff8c65bd934419ffd5edf5b230f58b7a", func := "lych/lychlaw5.TcpHeads", spec := "tcpHeads", apart := false }
def TcpHeadsSaid : Prop := tcpHeadsRow.holds Try.pinned (OpenSpec.ofChange tcpHeadsSpec)

/-- ITS FALSE NEIGHBOUR: 'it returns false'. Refute it at one input. -/
def tcpHeadsWrong : ChangeSpec := { name := "tcpHeads", fn := fun _ => fun
  | [d1, d2, d3] => { results := [.lit (.bool false)], args := [d1, d2, d3] }
  | _ => none }
def TcpHeadsWrongFalsely : Prop := tcpHeadsRow.holds Try.pinned (OpenSpec.ofChange tcpHeadsWrong)

/- THE SECOND FORM. 'bulk': how many values and letters a reading holds, each counted each time it is reached (what is shared counts as often as it is met; a slice's spare places count too). A statement '..UptoSaid' is the law's where the arguments, and the package variables that the reading takes, are together of bulk at most 1048576: NARROWER than '..Said'. Prove '..Said' where nothing that the law and all that it calls make is longer than what came in: it says more and counts as full. Else prove '..UptoSaid'. A law counts once. -/
mutual
def uptoBulk {H : Type} : DataW H → Nat
  | .lit (.string bytes) => bytes.length + 1
  | .lit _ => 1
  | .nil => 1
  | .ptr d => uptoBulk d + 1
  | .slice elems spare => uptoBulkAll elems + uptoBulkAll spare + 1
  | .agg parts => uptoBulkAll parts + 1
  | .iface _ d => uptoBulk d + 1
  | .map entries => uptoBulkEntries entries + 1
  | .held _ => 1
def uptoBulkAll {H : Type} : List (DataW H) → Nat
  | [] => 0
  | d :: r => uptoBulk d + uptoBulkAll r
def uptoBulkEntries {H : Type} : List (Lit × DataW H) → Nat
  | [] => 0
  | x :: r => uptoBulkEntry x + uptoBulkEntries r
def uptoBulkEntry {H : Type} : Lit × DataW H → Nat
  | (.string bytes, d) => bytes.length + uptoBulk d + 1
  | (_, d) => uptoBulk d + 1
 end
def uptoSmall : (H : Type) → List (DataW H) → Bool := fun _ ds => decide (uptoBulkAll ds ≤ 1048576)
def OpenSpec.upto (s : _root_.Go.ChangeSpec) : _root_.Go.OpenSpec := { _root_.Go.OpenSpec.ofChange s with cond := some uptoSmall }

/-- 'lychlaw4.UdpReads', WHERE WHAT IT READS IS OF BULK AT MOST 1048576: true; the input reads as it did. -/
def udpReadsUptoRow : OpenClaim := { program := "ytnodigdpodiphaa", sum := "277311e5dd6ff82f5dfc596ecda6c421ff8c65bd934419ffd5edf5b230f58b7a", func := "lych/lychlaw4.UdpReads", spec := "udpReads", apart := false, narrowed := true }
def UdpReadsUptoSaid : Prop := udpReadsUptoRow.holds Try.pinned (OpenSpec.upto udpReadsSpec)

/-- 'lychlaw4.UdpBack', WHERE WHAT IT READS IS OF BULK AT MOST 1048576: true; the input reads as it did. -/
def udpBackUptoRow : OpenClaim := { program := "ytnodigdpodiphaa", sum := "277311e5dd6ff82f5dfc596ecda6c421ff8c65bd934419ffd5edf5b230f58b7a", func := "lych/lychlaw4.UdpBack", spec := "udpBack", apart := false, narrowed := true }
def UdpBackUptoSaid : Prop := udpBackUptoRow.holds Try.pinned (OpenSpec.upto udpBackSpec)

/-- 'lychlaw4.UdpSums', WHERE WHAT IT READS IS OF BULK AT MOST 1048576: true; the input reads as it did. -/
def udpSumsUptoRow : OpenClaim := { program := "ytnodigdpodiphaa", sum := "277311e5dd6ff82f5dfc596ecda6c421ff8c65bd934419ffd5edf5b230f58b7a", func := "lych/lychlaw4.UdpSums", spec := "udpSums", apart := false, narrowed := true }
def UdpSumsUptoSaid : Prop := udpSumsUptoRow.holds Try.pinned (OpenSpec.upto udpSumsSpec)

/-- 'lychlaw4.UdpGreat', WHERE WHAT IT READS IS OF BULK AT MOST 1048576: true; the input reads as it did. -/
def udpGreatUptoRow : OpenClaim := { program := "ytnodigdpodiphaa", sum := "277311e5dd6ff82f5dfc596ecda6c421ff8c65bd934419ffd5edf5b230f58b7a", func := "lych/lychlaw4.UdpGreat", spec := "udpGreat", apart := false, narrowed := true }
def UdpGreatUptoSaid : Prop := udpGreatUptoRow.holds Try.pinned (OpenSpec.upto udpGreatSpec)

/-- 'lychlaw4.UdpLengths', WHERE WHAT IT READS IS OF BULK AT MOST 1048576: true; the input reads as it did. -/
def udpLengthsUptoRow : OpenClaim := { program := "ytnodigdpodiphaa", sum := "277311e5dd6ff82f5dfc596ecda6c421ff8c65bd934419ffd5edf5b230f58b7a", func := "lych/lychlaw4.UdpLengths", spec := "udpLengths", apart := false, narrowed := true }
def UdpLengthsUptoSaid : Prop := udpLengthsUptoRow.holds Try.pinned (OpenSpec.upto udpLengthsSpec)

/-- 'lychlaw4.UdpNone', WHERE WHAT IT READS IS OF BULK AT MOST 1048576: true; the input reads as it did. -/
def udpNoneUptoRow : OpenClaim := { program := "ytnodigdpodiphaa", sum := "277311e5dd6ff82f5dfc596ecda6c421ff8c65bd934419ffd5edf5b230f58b7a", func := "lych/lychlaw4.UdpNone", spec := "udpNone", apart := false, narrowed := true }
def UdpNoneUptoSaid : Prop := udpNoneUptoRow.holds Try.pinned (OpenSpec.upto udpNoneSpec)

/-- 'lychlaw5.TcpReads', WHERE WHAT IT READS IS OF BULK AT MOST 1048576: true; the input reads as it did. -/
def tcpReadsUptoRow : OpenClaim := { program := "ytnodigdpodiphaa", sum := "277311e5dd6ff82f5dfc596ecda6c421ff8c65bd934419ffd5edf5b230f58b7a", func := "lych/lychlaw5.TcpReads", spec := "tcpReads", apart := false, narrowed := true }
def TcpReadsUptoSaid : Prop := tcpReadsUptoRow.holds Try.pinned (OpenSpec.upto tcpReadsSpec)

/-- 'lychlaw5.TcpBack', WHERE WHAT IT READS IS OF BULK AT MOST 1048576: true; the input reads as it did. -/
def tcpBackUptoRow : OpenClaim := { program := "ytnodigdpodiphaa", sum := "277311e5dd6ff82f5dfc596ecda6c421ff8c65bd934419ffd5edf5b230f58b7a", func := "lych/lychlaw5.TcpBack", spec := "tcpBack", apart := false, narrowed := true }
def TcpBackUptoSaid : Prop := tcpBackUptoRow.holds Try.pinned (OpenSpec.upto tcpBackSpec)

/-- 'lychlaw5.TcpGreat', WHERE WHAT IT READS IS OF BULK AT MOST 1048576: true; the input reads as it did. -/
def tcpGreatUptoRow : OpenClaim := { program := "ytnodigdpodiphaa", sum := "277311e5dd6ff82f5dfc596ecda6c421ff8c65bd934419ffd5edf5b230f58b7a", func := "lych/lychlaw5.TcpGreat", spec := "tcpGreat", apart := false, narrowed := true }
def TcpGreatUptoSaid : Prop := tcpGreatUptoRow.holds Try.pinned (OpenSpec.upto tcpGreatSpec)

/-- 'lychlaw5.TcpHeads', WHERE WHAT IT READS IS OF BULK AT MOST 1048576: true; the input reads as it did. -/
def tcpHeadsUptoRow : OpenClaim := { program := "ytnodigdpodiphaa", sum := "277311e5dd6ff82f5dfc596ecda6c421ff8c65bd934419ffd5edf5b230f58b7a", func := "lych/lychlaw5.TcpHeads", spec := "tcpHeads", apart := false, narrowed := true }
def TcpHeadsUptoSaid : Prop := tcpHeadsUptoRow.holds Try.pinned (OpenSpec.upto tcpHeadsSpec)

end Rows
end Go.Proofs.Ytnodigdpodiphaa
