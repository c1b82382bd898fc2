/-
  No cell of these rows narrows 'for every input' (looked for: loops, veiled, ifaces, maps, wideKeys, modest, calm, conditions, laid).
  DERIVED. THE GIVEN ROWS OF THIS SEAT. 11 by the template 'for every input the law returns true; each argument reads behind the call as it read before'; 0 by the template 'total and deterministic' (their statements: YtkmimamminddiaaTotals.lean).
  GIVEN WITH THE SEED: the statements are not yours to turn. If you find one false, say at which input.
  Laid BY PROGRAM, IN A SANDBOX (cutbox-rows.mjs): the forced cells as the released guide's own fill.sh prints them over the translation b6cd68f166cbb697… (all of the seat's roots in one cut). By AI agents, Wed Nov 11 2026. No macro, syntax, notation, axiom, sorry.
-/
import Derived.Test.YtkmimamminddiaaChecked
import GoSem.Claim
import GoSem.ClaimJoined
import GoSem.ClaimMapViews
import Derived.JoinedTies
import Derived.KernelRfl
namespace Go.Proofs.Ytkmimamminddiaa
/- THE CELL 'sum', in the pinned program and in every row, IS THE sha256 OF THE DUMP (.gsa) THAT YtkmimamminddiaaProg.lean LOADS. Nothing in Lean hashes anything: it is a label: what it is worth is what the hold of that sum in a sandbox is worth. -/
noncomputable def Try.pinned : Pinned := { name := "ytkmimamminddiaa", sum := "b6cd68f166cbb697ad9b862eefea4607b813b65c6e750f27293adc1dc8d6fac4", checked := Try.checked }
namespace Rows
def none {H : Type} : Left H := { results := [], args := [] }

/-- 'lychlaw22.FramesRead': WHATEVER THE INPUT: true; the input reads as it did. -/
def framesReadSpec : ChangeSpec := { name := "framesRead", fn := fun _ => fun
  | [d1, d2, d3, d4, d5] => { results := [.lit (.bool true)], args := [d1, d2, d3, d4, d5] }
  | _ => none }
def framesReadRow : OpenClaim := { program := "ytkmimamminddiaa", sum := "b6cd68f166cbb697ad9b862eefea4607b813b65c6e750f27293adc1dc8d6fac4", func := "lych/lychlaw22.FramesRead", spec := "framesRead", unfollowed := true, recurses := true, apart := false }
def FramesReadSaid : Prop := framesReadRow.holds Try.pinned (OpenSpec.ofChange framesReadSpec)

/-- ITS FALSE NEIGHBOUR: 'it returns false'. Refute it at one input. -/
def framesReadWrong : ChangeSpec := { name := "framesRead", fn := fun _ => fun
  | [d1, d2, d3, d4, d5] => { results := [.lit (.bool false)], args := [d1, d2, d3, d4, d5] }
  | _ => none }
def FramesReadWrongFalsely : Prop := framesReadRow.holds Try.pinned (OpenSpec.ofChange framesReadWrong)

/-- 'lychlaw22.FramesWrite': WHATEVER THE INPUT: true; the input reads as it did. -/
def framesWriteSpec : ChangeSpec := { name := "framesWrite", fn := fun _ => fun
  | [d1, d2, d3, d4] => { results := [.lit (.bool true)], args := [d1, d2, d3, d4] }
  | _ => none }
def framesWriteRow : OpenClaim := { program := "ytkmimamminddiaa", sum := "b6cd68f166cbb697ad9b862eefea4607b813b65c6e750f27293adc1dc8d6fac4", func := "lych/lychlaw22.FramesWrite", spec := "framesWrite", unfollowed := true, recurses := true, apart := false }
def FramesWriteSaid : Prop := framesWriteRow.holds Try.pinned (OpenSpec.ofChange framesWriteSpec)

/-- ITS FALSE NEIGHBOUR: 'it returns false'. Refute it at one input. -/
def framesWriteWrong : ChangeSpec := { name := "framesWrite", fn := fun _ => fun
  | [d1, d2, d3, d4] => { results := [.lit (.bool false)], args := [d1, d2, d3, d4] }
  | _ => none }
def FramesWriteWrongFalsely : Prop := framesWriteRow.holds Try.pinned (OpenSpec.ofChange framesWriteWrong)

/-- 'lychlaw22.FramesBack': WHATEVER THE INPUT: true; the input reads as it did. -/
def framesBackSpec : ChangeSpec := { name := "framesBack", fn := fun _ => fun
  | [d1, d2, d3] => { results := [.lit (.bool true)], args := [d1, d2, d3] }
  | _ => none }
def framesBackRow : OpenClaim := { program := "ytkmimamminddiaa", sum := "b6cd68f166cbb697ad9b862eefea4607b813b65c6e750f27293adc1dc8d6fac4", func := "lych/lychlaw22.FramesBack", spec := "framesBack", unfollowed := true, recurses := true, apart := false }
def FramesBackSaid : Prop := framesBackRow.holds Try.pinned (OpenSpec.ofChange framesBackSpec)

/-- ITS FALSE NEIGHBOUR: 'it returns false'. Refute it at one input. -/
def framesBackWrong : ChangeSpec := { name := "framesBack", fn := fun _ => fun
  | [d1, d2, d3] => { results := [.lit (.bool false)], args := [d1, d2, d3] }
  | _ => none }
def FramesBackWrongFalsely : Prop := framesBackRow.holds Try.pinned (OpenSpec.ofChange framesBackWrong)

/-- 'lychlaw8.RewriteLooks': WHATEVER THE INPUT: true; the input reads as it did. -/
def rewriteLooksSpec : ChangeSpec := { name := "rewriteLooks", fn := fun _ => fun
  | [d1, d2, d3, d4] => { results := [.lit (.bool true)], args := [d1, d2, d3, d4] }
  | _ => none }
def rewriteLooksRow : OpenClaim := { program := "ytkmimamminddiaa", sum := "b6cd68f166cbb697ad9b862eefea4607b813b65c6e750f27293adc1dc8d6fac4", func := "lych/lychlaw8.RewriteLooks", spec := "rewriteLooks", unfollowed := true, recurses := true, apart := false }
def RewriteLooksSaid : Prop := rewriteLooksRow.holds Try.pinned (OpenSpec.ofChange rewriteLooksSpec)

/-- ITS FALSE NEIGHBOUR: 'it returns false'. Refute it at one input. -/
def rewriteLooksWrong : ChangeSpec := { name := "rewriteLooks", fn := fun _ => fun
  | [d1, d2, d3, d4] => { results := [.lit (.bool false)], args := [d1, d2, d3, d4] }
  | _ => none }
def RewriteLooksWrongFalsely : Prop := rewriteLooksRow.holds Try.pinned (OpenSpec.ofChange rewriteLooksWrong)

/-- 'lychlaw8.RewriteChanges': WHATEVER THE INPUT: true; the input reads as it did. -/
def rewriteChangesSpec : ChangeSpec := { name := "rewriteChanges", fn := fun _ => fun
  | [d1, d2, d3, d4] => { results := [.lit (.bool true)], args := [d1, d2, d3, d4] }
  | _ => none }
def rewriteChangesRow : OpenClaim := { program := "ytkmimamminddiaa", sum := "b6cd68f166cbb697ad9b862eefea4607b813b65c6e750f27293adc1dc8d6fac4", func := "lych/lychlaw8.RewriteChanges", spec := "rewriteChanges", unfollowed := true, recurses := true, apart := false }
def RewriteChangesSaid : Prop := rewriteChangesRow.holds Try.pinned (OpenSpec.ofChange rewriteChangesSpec)

/-- ITS FALSE NEIGHBOUR: 'it returns false'. Refute it at one input. -/
def rewriteChangesWrong : ChangeSpec := { name := "rewriteChanges", fn := fun _ => fun
  | [d1, d2, d3, d4] => { results := [.lit (.bool false)], args := [d1, d2, d3, d4] }
  | _ => none }
def RewriteChangesWrongFalsely : Prop := rewriteChangesRow.holds Try.pinned (OpenSpec.ofChange rewriteChangesWrong)

/-- 'lychlaw8.RewriteHops': WHATEVER THE INPUT: true; the input reads as it did. -/
def rewriteHopsSpec : ChangeSpec := { name := "rewriteHops", fn := fun _ => fun
  | [d1, d2, d3] => { results := [.lit (.bool true)], args := [d1, d2, d3] }
  | _ => none }
def rewriteHopsRow : OpenClaim := { program := "ytkmimamminddiaa", sum := "b6cd68f166cbb697ad9b862eefea4607b813b65c6e750f27293adc1dc8d6fac4", func := "lych/lychlaw8.RewriteHops", spec := "rewriteHops", unfollowed := true, recurses := true, apart := false }
def RewriteHopsSaid : Prop := rewriteHopsRow.holds Try.pinned (OpenSpec.ofChange rewriteHopsSpec)

/-- ITS FALSE NEIGHBOUR: 'it returns false'. Refute it at one input. -/
def rewriteHopsWrong : ChangeSpec := { name := "rewriteHops", fn := fun _ => fun
  | [d1, d2, d3] => { results := [.lit (.bool false)], args := [d1, d2, d3] }
  | _ => none }
def RewriteHopsWrongFalsely : Prop := rewriteHopsRow.holds Try.pinned (OpenSpec.ofChange rewriteHopsWrong)

/-- 'lychlaw8.RewriteBack': WHATEVER THE INPUT: true; the input reads as it did. -/
def rewriteBackSpec : ChangeSpec := { name := "rewriteBack", fn := fun _ => fun
  | [d1, d2, d3, d4] => { results := [.lit (.bool true)], args := [d1, d2, d3, d4] }
  | _ => none }
def rewriteBackRow : OpenClaim := { program := "ytkmimamminddiaa", sum := "b6cd68f166cbb697ad9b862eefea4607b813b65c6e750f27293adc1dc8d6fac4", func := "lych/lychlaw8.RewriteBack", spec := "rewriteBack", unfollowed := true, recurses := true, apart := false }
def RewriteBackSaid : Prop := rewriteBackRow.holds Try.pinned (OpenSpec.ofChange rewriteBackSpec)

/-- ITS FALSE NEIGHBOUR: 'it returns false'. Refute it at one input. -/
def rewriteBackWrong : ChangeSpec := { name := "rewriteBack", fn := fun _ => fun
  | [d1, d2, d3, d4] => { results := [.lit (.bool false)], args := [d1, d2, d3, d4] }
  | _ => none }
def RewriteBackWrongFalsely : Prop := rewriteBackRow.holds Try.pinned (OpenSpec.ofChange rewriteBackWrong)

/-- 'lychlaw8.RewriteKeeps': WHATEVER THE INPUT: true; the input reads as it did. -/
def rewriteKeepsSpec : ChangeSpec := { name := "rewriteKeeps", fn := fun _ => fun
  | [d1, d2, d3, d4] => { results := [.lit (.bool true)], args := [d1, d2, d3, d4] }
  | _ => none }
def rewriteKeepsRow : OpenClaim := { program := "ytkmimamminddiaa", sum := "b6cd68f166cbb697ad9b862eefea4607b813b65c6e750f27293adc1dc8d6fac4", func := "lych/lychlaw8.RewriteKeeps", spec := "rewriteKeeps", unfollowed := true, recurses := true, apart := false }
def RewriteKeepsSaid : Prop := rewriteKeepsRow.holds Try.pinned (OpenSpec.ofChange rewriteKeepsSpec)

/-- ITS FALSE NEIGHBOUR: 'it returns false'. Refute it at one input. -/
def rewriteKeepsWrong : ChangeSpec := { name := "rewriteKeeps", fn := fun _ => fun
  | [d1, d2, d3, d4] => { results := [.lit (.bool false)], args := [d1, d2, d3, d4] }
  | _ => none }
def RewriteKeepsWrongFalsely : Prop := rewriteKeepsRow.holds Try.pinned (OpenSpec.ofChange rewriteKeepsWrong)

/-- 'lychlaw8.RewriteHopsOut': WHATEVER THE INPUT: true; the input reads as it did. -/
def rewriteHopsOutSpec : ChangeSpec := { name := "rewriteHopsOut", fn := fun _ => fun
  | [d1, d2] => { results := [.lit (.bool true)], args := [d1, d2] }
  | _ => none }
def rewriteHopsOutRow : OpenClaim := { program := "ytkmimamminddiaa", sum := "b6cd68f166cbb697ad9b862eefea4607b813b65c6e750f27293adc1dc8d6fac4", func := "lych/lychlaw8.RewriteHopsOut", spec := "rewriteHopsOut", unfollowed := true, recurses := true, apart := false }
def RewriteHopsOutSaid : Prop := rewriteHopsOutRow.holds Try.pinned (OpenSpec.ofChange rewriteHopsOutSpec)

/-- ITS FALSE NEIGHBOUR: 'it returns false'. Refute it at one input. -/
def rewriteHopsOutWrong : ChangeSpec := { name := "rewriteHopsOut", fn := fun _ => fun
  | [d1, d2] => { results := [.lit (.bool false)], args := [d1, d2] }
  | _ => none }
def RewriteHopsOutWrongFalsely : Prop := rewriteHopsOutRow.holds Try.pinned (OpenSpec.ofChange rewriteHopsOutWrong)

/-- 'lychlaw8.RewriteInner': WHATEVER THE INPUT: true; the input reads as it did. -/
def rewriteInnerSpec : ChangeSpec := { name := "rewriteInner", fn := fun _ => fun
  | [d1, d2, d3, d4, d5] => { results := [.lit (.bool true)], args := [d1, d2, d3, d4, d5] }
  | _ => none }
def rewriteInnerRow : OpenClaim := { program := "ytkmimamminddiaa", sum := "b6cd68f166cbb697ad9b862eefea4607b813b65c6e750f27293adc1dc8d6fac4", func := "lych/lychlaw8.RewriteInner", spec := "rewriteInner", unfollowed := true, recurses := true, apart := false }
def RewriteInnerSaid : Prop := rewriteInnerRow.holds Try.pinned (OpenSpec.ofChange rewriteInnerSpec)

/-- ITS FALSE NEIGHBOUR: 'it returns false'. Refute it at one input. -/
def rewriteInnerWrong : ChangeSpec := { name := "rewriteInner", fn := fun _ => fun
  | [d1, d2, d3, d4, d5] => { results := [.lit (.bool false)], args := [d1, d2, d3, d4, d5] }
  | _ => none }
def RewriteInnerWrongFalsely : Prop := rewriteInnerRow.holds Try.pinned (OpenSpec.ofChange rewriteInnerWrong)

/-- 'lychlaw8.RewriteInnerBack': WHATEVER THE INPUT: true; the input reads as it did. -/
def rewriteInnerBackSpec : ChangeSpec := { name := "rewriteInnerBack", fn := fun _ => fun
  | [d1, d2, d3, d4] => { results := [.lit (.bool true)], args := [d1, d2, d3, d4] }
  | _ => none }
def rewriteInnerBackRow : OpenClaim := { program := "ytkmimamminddiaa", sum := "b6cd68f166cbb697ad9b862eefea4607b813b65c6e750f27293adc1dc8d6fac4", func := "lych/lychlaw8.RewriteInnerBack", spec := "rewriteInnerBack", unfollowed := true, recurses := true, apart := false }
def RewriteInnerBackSaid : Prop := rewriteInnerBackRow.holds Try.pinned (OpenSpec.ofChange rewriteInnerBackSpec)

/-- ITS FALSE NEIGHBOUR: 'it returns false'. Refute it at one input. -/
def rewriteInnerBackWrong : ChangeSpec := { name := "rewriteInnerBack", fn := fun _ => fun
  | [d1, d2, d3, d4] => { results := [.lit (.bool false)], args := [d1, d2, d3, d4] }
  | _ => none }
def RewriteInnerBackWrongFalsely : Prop := rewriteInnerBackRow.holds Try.pinned (OpenSpec.ofChange rewriteInnerBackWrong)

/- THE SECOND FORM. 'bulk': how many values and letters a reading holds, each counted each time it is reached (what is shared counts as often as it is met; a slice's spare places count too). A statement '..UptoSaid' is the law's where the arguments, and the package variables that the reading takes, are together of bulk at most 1048576: NARROWER than '..Said'. Prove '..Said' where nothing that the law and all that it calls make is longer than what came in: it says more and counts as full. Else prove '..UptoSaid'. A law counts once. -/
mutual
def uptoBulk {H : Type} : DataW H → Nat
  | .lit (.string bytes) => bytes.length + 1
  | .lit _ => 1
  | .nil => 1
  | .ptr d => uptoBulk d + 1
  | .slice elems spare => uptoBulkAll elems + uptoBulkAll spare + 1
  | .agg parts => uptoBulkAll parts + 1
  | .iface _ d => uptoBulk d + 1
  | .map entries => uptoBulkEntries entries + 1
  | .held _ => 1
def uptoBulkAll {H : Type} : List (DataW H) → Nat
  | [] => 0
  | d :: r => uptoBulk d + uptoBulkAll r
def uptoBulkEntries {H : Type} : List (Lit × DataW H) → Nat
  | [] => 0
  | x :: r => uptoBulkEntry x + uptoBulkEntries r
def uptoBulkEntry {H : Type} : Lit × DataW H → Nat
  | (.string bytes, d) => bytes.length + uptoBulk d + 1
  | (_, d) => uptoBulk d + 1
 end
def uptoSmall : (H : Type) → List (DataW H) → Bool := fun _ ds => decide (uptoBulkAll ds ≤ 1048576)
def OpenSpec.upto (s : _root_.Go.ChangeSpec) : _root_.Go.OpenSpec := { _root_.Go.OpenSpec.ofChange s with cond := some uptoSmall }

/-- 'lychlaw22.FramesRead', WHERE WHAT IT READS IS OF BULK AT MOST 1048576: true; the input reads as it did. -/
def framesReadUptoRow : OpenClaim := { program := "ytkmimamminddiaa", sum := "b6cd68f166cbb697ad9b862eefea4607b813b65c6e750f27293adc1dc8d6fac4", func := "lych/lychlaw22.FramesRead", spec := "framesRead", unfollowed := true, recurses := true, apart := false, narrowed := true }
def FramesReadUptoSaid : Prop := framesReadUptoRow.holds Try.pinned (OpenSpec.upto framesReadSpec)

/-- 'lychlaw22.FramesWrite', WHERE WHAT IT READS IS OF BULK AT MOST 1048576: true; the input reads as it did. -/
def framesWriteUptoRow : OpenClaim := { program := "ytkmimamminddiaa", sum := "b6cd68f166cbb697ad9b862eefea4607b813b65c6e750f27293adc1dc8d6fac4", func := "lych/lychlaw22.FramesWrite", spec := "framesWrite", unfollowed := true, recurses := true, apart := false, narrowed := true }
def FramesWriteUptoSaid : Prop := framesWriteUptoRow.holds Try.pinned (OpenSpec.upto framesWriteSpec)

/-- 'lychlaw22.FramesBack', WHERE WHAT IT READS IS OF BULK AT MOST 1048576: true; the input reads as it did. -/
def framesBackUptoRow : OpenClaim := { program := "ytkmimamminddiaa", sum := "b6cd68f166cbb697ad9b862eefea4607b813b65c6e750f27293adc1dc8d6fac4", func := "lych/lychlaw22.FramesBack", spec := "framesBack", unfollowed := true, recurses := true, apart := false, narrowed := true }
def FramesBackUptoSaid : Prop := framesBackUptoRow.holds Try.pinned (OpenSpec.upto framesBackSpec)

/-- 'lychlaw8.RewriteLooks', WHERE WHAT IT READS IS OF BULK AT MOST 1048576: true; the input reads as it did. -/
def rewriteLooksUptoRow : OpenClaim := { program := "ytkmimamminddiaa", sum := "b6cd68f166cbb697ad9b862eefea4607b813b65c6e750f27293adc1dc8d6fac4", func := "lych/lychlaw8.RewriteLooks", spec := "rewriteLooks", unfollowed := true, recurses := true, apart := false, narrowed := true }
def RewriteLooksUptoSaid : Prop := rewriteLooksUptoRow.holds Try.pinned (OpenSpec.upto rewriteLooksSpec)

/-- 'lychlaw8.RewriteChanges', WHERE WHAT IT READS IS OF BULK AT MOST 1048576: true; the input reads as it did. -/
def rewriteChangesUptoRow : OpenClaim := { program := "ytkmimamminddiaa", sum := "b6cd68f166cbb697ad9b862eefea4607b813b65c6e750f27293adc1dc8d6fac4", func := "lych/lychlaw8.RewriteChanges", spec := "rewriteChanges", unfollowed := true, recurses := true, apart := false, narrowed := true }
def RewriteChangesUptoSaid : Prop := rewriteChangesUptoRow.holds Try.pinned (OpenSpec.upto rewriteChangesSpec)

/-- 'lychlaw8.RewriteHops', WHERE WHAT IT READS IS OF BULK AT MOST 1048576: true; the input reads as it did. -/
def rewriteHopsUptoRow : OpenClaim := { program := "ytkmimamminddiaa", sum := "b6cd68f166cbb697ad9b862eefea4607b813b65c6e750f27293adc1dc8d6fac4", func := "lych/lychlaw8.RewriteHops", spec := "rewriteHops", unfollowed := true, recurses := true, apart := false, narrowed := true }
def RewriteHopsUptoSaid : Prop := rewriteHopsUptoRow.holds Try.pinned (OpenSpec.upto rewriteHopsSpec)

/-- 'lychlaw8.RewriteBack', WHERE WHAT IT READS IS OF BULK AT MOST 1048576: true; the input reads as it did. -/
def rewriteBackUptoRow : OpenClaim := { program := "ytkmimamminddiaa", sum := "b6cd68f166cbb697ad9b862eefea4607b813b65c6e750f27293adc1dc8d6fac4", func := "lych/lychlaw8.RewriteBack", spec := "rewriteBack", unfollowed := true, recurses := true, apart := false, narrowed := true }
def RewriteBackUptoSaid : Prop := rewriteBackUptoRow.holds Try.pinned (OpenSpec.upto rewriteBackSpec)

/-- 'lychlaw8.RewriteKeeps', WHERE WHAT IT READS IS OF BULK AT MOST 1048576: true; the input reads as it did. -/
def rewriteKeepsUptoRow : OpenClaim := { program := "ytkmimamminddiaa", sum := "b6cd68f166cbb697ad9b862eefea4607b813b65c6e750f27293adc1dc8d6fac4", func := "lych/lychlaw8.RewriteKeeps", spec := "rewriteKeeps", unfollowed := true, recurses := true, apart := false, narrowed := true }
def RewriteKeepsUptoSaid : Prop := rewriteKeepsUptoRow.holds Try.pinned (OpenSpec.upto rewriteKeepsSpec)

/-- 'lychlaw8.RewriteHopsOut', WHERE WHAT IT READS IS OF BULK AT MOST 1048576: true; the input reads as it did. -/
def rewriteHopsOutUptoRow : OpenClaim := { program := "ytkmimamminddiaa", sum := "b6cd68f166cbb697ad9b862eefea4607b813b65c6e750f27293adc1dc8d6fac4", func := "lych/lychlaw8.RewriteHopsOut", spec := "rewriteHopsOut", unfollowed := true, recurses := true, apart := false, narrowed := true }
def RewriteHopsOutUptoSaid : Prop := rewriteHopsOutUptoRow.holds Try.pinned (OpenSpec.upto rewriteHopsOutSpec)

/-- 'lychlaw8.RewriteInner', WHERE WHAT IT READS IS OF BULK AT MOST 1048576: true; the input reads as it did. -/
def rewriteInnerUptoRow : OpenClaim := { program := "ytkmimamminddiaa", sum := "b6cd68f166cbb697ad9b862eefea4607b813b65c6e750f27293adc1dc8d6fac4", func := "lych/lychlaw8.RewriteInner", spec := "rewriteInner", unfollowed := true, recurses := true, apart := false, narrowed := true }
def RewriteInnerUptoSaid : Prop := rewriteInnerUptoRow.holds Try.pinned (OpenSpec.upto rewriteInnerSpec)

/-- 'lychlaw8.RewriteInnerBack', WHERE WHAT IT READS IS OF BULK AT MOST 1048576: true; the input reads as it did. -/
def rewriteInnerBackUptoRow : OpenClaim := { program := "ytkmimamminddiaa", sum := "b6cd68f166cbb697ad9b862eefea4607b813b65c6e750f27293adc1dc8d6fac4", func := "lych/lychlaw8.RewriteInnerBack", spec := "rewriteInnerBack", unfollowed := true, recurses := true, apart := false, narrowed := true }
def RewriteInnerBackUptoSaid : Prop := rewriteInnerBackUptoRow.holds Try.pinned (OpenSpec.upto rewriteInnerBackSpec)

end Rows
end Go.Proofs.Ytkmimamminddiaa
