/-
  NARROWER THAN 'FOR EVERY INPUT', by the rows' own cells (each row's printed sentence says how): LogSums: laid · LogKeeps: laid · LogMany: laid · LogRooms: laid · LogFalls: laid · LogOnly: laid · LogTwice: laid.
  DERIVED. THE GIVEN ROWS OF THIS SEAT. 7 by the template 'for every input the law returns true; each argument reads behind the call as it read before'; 0 by the template 'total and deterministic' (their statements: YtgeggcifhojpmaaDoorTotals.lean).
  GIVEN WITH THE SEED: the statements are not yours to turn. If you find one false, say at which input.
  Laid BY PROGRAM, IN A SANDBOX (cutbox-rows.mjs): the forced cells as the released guide's own fill.sh prints them over the translation 95385ff3850b66b8… (all of the seat's roots in one cut). By AI agents, Wed Nov 11 2026. No macro, syntax, notation, axiom, sorry.
-/
import Derived.Test.YtgeggcifhojpmaaDoorChecked
import GoSem.Claim
import GoSem.ClaimJoined
import GoSem.ClaimMapViews
import Derived.JoinedTies
import Derived.KernelRfl
namespace Go.Proofs.YtgeggcifhojpmaaDoor
/- THE CELL 'sum', in the pinned program and in every row, IS THE sha256 OF THE DUMP (.gsa) THAT YtgeggcifhojpmaaDoorProg.lean LOADS. Nothing in Lean hashes anything: it is a label: what it is worth is what the hold of that sum in a sandbox is worth. -/
noncomputable def Tryd.pinned : Pinned := { name := "ytgeggcifhojpmaadoor", sum := "95385ff3850b66b86bc087169515968b9f1ddb29895dd1c61b944be48554d367", checked := Tryd.checked }
namespace Rows
def none {H : Type} : Left H := { results := [], args := [] }

/- WHAT THE LISTED PACKAGE-LEVEL VARIABLES READ AS WHEN THE CALL BEGINS. Each datum BY PROGRAM (the guide's laid-datum.mjs) off the statement by which the dump's own 'gosem.cut.vars' lays the variable. In a bare row this is a premise. The card (YtgeggcifhojpmaaDoorCards.lean) ties it to the program's text. -/
def laid_lych_log_errBlock {H : Type} : DataW H := .iface "*errors.errorString" (.ptr (.agg [.lit (.string [110, 111, 32, 115, 117, 99, 104, 32, 98, 108, 111, 99, 107])]))

/-- 'lychlaw10.LogSums': WHATEVER THE INPUT: true; the input reads as it did. -/
def logSumsSpec : ChangeSpec := { name := "logSums", fn := fun _ => fun
  | [d] => { results := [.lit (.bool true)], args := [d] }
  | _ => none }
def logSumsRow : OpenClaim := { program := "ytgeggcifhojpmaadoor", sum := "95385ff3850b66b86bc087169515968b9f1ddb29895dd1c61b944be48554d367", func := "lych/lychlaw10.LogSums", spec := "logSums", inPlace := ["internal/reflectlite.TypeOf"], unfollowed := true, recurses := true, named := ["lych/log.errBlock"], apart := false, laid := [("lych/log.errBlock", laid_lych_log_errBlock)] }
def LogSumsSaid : Prop := logSumsRow.holds Tryd.pinned (OpenSpec.ofChange logSumsSpec)

/-- ITS FALSE NEIGHBOUR: 'it returns false'. Refute it at one input. -/
def logSumsWrong : ChangeSpec := { name := "logSums", fn := fun _ => fun
  | [d] => { results := [.lit (.bool false)], args := [d] }
  | _ => none }
def LogSumsWrongFalsely : Prop := logSumsRow.holds Tryd.pinned (OpenSpec.ofChange logSumsWrong)

/-- 'lychlaw10.LogKeeps': WHATEVER THE INPUT: true; the input reads as it did. -/
def logKeepsSpec : ChangeSpec := { name := "logKeeps", fn := fun _ => fun
  | [d1, d2, d3, d4] => { results := [.lit (.bool true)], args := [d1, d2, d3, d4] }
  | _ => none }
def logKeepsRow : OpenClaim := { program := "ytgeggcifhojpmaadoor", sum := "95385ff3850b66b86bc087169515968b9f1ddb29895dd1c61b944be48554d367", func := "lych/lychlaw10.LogKeeps", spec := "logKeeps", inPlace := ["internal/reflectlite.TypeOf"], unfollowed := true, recurses := true, named := ["lych/log.errBlock"], apart := false, laid := [("lych/log.errBlock", laid_lych_log_errBlock)] }
def LogKeepsSaid : Prop := logKeepsRow.holds Tryd.pinned (OpenSpec.ofChange logKeepsSpec)

/-- ITS FALSE NEIGHBOUR: 'it returns false'. Refute it at one input. -/
def logKeepsWrong : ChangeSpec := { name := "logKeeps", fn := fun _ => fun
  | [d1, d2, d3, d4] => { results := [.lit (.bool false)], args := [d1, d2, d3, d4] }
  | _ => none }
def LogKeepsWrongFalsely : Prop := logKeepsRow.holds Tryd.pinned (OpenSpec.ofChange logKeepsWrong)

/-- 'lychlaw10.LogMany': WHATEVER THE INPUT: true; the input reads as it did. -/
def logManySpec : ChangeSpec := { name := "logMany", fn := fun _ => fun
  | [d1, d2, d3, d4] => { results := [.lit (.bool true)], args := [d1, d2, d3, d4] }
  | _ => none }
def logManyRow : OpenClaim := { program := "ytgeggcifhojpmaadoor", sum := "95385ff3850b66b86bc087169515968b9f1ddb29895dd1c61b944be48554d367", func := "lych/lychlaw10.LogMany", spec := "logMany", inPlace := ["internal/reflectlite.TypeOf"], unfollowed := true, recurses := true, named := ["lych/log.errBlock"], apart := false, laid := [("lych/log.errBlock", laid_lych_log_errBlock)] }
def LogManySaid : Prop := logManyRow.holds Tryd.pinned (OpenSpec.ofChange logManySpec)

/-- ITS FALSE NEIGHBOUR: 'it returns false'. Refute it at one input. -/
def logManyWrong : ChangeSpec := { name := "logMany", fn := fun _ => fun
  | [d1, d2, d3, d4] => { results := [.lit (.bool false)], args := [d1, d2, d3, d4] }
  | _ => none }
def LogManyWrongFalsely : Prop := logManyRow.holds Tryd.pinned (OpenSpec.ofChange logManyWrong)

/-- 'lychlaw10.LogRooms': WHATEVER THE INPUT: true; the input reads as it did. -/
def logRoomsSpec : ChangeSpec := { name := "logRooms", fn := fun _ => fun
  | [d1, d2] => { results := [.lit (.bool true)], args := [d1, d2] }
  | _ => none }
def logRoomsRow : OpenClaim := { program := "ytgeggcifhojpmaadoor", sum := "95385ff3850b66b86bc087169515968b9f1ddb29895dd1c61b944be48554d367", func := "lych/lychlaw10.LogRooms", spec := "logRooms", inPlace := ["internal/reflectlite.TypeOf"], unfollowed := true, recurses := true, named := ["lych/log.errBlock"], apart := false, laid := [("lych/log.errBlock", laid_lych_log_errBlock)] }
def LogRoomsSaid : Prop := logRoomsRow.holds Tryd.pinned (OpenSpec.ofChange logRoomsSpec)

/-- ITS FALSE NEIGHBOUR: 'it returns false'. Refute it at one input. -/
def logRoomsWrong : ChangeSpec := { name := "logRooms", fn := fun _ => fun
  | [d1, d2] => { results := [.lit (.bool false)], args := [d1, d2] }
  | _ => none }
def LogRoomsWrongFalsely : Prop := logRoomsRow.holds Tryd.pinned (OpenSpec.ofChange logRoomsWrong)

/-- 'lychlaw10.LogFalls': WHATEVER THE INPUT: true; the input reads as it did. -/
def logFallsSpec : ChangeSpec := { name := "logFalls", fn := fun _ => fun
  | [d1, d2, d3, d4, d5, d6] => { results := [.lit (.bool true)], args := [d1, d2, d3, d4, d5, d6] }
  | _ => none }
def logFallsRow : OpenClaim := { program := "ytgeggcifhojpmaadoor", sum := "95385ff3850b66b86bc087169515968b9f1ddb29895dd1c61b944be48554d367", func := "lych/lychlaw10.LogFalls", spec := "logFalls", inPlace := ["internal/reflectlite.TypeOf"], unfollowed := true, recurses := true, named := ["lych/log.errBlock"], apart := false, laid := [("lych/log.errBlock", laid_lych_log_errBlock)] }
def LogFallsSaid : Prop := logFallsRow.holds Tryd.pinned (OpenSpec.ofChange logFallsSpec)

/-- ITS FALSE NEIGHBOUR: 'it returns false'. Refute it at one input. -/
def logFallsWrong : ChangeSpec := { name := "logFalls", fn := fun _ => fun
  | [d1, d2, d3, d4, d5, d6] => { results := [.lit (.bool false)], args := [d1, d2, d3, d4, d5, d6] }
  | _ => none }
def LogFallsWrongFalsely : Prop := logFallsRow.holds Tryd.pinned (OpenSpec.ofChange logFallsWrong)

/-- 'lychlaw10.LogOnly': WHATEVER THE INPUT: true; the input reads as it did. -/
def logOnlySpec : ChangeSpec := { name := "logOnly", fn := fun _ => fun
  | [d1, d2, d3] => { results := [.lit (.bool true)], args := [d1, d2, d3] }
  | _ => none }
def logOnlyRow : OpenClaim := { program := "ytgeggcifhojpmaadoor", sum := "95385ff3850b66b86bc087169515968b9f1ddb29895dd1c61b944be48554d367", func := "lych/lychlaw10.LogOnly", spec := "logOnly", inPlace := ["internal/reflectlite.TypeOf"], unfollowed := true, recurses := true, named := ["lych/log.errBlock"], apart := false, laid := [("lych/log.errBlock", laid_lych_log_errBlock)] }
def LogOnlySaid : Prop := logOnlyRow.holds Tryd.pinned (OpenSpec.ofChange logOnlySpec)

/-- ITS FALSE NEIGHBOUR: 'it returns false'. Refute it at one input. -/
def logOnlyWrong : ChangeSpec := { name := "logOnly", fn := fun _ => fun
  | [d1, d2, d3] => { results := [.lit (.bool false)], args := [d1, d2, d3] }
  | _ => none }
def LogOnlyWrongFalsely : Prop := logOnlyRow.holds Tryd.pinned (OpenSpec.ofChange logOnlyWrong)

/-- 'lychlaw10.LogTwice': WHATEVER THE INPUT: true; the input reads as it did. -/
def logTwiceSpec : ChangeSpec := { name := "logTwice", fn := fun _ => fun
  | [d1, d2, d3] => { results := [.lit (.bool true)], args := [d1, d2, d3] }
  | _ => none }
def logTwiceRow : OpenClaim := { program := "ytgeggcifhojpmaadoor", sum := "95385ff3850b66b86bc087169515968b9f1ddb29895dd1c61b944be48554d367", func := "lych/lychlaw10.LogTwice", spec := "logTwice", inPlace := ["internal/reflectlite.TypeOf"], unfollowed := true, recurses := true, named := ["lych/log.errBlock"], apart := false, laid := [("lych/log.errBlock", laid_lych_log_errBlock)] }
def LogTwiceSaid : Prop := logTwiceRow.holds Tryd.pinned (OpenSpec.ofChange logTwiceSpec)

/-- ITS FALSE NEIGHBOUR: 'it returns false'. Refute it at one input. -/
def logTwiceWrong : ChangeSpec := { name := "logTwice", fn := fun _ => fun
  | [d1, d2, d3] => { results := [.lit (.bool false)], args := [d1, d2, d3] }
  | _ => none }
def LogTwiceWrongFalsely : Prop := logTwiceRow.holds Tryd.pinned (OpenSpec.ofChange logTwiceWrong)

/- THE SECOND FORM. 'bulk': how many values and letters a reading holds, each counted each time it is reached (what is shared counts as often as it is met; a slice's spare places count too). A statement '..UptoSaid' is the law's where the arguments, and the package variables that the reading takes, are together of bulk at most 1048576: NARROWER than '..Said'. Prove '..Said' where nothing that the law and all that it calls make is longer than what came in: it says more and counts as full. Else prove '..UptoSaid'. A law counts once. -/
mutual
def uptoBulk {H : Type} : DataW H → Nat
  | .lit (.string bytes) => bytes.length + 1
  | .lit _ => 1
  | .nil => 1
  | .ptr d => uptoBulk d + 1
  | .slice elems spare => uptoBulkAll elems + uptoBulkAll spare + 1
  | .agg parts => uptoBulkAll parts + 1
  | .iface _ d => uptoBulk d + 1
  | .map entries => uptoBulkEntries entries + 1
  | .held _ => 1
def uptoBulkAll {H : Type} : List (DataW H) → Nat
  | [] => 0
  | d :: r => uptoBulk d + uptoBulkAll r
def uptoBulkEntries {H : Type} : List (Lit × DataW H) → Nat
  | [] => 0
  | x :: r => uptoBulkEntry x + uptoBulkEntries r
def uptoBulkEntry {H : Type} : Lit × DataW H → Nat
  | (.string bytes, d) => bytes.length + uptoBulk d + 1
  | (_, d) => uptoBulk d + 1
 end
def uptoSmall : (H : Type) → List (DataW H) → Bool := fun _ ds => decide (uptoBulkAll ds ≤ 1048576)
def OpenSpec.upto (s : _root_.Go.ChangeSpec) : _root_.Go.OpenSpec := { _root_.Go.OpenSpec.ofChange s with cond := some uptoSmall }

/-- 'lychlaw10.LogSums', WHERE WHAT IT READS IS OF BULK AT MOST 1048576: true; the input reads as it did. -/
def logSumsUptoRow : OpenClaim := { program := "ytgeggcifhojpmaadoor", sum := "95385ff3850b66b86bc087169515968b9f1ddb29895dd1c61b944be48554d367", func := "lych/lychlaw10.LogSums", spec := "logSums", inPlace := ["internal/reflectlite.TypeOf"], unfollowed := true, recurses := true, named := ["lych/log.errBlock"], apart := false, laid := [("lych/log.errBlock", laid_lych_log_errBlock)], narrowed := true }
def LogSumsUptoSaid : Prop := logSumsUptoRow.holds Tryd.pinned (OpenSpec.upto logSumsSpec)

/-- 'lychlaw10.LogKeeps', WHERE WHAT IT READS IS OF BULK AT MOST 1048576: true; the input reads as it did. -/
def logKeepsUptoRow : OpenClaim := { program := "ytgeggcifhojpmaadoor", sum := "95385ff3850b66b86bc087169515968b9f1ddb29895dd1c61b944be48554d367", func := "lych/lychlaw10.LogKeeps", spec := "logKeeps", inPlace := ["internal/reflectlite.TypeOf"], unfollowed := true, recurses := true, named := ["lych/log.errBlock"], apart := false, laid := [("lych/log.errBlock", laid_lych_log_errBlock)], narrowed := true }
def LogKeepsUptoSaid : Prop := logKeepsUptoRow.holds Tryd.pinned (OpenSpec.upto logKeepsSpec)

/-- 'lychlaw10.LogMany', WHERE WHAT IT READS IS OF BULK AT MOST 1048576: true; the input reads as it did. -/
def logManyUptoRow : OpenClaim := { program := "ytgeggcifhojpmaadoor", sum := "95385ff3850b66b86bc087169515968b9f1ddb29895dd1c61b944be48554d367", func := "lych/lychlaw10.LogMany", spec := "logMany", inPlace := ["internal/reflectlite.TypeOf"], unfollowed := true, recurses := true, named := ["lych/log.errBlock"], apart := false, laid := [("lych/log.errBlock", laid_lych_log_errBlock)], narrowed := true }
def LogManyUptoSaid : Prop := logManyUptoRow.holds Tryd.pinned (OpenSpec.upto logManySpec)

/-- 'lychlaw10.LogRooms', WHERE WHAT IT READS IS OF BULK AT MOST 1048576: true; the input reads as it did. -/
def logRoomsUptoRow : OpenClaim := { program := "ytgeggcifhojpmaadoor", sum := "95385ff3850b66b86bc087169515968b9f1ddb29895dd1c61b944be48554d367", func := "lych/lychlaw10.LogRooms", spec := "logRooms", inPlace := ["internal/reflectlite.TypeOf"], unfollowed := true, recurses := true, named := ["lych/log.errBlock"], apart := false, laid := [("lych/log.errBlock", laid_lych_log_errBlock)], narrowed := true }
def LogRoomsUptoSaid : Prop := logRoomsUptoRow.holds Tryd.pinned (OpenSpec.upto logRoomsSpec)

/-- 'lychlaw10.LogFalls', WHERE WHAT IT READS IS OF BULK AT MOST 1048576: true; the input reads as it did. -/
def logFallsUptoRow : OpenClaim := { program := "ytgeggcifhojpmaadoor", sum := "95385ff3850b66b86bc087169515968b9f1ddb29895dd1c61b944be48554d367", func := "lych/lychlaw10.LogFalls", spec := "logFalls", inPlace := ["internal/reflectlite.TypeOf"], unfollowed := true, recurses := true, named := ["lych/log.errBlock"], apart := false, laid := [("lych/log.errBlock", laid_lych_log_errBlock)], narrowed := true }
def LogFallsUptoSaid : Prop := logFallsUptoRow.holds Tryd.pinned (OpenSpec.upto logFallsSpec)

/-- 'lychlaw10.LogOnly', WHERE WHAT IT READS IS OF BULK AT MOST 1048576: true; the input reads as it did. -/
def logOnlyUptoRow : OpenClaim := { program := "ytgeggcifhojpmaadoor", sum := "95385ff3850b66b86bc087169515968b9f1ddb29895dd1c61b944be48554d367", func := "lych/lychlaw10.LogOnly", spec := "logOnly", inPlace := ["internal/reflectlite.TypeOf"], unfollowed := true, recurses := true, named := ["lych/log.errBlock"], apart := false, laid := [("lych/log.errBlock", laid_lych_log_errBlock)], narrowed := true }
def LogOnlyUptoSaid : Prop := logOnlyUptoRow.holds Tryd.pinned (OpenSpec.upto logOnlySpec)

/-- 'lychlaw10.LogTwice', WHERE WHAT IT READS IS OF BULK AT MOST 1048576: true; the input reads as it did. -/
def logTwiceUptoRow : OpenClaim := { program := "ytgeggcifhojpmaadoor", sum := "95385ff3850b66b86bc087169515968b9f1ddb29895dd1c61b944be48554d367", func := "lych/lychlaw10.LogTwice", spec := "logTwice", inPlace := ["internal/reflectlite.TypeOf"], unfollowed := true, recurses := true, named := ["lych/log.errBlock"], apart := false, laid := [("lych/log.errBlock", laid_lych_log_errBlock)], narrowed := true }
def LogTwiceUptoSaid : Prop := logTwiceUptoRow.holds Tryd.pinned (OpenSpec.upto logTwiceSpec)

end Rows
end Go.Proofs.YtgeggcifhojpmaaDoor
