/-
  DERIVED. GIVEN WITH THE SEED: THE CARDS: each row of YtgeggcifhojpmaaDoorRows.lean that lists a variable, with what it lists TIED to the program's text (the seventh form; the later family's looks); each row that meets fmt, with fmt's text TOLD by the authors' own Lean function (tested against real Go, not proved from fmt's source: count such statements apart). THE CARD IS WHAT COUNTS. Prove the row's statement (the work); the ties are given (YtgeggcifhojpmaaDoorTie.lean); close each card by the builder's one call (the guide's Derived/Test/ToyasCard.lean, 'card_holds'). Laid BY PROGRAM, IN A SANDBOX (cutbox-door.mjs). By AI agents, Wed Nov 11 2026. No macro, syntax, notation, axiom, sorry.
-/
import Derived.Test.YtgeggcifhojpmaaDoorRows
import GoSem.ClaimSeven
namespace Go.Proofs.YtgeggcifhojpmaaDoor
namespace Rows

/-- THE TIED CARD OF 'lychlaw10.LogSums'. -/
def logSumsCard : Claim7 := { stood := { row := logSumsRow, standIns := [], harness := (true, "d6af000c36f002e728fe3a0d9820601450968c7f60402185504d7936053a82d1"), looks := true }, kinds := [], alts := [], laidByText := true, laidKinds := [.sentinel], laidTests := true, laidLooks := .later }
def LogSumsCardSaid : Prop := Claim7.holds Tryd.pinned (.plain (OpenSpec.ofChange logSumsSpec)) logSumsCard

/-- THE TIED CARD OF 'lychlaw10.LogKeeps'. -/
def logKeepsCard : Claim7 := { stood := { row := logKeepsRow, standIns := [], harness := (true, "d6af000c36f002e728fe3a0d9820601450968c7f60402185504d7936053a82d1"), looks := true }, kinds := [], alts := [], laidByText := true, laidKinds := [.sentinel], laidTests := true, laidLooks := .later }
def LogKeepsCardSaid : Prop := Claim7.holds Tryd.pinned (.plain (OpenSpec.ofChange logKeepsSpec)) logKeepsCard

/-- THE TIED CARD OF 'lychlaw10.LogMany'. -/
def logManyCard : Claim7 := { stood := { row := logManyRow, standIns := [], harness := (true, "d6af000c36f002e728fe3a0d9820601450968c7f60402185504d7936053a82d1"), looks := true }, kinds := [], alts := [], laidByText := true, laidKinds := [.sentinel], laidTests := true, laidLooks := .later }
def LogManyCardSaid : Prop := Claim7.holds Tryd.pinned (.plain (OpenSpec.ofChange logManySpec)) logManyCard

/-- THE TIED CARD OF 'lychlaw10.LogRooms'. -/
def logRoomsCard : Claim7 := { stood := { row := logRoomsRow, standIns := [], harness := (true, "d6af000c36f002e728fe3a0d9820601450968c7f60402185504d7936053a82d1"), looks := true }, kinds := [], alts := [], laidByText := true, laidKinds := [.sentinel], laidTests := true, laidLooks := .later }
def LogRoomsCardSaid : Prop := Claim7.holds Tryd.pinned (.plain (OpenSpec.ofChange logRoomsSpec)) logRoomsCard

/-- THE TIED CARD OF 'lychlaw10.LogFalls'. -/
def logFallsCard : Claim7 := { stood := { row := logFallsRow, standIns := [], harness := (true, "d6af000c36f002e728fe3a0d9820601450968c7f60402185504d7936053a82d1"), looks := true }, kinds := [], alts := [], laidByText := true, laidKinds := [.sentinel], laidTests := true, laidLooks := .later }
def LogFallsCardSaid : Prop := Claim7.holds Tryd.pinned (.plain (OpenSpec.ofChange logFallsSpec)) logFallsCard

/-- THE TIED CARD OF 'lychlaw10.LogOnly'. -/
def logOnlyCard : Claim7 := { stood := { row := logOnlyRow, standIns := [], harness := (true, "d6af000c36f002e728fe3a0d9820601450968c7f60402185504d7936053a82d1"), looks := true }, kinds := [], alts := [], laidByText := true, laidKinds := [.sentinel], laidTests := true, laidLooks := .later }
def LogOnlyCardSaid : Prop := Claim7.holds Tryd.pinned (.plain (OpenSpec.ofChange logOnlySpec)) logOnlyCard

/-- THE TIED CARD OF 'lychlaw10.LogTwice'. -/
def logTwiceCard : Claim7 := { stood := { row := logTwiceRow, standIns := [], harness := (true, "d6af000c36f002e728fe3a0d9820601450968c7f60402185504d7936053a82d1"), looks := true }, kinds := [], alts := [], laidByText := true, laidKinds := [.sentinel], laidTests := true, laidLooks := .later }
def LogTwiceCardSaid : Prop := Claim7.holds Tryd.pinned (.plain (OpenSpec.ofChange logTwiceSpec)) logTwiceCard

/-- THE SECOND FORM's CARD OF 'lychlaw10.LogSums'. -/
def logSumsUptoCard : Claim7 := { stood := { row := logSumsUptoRow, standIns := [], harness := (true, "d6af000c36f002e728fe3a0d9820601450968c7f60402185504d7936053a82d1"), looks := true }, kinds := [], alts := [], laidByText := true, laidKinds := [.sentinel], laidTests := true, laidLooks := .later }
def LogSumsUptoCardSaid : Prop := Claim7.holds Tryd.pinned (.plain (OpenSpec.upto logSumsSpec)) logSumsUptoCard

/-- THE SECOND FORM's CARD OF 'lychlaw10.LogKeeps'. -/
def logKeepsUptoCard : Claim7 := { stood := { row := logKeepsUptoRow, standIns := [], harness := (true, "d6af000c36f002e728fe3a0d9820601450968c7f60402185504d7936053a82d1"), looks := true }, kinds := [], alts := [], laidByText := true, laidKinds := [.sentinel], laidTests := true, laidLooks := .later }
def LogKeepsUptoCardSaid : Prop := Claim7.holds Tryd.pinned (.plain (OpenSpec.upto logKeepsSpec)) logKeepsUptoCard

/-- THE SECOND FORM's CARD OF 'lychlaw10.LogMany'. -/
def logManyUptoCard : Claim7 := { stood := { row := logManyUptoRow, standIns := [], harness := (true, "d6af000c36f002e728fe3a0d9820601450968c7f60402185504d7936053a82d1"), looks := true }, kinds := [], alts := [], laidByText := true, laidKinds := [.sentinel], laidTests := true, laidLooks := .later }
def LogManyUptoCardSaid : Prop := Claim7.holds Tryd.pinned (.plain (OpenSpec.upto logManySpec)) logManyUptoCard

/-- THE SECOND FORM's CARD OF 'lychlaw10.LogRooms'. -/
def logRoomsUptoCard : Claim7 := { stood := { row := logRoomsUptoRow, standIns := [], harness := (true, "d6af000c36f002e728fe3a0d9820601450968c7f60402185504d7936053a82d1"), looks := true }, kinds := [], alts := [], laidByText := true, laidKinds := [.sentinel], laidTests := true, laidLooks := .later }
def LogRoomsUptoCardSaid : Prop := Claim7.holds Tryd.pinned (.plain (OpenSpec.upto logRoomsSpec)) logRoomsUptoCard

/-- THE SECOND FORM's CARD OF 'lychlaw10.LogFalls'. -/
def logFallsUptoCard : Claim7 := { stood := { row := logFallsUptoRow, standIns := [], harness := (true, "d6af000c36f002e728fe3a0d9820601450968c7f60402185504d7936053a82d1"), looks := true }, kinds := [], alts := [], laidByText := true, laidKinds := [.sentinel], laidTests := true, laidLooks := .later }
def LogFallsUptoCardSaid : Prop := Claim7.holds Tryd.pinned (.plain (OpenSpec.upto logFallsSpec)) logFallsUptoCard

/-- THE SECOND FORM's CARD OF 'lychlaw10.LogOnly'. -/
def logOnlyUptoCard : Claim7 := { stood := { row := logOnlyUptoRow, standIns := [], harness := (true, "d6af000c36f002e728fe3a0d9820601450968c7f60402185504d7936053a82d1"), looks := true }, kinds := [], alts := [], laidByText := true, laidKinds := [.sentinel], laidTests := true, laidLooks := .later }
def LogOnlyUptoCardSaid : Prop := Claim7.holds Tryd.pinned (.plain (OpenSpec.upto logOnlySpec)) logOnlyUptoCard

/-- THE SECOND FORM's CARD OF 'lychlaw10.LogTwice'. -/
def logTwiceUptoCard : Claim7 := { stood := { row := logTwiceUptoRow, standIns := [], harness := (true, "d6af000c36f002e728fe3a0d9820601450968c7f60402185504d7936053a82d1"), looks := true }, kinds := [], alts := [], laidByText := true, laidKinds := [.sentinel], laidTests := true, laidLooks := .later }
def LogTwiceUptoCardSaid : Prop := Claim7.holds Tryd.pinned (.plain (OpenSpec.upto logTwiceSpec)) logTwiceUptoCard
end Rows
end Go.Proofs.YtgeggcifhojpmaaDoor
