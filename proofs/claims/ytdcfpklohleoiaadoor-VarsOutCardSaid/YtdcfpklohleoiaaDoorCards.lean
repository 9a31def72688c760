/-
  DERIVED. GIVEN WITH THE SEED: THE CARDS: each row of YtdcfpklohleoiaaDoorRows.lean that lists a variable, with what it lists TIED to the program's text (the seventh form; the later family's looks); each row that meets fmt, with fmt's text TOLD by the authors' own Lean function (tested against real Go, not proved from fmt's source: count such statements apart). THE CARD IS WHAT COUNTS. Prove the row's statement (the work); the ties are given (YtdcfpklohleoiaaDoorTie.lean); close each card by the builder's one call (the guide's Derived/Test/ToyasCard.lean, 'card_holds'). Laid BY PROGRAM, IN A SANDBOX (cutbox-door.mjs). By AI agents, Wed Nov 11 2026. No macro, syntax, notation, axiom, sorry.
-/
import Derived.Test.YtdcfpklohleoiaaDoorRows
import GoSem.ClaimSeven
namespace Go.Proofs.YtdcfpklohleoiaaDoor
namespace Rows

/-- THE TIED CARD OF 'almonerlaw17.VarsSound'. -/
def varsSoundCard : Claim7 := { stood := { row := varsSoundRow, standIns := [], harness := (true, "c96c757bdfea8088c62c8c6dd3ba98ea580eaadc638996b6b88a8e78f8f2c5ff"), looks := true }, kinds := [], alts := [], laidByText := true, laidKinds := [.data, .pinned], laidTests := true, laidLooks := .later }
def VarsSoundCardSaid : Prop := Claim7.holds Tryd.pinned (.plain (OpenSpec.ofChange varsSoundSpec)) varsSoundCard

/-- THE TIED CARD OF 'almonerlaw17.VarsFull'. -/
def varsFullCard : Claim7 := { stood := { row := varsFullRow, standIns := [], harness := (true, "c96c757bdfea8088c62c8c6dd3ba98ea580eaadc638996b6b88a8e78f8f2c5ff"), looks := true }, kinds := [], alts := [], laidByText := true, laidKinds := [.data, .pinned], laidTests := true, laidLooks := .later }
def VarsFullCardSaid : Prop := Claim7.holds Tryd.pinned (.plain (OpenSpec.ofChange varsFullSpec)) varsFullCard

/-- THE TIED CARD OF 'almonerlaw17.VarsPlays'. -/
def varsPlaysCard : Claim7 := { stood := { row := varsPlaysRow, standIns := [], harness := (true, "c96c757bdfea8088c62c8c6dd3ba98ea580eaadc638996b6b88a8e78f8f2c5ff"), looks := true }, kinds := [], alts := [], laidByText := true, laidKinds := [.data, .pinned], laidTests := true, laidLooks := .later }
def VarsPlaysCardSaid : Prop := Claim7.holds Tryd.pinned (.plain (OpenSpec.ofChange varsPlaysSpec)) varsPlaysCard

/-- THE TIED CARD OF 'almonerlaw17.VarsOut'. -/
def varsOutCard : Claim7 := { stood := { row := varsOutRow, standIns := [], harness := (true, "c96c757bdfea8088c62c8c6dd3ba98ea580eaadc638996b6b88a8e78f8f2c5ff"), looks := true }, kinds := [], alts := [], laidByText := true, laidKinds := [.data, .pinned], laidTests := true, laidLooks := .later }
def VarsOutCardSaid : Prop := Claim7.holds Tryd.pinned (.plain (OpenSpec.ofChange varsOutSpec)) varsOutCard

/-- THE SECOND FORM's CARD OF 'almonerlaw17.VarsSound'. -/
def varsSoundUptoCard : Claim7 := { stood := { row := varsSoundUptoRow, standIns := [], harness := (true, "c96c757bdfea8088c62c8c6dd3ba98ea580eaadc638996b6b88a8e78f8f2c5ff"), looks := true }, kinds := [], alts := [], laidByText := true, laidKinds := [.data, .pinned], laidTests := true, laidLooks := .later }
def VarsSoundUptoCardSaid : Prop := Claim7.holds Tryd.pinned (.plain (OpenSpec.upto varsSoundSpec)) varsSoundUptoCard

/-- THE SECOND FORM's CARD OF 'almonerlaw17.VarsFull'. -/
def varsFullUptoCard : Claim7 := { stood := { row := varsFullUptoRow, standIns := [], harness := (true, "c96c757bdfea8088c62c8c6dd3ba98ea580eaadc638996b6b88a8e78f8f2c5ff"), looks := true }, kinds := [], alts := [], laidByText := true, laidKinds := [.data, .pinned], laidTests := true, laidLooks := .later }
def VarsFullUptoCardSaid : Prop := Claim7.holds Tryd.pinned (.plain (OpenSpec.upto varsFullSpec)) varsFullUptoCard

/-- THE SECOND FORM's CARD OF 'almonerlaw17.VarsPlays'. -/
def varsPlaysUptoCard : Claim7 := { stood := { row := varsPlaysUptoRow, standIns := [], harness := (true, "c96c757bdfea8088c62c8c6dd3ba98ea580eaadc638996b6b88a8e78f8f2c5ff"), looks := true }, kinds := [], alts := [], laidByText := true, laidKinds := [.data, .pinned], laidTests := true, laidLooks := .later }
def VarsPlaysUptoCardSaid : Prop := Claim7.holds Tryd.pinned (.plain (OpenSpec.upto varsPlaysSpec)) varsPlaysUptoCard

/-- THE SECOND FORM's CARD OF 'almonerlaw17.VarsOut'. -/
def varsOutUptoCard : Claim7 := { stood := { row := varsOutUptoRow, standIns := [], harness := (true, "c96c757bdfea8088c62c8c6dd3ba98ea580eaadc638996b6b88a8e78f8f2c5ff"), looks := true }, kinds := [], alts := [], laidByText := true, laidKinds := [.data, .pinned], laidTests := true, laidLooks := .later }
def VarsOutUptoCardSaid : Prop := Claim7.holds Tryd.pinned (.plain (OpenSpec.upto varsOutSpec)) varsOutUptoCard
end Rows
end Go.Proofs.YtdcfpklohleoiaaDoor
