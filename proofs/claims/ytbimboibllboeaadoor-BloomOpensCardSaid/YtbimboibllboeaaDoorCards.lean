/-
  DERIVED. GIVEN WITH THE SEED: THE CARDS: each row of YtbimboibllboeaaDoorRows.lean that lists a variable, with what it lists TIED to the program's text (the seventh form; the later family's looks); each row that meets fmt, with fmt's text TOLD by the authors' own Lean function (tested against real Go, not proved from fmt's source: count such statements apart). THE CARD IS WHAT COUNTS. Prove the row's statement (the work); the ties are given (YtbimboibllboeaaDoorTie.lean); close each card by the builder's one call (the guide's Derived/Test/ToyasCard.lean, 'card_holds'). Laid BY PROGRAM, IN A SANDBOX (cutbox-door.mjs). By AI agents, Wed Nov 11 2026. No macro, syntax, notation, axiom, sorry.
-/
import Derived.Test.YtbimboibllboeaaDoorRows
import GoSem.ClaimSeven
namespace Go.Proofs.YtbimboibllboeaaDoor
namespace Rows

/-- THE TIED CARD OF 'silolaw07.BloomMakes'. -/
def bloomMakesCard : Claim7 := { stood := { row := bloomMakesRow, standIns := [], harness := (true, "7742c5b464da3c886da8891a6c449cde2a18999d51a6bae94b58ef87586f7616"), looks := false }, kinds := [], alts := [], laidByText := true, laidKinds := [.data], laidTests := true, laidLooks := .later }
def BloomMakesCardSaid : Prop := Claim7.holds Tryd.pinned (.plain (OpenSpec.ofChange bloomMakesSpec)) bloomMakesCard

/-- THE TIED CARD OF 'silolaw07.BloomMore'. -/
def bloomMoreCard : Claim7 := { stood := { row := bloomMoreRow, standIns := [], harness := (true, "7742c5b464da3c886da8891a6c449cde2a18999d51a6bae94b58ef87586f7616"), looks := false }, kinds := [], alts := [], laidByText := true, laidKinds := [.data], laidTests := true, laidLooks := .later }
def BloomMoreCardSaid : Prop := Claim7.holds Tryd.pinned (.plain (OpenSpec.ofChange bloomMoreSpec)) bloomMoreCard

/-- THE TIED CARD OF 'silolaw07.BloomNil'. -/
def bloomNilCard : Claim7 := { stood := { row := bloomNilRow, standIns := [], harness := (true, "7742c5b464da3c886da8891a6c449cde2a18999d51a6bae94b58ef87586f7616"), looks := false }, kinds := [], alts := [], laidByText := true, laidKinds := [.data], laidTests := true, laidLooks := .later }
def BloomNilCardSaid : Prop := Claim7.holds Tryd.pinned (.plain (OpenSpec.ofChange bloomNilSpec)) bloomNilCard

/-- THE TIED CARD OF 'silolaw07.BloomNever'. -/
def bloomNeverCard : Claim7 := { stood := { row := bloomNeverRow, standIns := [], harness := (true, "7742c5b464da3c886da8891a6c449cde2a18999d51a6bae94b58ef87586f7616"), looks := false }, kinds := [], alts := [], laidByText := true, laidKinds := [.data], laidTests := true, laidLooks := .later }
def BloomNeverCardSaid : Prop := Claim7.holds Tryd.pinned (.plain (OpenSpec.ofChange bloomNeverSpec)) bloomNeverCard

/-- THE TIED CARD OF 'silolaw07.BloomOpens'. -/
def bloomOpensCard : Claim7 := { stood := { row := bloomOpensRow, standIns := [], harness := (true, "7742c5b464da3c886da8891a6c449cde2a18999d51a6bae94b58ef87586f7616"), looks := false }, kinds := [], alts := [], laidByText := true, laidKinds := [.data], laidTests := true, laidLooks := .later }
def BloomOpensCardSaid : Prop := Claim7.holds Tryd.pinned (.plain (OpenSpec.ofChange bloomOpensSpec)) bloomOpensCard

/-- THE SECOND FORM's CARD OF 'silolaw07.BloomMakes'. -/
def bloomMakesUptoCard : Claim7 := { stood := { row := bloomMakesUptoRow, standIns := [], harness := (true, "7742c5b464da3c886da8891a6c449cde2a18999d51a6bae94b58ef87586f7616"), looks := false }, kinds := [], alts := [], laidByText := true, laidKinds := [.data], laidTests := true, laidLooks := .later }
def BloomMakesUptoCardSaid : Prop := Claim7.holds Tryd.pinned (.plain (OpenSpec.upto bloomMakesSpec)) bloomMakesUptoCard

/-- THE SECOND FORM's CARD OF 'silolaw07.BloomMore'. -/
def bloomMoreUptoCard : Claim7 := { stood := { row := bloomMoreUptoRow, standIns := [], harness := (true, "7742c5b464da3c886da8891a6c449cde2a18999d51a6bae94b58ef87586f7616"), looks := false }, kinds := [], alts := [], laidByText := true, laidKinds := [.data], laidTests := true, laidLooks := .later }
def BloomMoreUptoCardSaid : Prop := Claim7.holds Tryd.pinned (.plain (OpenSpec.upto bloomMoreSpec)) bloomMoreUptoCard

/-- THE SECOND FORM's CARD OF 'silolaw07.BloomNil'. -/
def bloomNilUptoCard : Claim7 := { stood := { row := bloomNilUptoRow, standIns := [], harness := (true, "7742c5b464da3c886da8891a6c449cde2a18999d51a6bae94b58ef87586f7616"), looks := false }, kinds := [], alts := [], laidByText := true, laidKinds := [.data], laidTests := true, laidLooks := .later }
def BloomNilUptoCardSaid : Prop := Claim7.holds Tryd.pinned (.plain (OpenSpec.upto bloomNilSpec)) bloomNilUptoCard

/-- THE SECOND FORM's CARD OF 'silolaw07.BloomNever'. -/
def bloomNeverUptoCard : Claim7 := { stood := { row := bloomNeverUptoRow, standIns := [], harness := (true, "7742c5b464da3c886da8891a6c449cde2a18999d51a6bae94b58ef87586f7616"), looks := false }, kinds := [], alts := [], laidByText := true, laidKinds := [.data], laidTests := true, laidLooks := .later }
def BloomNeverUptoCardSaid : Prop := Claim7.holds Tryd.pinned (.plain (OpenSpec.upto bloomNeverSpec)) bloomNeverUptoCard

/-- THE SECOND FORM's CARD OF 'silolaw07.BloomOpens'. -/
def bloomOpensUptoCard : Claim7 := { stood := { row := bloomOpensUptoRow, standIns := [], harness := (true, "7742c5b464da3c886da8891a6c449cde2a18999d51a6bae94b58ef87586f7616"), looks := false }, kinds := [], alts := [], laidByText := true, laidKinds := [.data], laidTests := true, laidLooks := .later }
def BloomOpensUptoCardSaid : Prop := Claim7.holds Tryd.pinned (.plain (OpenSpec.upto bloomOpensSpec)) bloomOpensUptoCard
end Rows
end Go.Proofs.YtbimboibllboeaaDoor
