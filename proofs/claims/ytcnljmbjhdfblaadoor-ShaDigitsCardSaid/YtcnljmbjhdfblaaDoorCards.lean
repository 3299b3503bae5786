/-
  DERIVED. GIVEN WITH THE SEED: THE CARDS: each row of YtcnljmbjhdfblaaDoorRows.lean that lists a variable, with what it lists TIED to the program's text (the seventh form; the later family's looks); each row that meets fmt, with fmt's text TOLD by the authors' own Lean function (tested against real Go, not proved from fmt's source: count such statements apart). THE CARD IS WHAT COUNTS. Prove the row's statement (the work); the ties are given (YtcnljmbjhdfblaaDoorTie.lean); close each card by the builder's one call (the guide's Derived/Test/ToyasCard.lean, 'card_holds'). Laid BY PROGRAM, IN A SANDBOX (cutbox-door.mjs). By AI agents, Wed Nov 11 2026. No macro, syntax, notation, axiom, sorry.
-/
import Derived.Test.YtcnljmbjhdfblaaDoorRows
import GoSem.ClaimSeven
namespace Go.Proofs.YtcnljmbjhdfblaaDoor
namespace Rows

/-- THE TIED CARD OF 'silolaw03.ShaSums'. -/
def shaSumsCard : Claim7 := { stood := { row := shaSumsRow, standIns := [], harness := (true, "b95689aed11b426a7d48bdb70e039afe1465a653c03f8a7fcc5b473ff2d0982a"), looks := false }, kinds := [], alts := [], laidByText := true, laidKinds := [.data], laidTests := true, laidLooks := .later }
def ShaSumsCardSaid : Prop := Claim7.holds Tryd.pinned (.plain (OpenSpec.ofChange shaSumsSpec)) shaSumsCard

/-- THE TIED CARD OF 'silolaw03.ShaWords'. -/
def shaWordsCard : Claim7 := { stood := { row := shaWordsRow, standIns := [], harness := (true, "b95689aed11b426a7d48bdb70e039afe1465a653c03f8a7fcc5b473ff2d0982a"), looks := false }, kinds := [], alts := [], laidByText := true, laidKinds := [.data], laidTests := true, laidLooks := .later }
def ShaWordsCardSaid : Prop := Claim7.holds Tryd.pinned (.plain (OpenSpec.ofChange shaWordsSpec)) shaWordsCard

/-- THE TIED CARD OF 'silolaw03.ShaOrders'. -/
def shaOrdersCard : Claim7 := { stood := { row := shaOrdersRow, standIns := [], harness := (true, "b95689aed11b426a7d48bdb70e039afe1465a653c03f8a7fcc5b473ff2d0982a"), looks := false }, kinds := [], alts := [], laidByText := true, laidKinds := [.data], laidTests := true, laidLooks := .later }
def ShaOrdersCardSaid : Prop := Claim7.holds Tryd.pinned (.plain (OpenSpec.ofChange shaOrdersSpec)) shaOrdersCard

/-- THE TIED CARD OF 'silolaw03.ShaDigits'. -/
def shaDigitsCard : Claim7 := { stood := { row := shaDigitsRow, standIns := [], harness := (true, "b95689aed11b426a7d48bdb70e039afe1465a653c03f8a7fcc5b473ff2d0982a"), looks := false }, kinds := [], alts := [], laidByText := true, laidKinds := [.data], laidTests := true, laidLooks := .later }
def ShaDigitsCardSaid : Prop := Claim7.holds Tryd.pinned (.plain (OpenSpec.ofChange shaDigitsSpec)) shaDigitsCard

/-- THE SECOND FORM's CARD OF 'silolaw03.ShaSums'. -/
def shaSumsUptoCard : Claim7 := { stood := { row := shaSumsUptoRow, standIns := [], harness := (true, "b95689aed11b426a7d48bdb70e039afe1465a653c03f8a7fcc5b473ff2d0982a"), looks := false }, kinds := [], alts := [], laidByText := true, laidKinds := [.data], laidTests := true, laidLooks := .later }
def ShaSumsUptoCardSaid : Prop := Claim7.holds Tryd.pinned (.plain (OpenSpec.upto shaSumsSpec)) shaSumsUptoCard

/-- THE SECOND FORM's CARD OF 'silolaw03.ShaWords'. -/
def shaWordsUptoCard : Claim7 := { stood := { row := shaWordsUptoRow, standIns := [], harness := (true, "b95689aed11b426a7d48bdb70e039afe1465a653c03f8a7fcc5b473ff2d0982a"), looks := false }, kinds := [], alts := [], laidByText := true, laidKinds := [.data], laidTests := true, laidLooks := .later }
def ShaWordsUptoCardSaid : Prop := Claim7.holds Tryd.pinned (.plain (OpenSpec.upto shaWordsSpec)) shaWordsUptoCard

/-- THE SECOND FORM's CARD OF 'silolaw03.ShaOrders'. -/
def shaOrdersUptoCard : Claim7 := { stood := { row := shaOrdersUptoRow, standIns := [], harness := (true, "b95689aed11b426a7d48bdb70e039afe1465a653c03f8a7fcc5b473ff2d0982a"), looks := false }, kinds := [], alts := [], laidByText := true, laidKinds := [.data], laidTests := true, laidLooks := .later }
def ShaOrdersUptoCardSaid : Prop := Claim7.holds Tryd.pinned (.plain (OpenSpec.upto shaOrdersSpec)) shaOrdersUptoCard

/-- THE SECOND FORM's CARD OF 'silolaw03.ShaDigits'. -/
def shaDigitsUptoCard : Claim7 := { stood := { row := shaDigitsUptoRow, standIns := [], harness := (true, "b95689aed11b426a7d48bdb70e039afe1465a653c03f8a7fcc5b473ff2d0982a"), looks := false }, kinds := [], alts := [], laidByText := true, laidKinds := [.data], laidTests := true, laidLooks := .later }
def ShaDigitsUptoCardSaid : Prop := Claim7.holds Tryd.pinned (.plain (OpenSpec.upto shaDigitsSpec)) shaDigitsUptoCard
end Rows
end Go.Proofs.YtcnljmbjhdfblaaDoor
