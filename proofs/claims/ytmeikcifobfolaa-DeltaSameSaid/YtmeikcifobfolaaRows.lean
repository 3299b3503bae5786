/-
  No cell of these rows narrows 'for every input' (looked for: loops, veiled, ifaces, maps, wideKeys, modest, calm, conditions, laid).
  DERIVED. THE GIVEN ROWS OF THIS SEAT. 4 by the template 'for every input the law returns true; each argument reads behind the call as it read before'; 0 by the template 'total and deterministic' (their statements: YtmeikcifobfolaaTotals.lean).
  GIVEN WITH THE SEED: the statements are not yours to turn. If you find one false, say at which input.
  Laid BY PROGRAM, IN A SANDBOX (cutbox-rows.mjs): the forced cells as the released guide's own fill.sh prints them over the translation 0dfddfee0a0a169c… (all of the seat's roots in one cut). By AI agents, Wed Nov 11 2026. No macro, syntax, notation, axiom, sorry.
-/
import Derived.Test.YtmeikcifobfolaaChecked
import GoSem.Claim
import GoSem.ClaimJoined
import GoSem.ClaimMapViews
import Derived.JoinedTies
import Derived.KernelRfl
namespace Go.Proofs.Ytmeikcifobfolaa
/- THE CELL 'sum', in the pinned program and in every row, IS THE sha256 OF THE DUMP (.gsa) THAT YtmeikcifobfolaaProg.lean LOADS. Nothing in Lean hashes anything: it is a label: what it is worth is what the hold of that sum in a sandbox is worth. -/
noncomputable def Try.pinned : Pinned := { name := "ytmeikcifobfolaa", sum := "0dfddfee0a0a169c1bc48cde68410ab0f03aa8f05df4ea5baeb8989563f613cc", checked := Try.checked }
namespace Rows
def none {H : Type} : Left H := { results := [], args := [] }

/-- 'silolaw19.DeltaApplies': WHATEVER THE INPUT: true; the input reads as it did. -/
def deltaAppliesSpec : ChangeSpec := { name := "deltaApplies", fn := fun _ => fun
  | [d1, d2] => { results := [.lit (.bool true)], args := [d1, d2] }
  | _ => none }
def deltaAppliesRow : OpenClaim := { program := "ytmeikcifobfolaa", sum := "0dfddfee0a0a169c1bc48cde68410ab0f03aa8f05df4ea5baeb8989563f613cc", func := "silo/silolaw19.DeltaApplies", spec := "deltaApplies", apart := false }
def DeltaAppliesSaid : Prop := deltaAppliesRow.holds Try.pinned (OpenSpec.ofChange deltaAppliesSpec)

/-- ITS FALSE NEIGHBOUR: 'it returns false'. Refute it at one input. -/
def deltaAppliesWrong : ChangeSpec := { name := "deltaApplies", fn := fun _ => fun
  | [d1, d2] => { results := [.lit (.bool false)], args := [d1, d2] }
  | _ => none }
def DeltaAppliesWrongFalsely : Prop := deltaAppliesRow.holds Try.pinned (OpenSpec.ofChange deltaAppliesWrong)

/-- 'silolaw19.DeltaPieces': WHATEVER THE INPUT: true; the input reads as it did. -/
def deltaPiecesSpec : ChangeSpec := { name := "deltaPieces", fn := fun _ => fun
  | [d1, d2] => { results := [.lit (.bool true)], args := [d1, d2] }
  | _ => none }
def deltaPiecesRow : OpenClaim := { program := "ytmeikcifobfolaa", sum := "0dfddfee0a0a169c1bc48cde68410ab0f03aa8f05df4ea5baeb8989563f613cc", func := "silo/silolaw19.DeltaPieces", spec := "deltaPieces", apart := false }
def DeltaPiecesSaid : Prop := deltaPiecesRow.holds Try.pinned (OpenSpec.ofChange deltaPiecesSpec)

/-- ITS FALSE NEIGHBOUR: 'it returns false'. Refute it at one input. -/
def deltaPiecesWrong : ChangeSpec := { name := "deltaPieces", fn := fun _ => fun
  | [d1, d2] => { results := [.lit (.bool false)], args := [d1, d2] }
  | _ => none }
def DeltaPiecesWrongFalsely : Prop := deltaPiecesRow.holds Try.pinned (OpenSpec.ofChange deltaPiecesWrong)

/-- 'silolaw19.DeltaBack': WHATEVER THE INPUT: true; the input reads as it did. -/
def deltaBackSpec : ChangeSpec := { name := "deltaBack", fn := fun _ => fun
  | [d1, d2] => { results := [.lit (.bool true)], args := [d1, d2] }
  | _ => none }
def deltaBackRow : OpenClaim := { program := "ytmeikcifobfolaa", sum := "0dfddfee0a0a169c1bc48cde68410ab0f03aa8f05df4ea5baeb8989563f613cc", func := "silo/silolaw19.DeltaBack", spec := "deltaBack", unfollowed := true, recurses := true, apart := false }
def DeltaBackSaid : Prop := deltaBackRow.holds Try.pinned (OpenSpec.ofChange deltaBackSpec)

/-- ITS FALSE NEIGHBOUR: 'it returns false'. Refute it at one input. -/
def deltaBackWrong : ChangeSpec := { name := "deltaBack", fn := fun _ => fun
  | [d1, d2] => { results := [.lit (.bool false)], args := [d1, d2] }
  | _ => none }
def DeltaBackWrongFalsely : Prop := deltaBackRow.holds Try.pinned (OpenSpec.ofChange deltaBackWrong)

/-- 'silolaw19.DeltaSame': WHATEVER THE INPUT: true; the input reads as it did. -/
def deltaSameSpec : ChangeSpec := { name := "deltaSame", fn := fun _ => fun
  | [d] => { results := [.lit (.bool true)], args := [d] }
  | _ => none }
def deltaSameRow : OpenClaim := { program := "ytmeikcifobfolaa", sum := "0dfddfee0a0a169c1bc48cde68410ab0f03aa8f05df4ea5baeb8989563f613cc", func := "silo/silolaw19.DeltaSame", spec := "deltaSame", unfollowed := true, recurses := true, apart := false }
def DeltaSameSaid : Prop := deltaSameRow.holds Try.pinned (OpenSpec.ofChange deltaSameSpec)

/-- ITS FALSE NEIGHBOUR: 'it returns false'. Refute it at one input. -/
def deltaSameWrong : ChangeSpec := { name := "deltaSame", fn := fun _ => fun
  | [d] => { results := [.lit (.bool false)], args := [d] }
  | _ => none }
def DeltaSameWrongFalsely : Prop := deltaSameRow.holds Try.pinned (OpenSpec.ofChange deltaSameWrong)

/- THE SECOND FORM. 'bulk': how many values and letters a reading holds, each counted each time it is reached (what is shared counts as often as it is met; a slice's spare places count too). A statement '..UptoSaid' is the law's where the arguments, and the package variables that the reading takes, are together of bulk at most 1048576: NARROWER than '..Said'. Prove '..Said' where nothing that the law and all that it calls make is longer than what came in: it says more and counts as full. Else prove '..UptoSaid'. A law counts once. -/
mutual
def uptoBulk {H : Type} : DataW H → Nat
  | .lit (.string bytes) => bytes.length + 1
  | .lit _ => 1
  | .nil => 1
  | .ptr d => uptoBulk d + 1
  | .slice elems spare => uptoBulkAll elems + uptoBulkAll spare + 1
  | .agg parts => uptoBulkAll parts + 1
  | .iface _ d => uptoBulk d + 1
  | .map entries => uptoBulkEntries entries + 1
  | .held _ => 1
def uptoBulkAll {H : Type} : List (DataW H) → Nat
  | [] => 0
  | d :: r => uptoBulk d + uptoBulkAll r
def uptoBulkEntries {H : Type} : List (Lit × DataW H) → Nat
  | [] => 0
  | x :: r => uptoBulkEntry x + uptoBulkEntries r
def uptoBulkEntry {H : Type} : Lit × DataW H → Nat
  | (.string bytes, d) => bytes.length + uptoBulk d + 1
  | (_, d) => uptoBulk d + 1
 end
def uptoSmall : (H : Type) → List (DataW H) → Bool := fun _ ds => decide (uptoBulkAll ds ≤ 1048576)
def OpenSpec.upto (s : _root_.Go.ChangeSpec) : _root_.Go.OpenSpec := { _root_.Go.OpenSpec.ofChange s with cond := some uptoSmall }

/-- 'silolaw19.DeltaApplies', WHERE WHAT IT READS IS OF BULK AT MOST 1048576: true; the input reads as it did. -/
def deltaAppliesUptoRow : OpenClaim := { program := "ytmeikcifobfolaa", sum := "0dfddfee0a0a169c1bc48cde68410ab0f03aa8f05df4ea5baeb8989563f613cc", func := "silo/silolaw19.DeltaApplies", spec := "deltaApplies", apart := false, narrowed := true }
def DeltaAppliesUptoSaid : Prop := deltaAppliesUptoRow.holds Try.pinned (OpenSpec.upto deltaAppliesSpec)

/-- 'silolaw19.DeltaPieces', WHERE WHAT IT READS IS OF BULK AT MOST 1048576: true; the input reads as it did. -/
def deltaPiecesUptoRow : OpenClaim := { program := "ytmeikcifobfolaa", sum := "0dfddfee0a0a169c1bc48cde68410ab0f03aa8f05df4ea5baeb8989563f613cc", func := "silo/silolaw19.DeltaPieces", spec := "deltaPieces", apart := false, narrowed := true }
def DeltaPiecesUptoSaid : Prop := deltaPiecesUptoRow.holds Try.pinned (OpenSpec.upto deltaPiecesSpec)

/-- 'silolaw19.DeltaBack', WHERE WHAT IT READS IS OF BULK AT MOST 1048576: true; the input reads as it did. -/
def deltaBackUptoRow : OpenClaim := { program := "ytmeikcifobfolaa", sum := "0dfddfee0a0a169c1bc48cde68410ab0f03aa8f05df4ea5baeb8989563f613cc", func := "silo/silolaw19.DeltaBack", spec := "deltaBack", unfollowed := true, recurses := true, apart := false, narrowed := true }
def DeltaBackUptoSaid : Prop := deltaBackUptoRow.holds Try.pinned (OpenSpec.upto deltaBackSpec)

/-- 'silolaw19.DeltaSame', WHERE WHAT IT READS IS OF BULK AT MOST 1048576: true; the input reads as it did. -/
def deltaSameUptoRow : OpenClaim := { program := "ytmeikcifobfolaa", sum := "0dfddfee0a0a169c1bc48cde68410ab0f03aa8f05df4ea5baeb8989563f613cc", func := "silo/silolaw19.DeltaSame", spec := "deltaSame", unfollowed := true, recurses := true, apart := false, narrowed := true }
def DeltaSameUptoSaid : Prop := deltaSameUptoRow.holds Try.pinned (OpenSpec.upto deltaSameSpec)

end Rows
end Go.Proofs.Ytmeikcifobfolaa
