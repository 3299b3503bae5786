/-
  No cell of these rows narrows 'for every input' (looked for: loops, veiled, ifaces, maps, wideKeys, modest, calm, conditions, laid).
  DERIVED. THE GIVEN ROWS OF THIS SEAT. 6 by the template 'for every input the law returns true; each argument reads behind the call as it read before'; 0 by the template 'total and deterministic' (their statements: YtiipibmliffghaaTotals.lean).
  GIVEN WITH THE SEED: the statements are not yours to turn. If you find one false, say at which input.
  Laid BY PROGRAM, IN A SANDBOX (cutbox-rows.mjs): the forced cells as the released guide's own fill.sh prints them over the translation fd9820261fd32dff… (all of the seat's roots in one cut). By AI agents, Wed Nov 11 2026. No macro, syntax, notation, axiom, sorry.
-/
import Derived.Test.YtiipibmliffghaaChecked
import GoSem.Claim
import GoSem.ClaimJoined
import GoSem.ClaimMapViews
import Derived.JoinedTies
import Derived.KernelRfl
namespace Go.Proofs.Ytiipibmliffghaa
/- THE CELL 'sum', in the pinned program and in every row, IS THE sha256 OF THE DUMP (.gsa) THAT YtiipibmliffghaaProg.lean LOADS. Nothing in Lean hashes anything: it is a label: what it is worth is what the hold of that sum in a sandbox is worth. -/
noncomputable def Try.pinned : Pinned := { name := "ytiipibmliffghaa", sum := "fd9820261fd32dff36ea082ea6eaebf7250291524ce32bdbc743719cd07bce72", checked := Try.checked }
namespace Rows
def none {H : Type} : Left H := { results := [], args := [] }

/-- 'silolaw17.BoxPacks': WHATEVER THE INPUT: true; the input reads as it did. -/
def boxPacksSpec : ChangeSpec := { name := "boxPacks", fn := fun _ => fun
  | [d] => { results := [.lit (.bool true)], args := [d] }
  | _ => none }
def boxPacksRow : OpenClaim := { program := "ytiipibmliffghaa", sum := "fd9820261fd32dff36ea082ea6eaebf7250291524ce32bdbc743719cd07bce72", func := "silo/silolaw17.BoxPacks", spec := "boxPacks", apart := false }
def BoxPacksSaid : Prop := boxPacksRow.holds Try.pinned (OpenSpec.ofChange boxPacksSpec)

/-- ITS FALSE NEIGHBOUR: 'it returns false'. Refute it at one input. -/
def boxPacksWrong : ChangeSpec := { name := "boxPacks", fn := fun _ => fun
  | [d] => { results := [.lit (.bool false)], args := [d] }
  | _ => none }
def BoxPacksWrongFalsely : Prop := boxPacksRow.holds Try.pinned (OpenSpec.ofChange boxPacksWrong)

/-- 'silolaw17.BoxOpens': WHATEVER THE INPUT: true; the input reads as it did. -/
def boxOpensSpec : ChangeSpec := { name := "boxOpens", fn := fun _ => fun
  | [d1, d2] => { results := [.lit (.bool true)], args := [d1, d2] }
  | _ => none }
def boxOpensRow : OpenClaim := { program := "ytiipibmliffghaa", sum := "fd9820261fd32dff36ea082ea6eaebf7250291524ce32bdbc743719cd07bce72", func := "silo/silolaw17.BoxOpens", spec := "boxOpens", apart := false }
def BoxOpensSaid : Prop := boxOpensRow.holds Try.pinned (OpenSpec.ofChange boxOpensSpec)

/-- ITS FALSE NEIGHBOUR: 'it returns false'. Refute it at one input. -/
def boxOpensWrong : ChangeSpec := { name := "boxOpens", fn := fun _ => fun
  | [d1, d2] => { results := [.lit (.bool false)], args := [d1, d2] }
  | _ => none }
def BoxOpensWrongFalsely : Prop := boxOpensRow.holds Try.pinned (OpenSpec.ofChange boxOpensWrong)

/-- 'silolaw17.BoxSplits': WHATEVER THE INPUT: true; the input reads as it did. -/
def boxSplitsSpec : ChangeSpec := { name := "boxSplits", fn := fun _ => fun
  | [d1, d2] => { results := [.lit (.bool true)], args := [d1, d2] }
  | _ => none }
def boxSplitsRow : OpenClaim := { program := "ytiipibmliffghaa", sum := "fd9820261fd32dff36ea082ea6eaebf7250291524ce32bdbc743719cd07bce72", func := "silo/silolaw17.BoxSplits", spec := "boxSplits", apart := false }
def BoxSplitsSaid : Prop := boxSplitsRow.holds Try.pinned (OpenSpec.ofChange boxSplitsSpec)

/-- ITS FALSE NEIGHBOUR: 'it returns false'. Refute it at one input. -/
def boxSplitsWrong : ChangeSpec := { name := "boxSplits", fn := fun _ => fun
  | [d1, d2] => { results := [.lit (.bool false)], args := [d1, d2] }
  | _ => none }
def BoxSplitsWrongFalsely : Prop := boxSplitsRow.holds Try.pinned (OpenSpec.ofChange boxSplitsWrong)

/-- 'silolaw17.BoxReads': WHATEVER THE INPUT: true; the input reads as it did. -/
def boxReadsSpec : ChangeSpec := { name := "boxReads", fn := fun _ => fun
  | [d1, d2, d3, d4, d5] => { results := [.lit (.bool true)], args := [d1, d2, d3, d4, d5] }
  | _ => none }
def boxReadsRow : OpenClaim := { program := "ytiipibmliffghaa", sum := "fd9820261fd32dff36ea082ea6eaebf7250291524ce32bdbc743719cd07bce72", func := "silo/silolaw17.BoxReads", spec := "boxReads", apart := false }
def BoxReadsSaid : Prop := boxReadsRow.holds Try.pinned (OpenSpec.ofChange boxReadsSpec)

/-- ITS FALSE NEIGHBOUR: 'it returns false'. Refute it at one input. -/
def boxReadsWrong : ChangeSpec := { name := "boxReads", fn := fun _ => fun
  | [d1, d2, d3, d4, d5] => { results := [.lit (.bool false)], args := [d1, d2, d3, d4, d5] }
  | _ => none }
def BoxReadsWrongFalsely : Prop := boxReadsRow.holds Try.pinned (OpenSpec.ofChange boxReadsWrong)

/-- 'silolaw17.BoxNil': WHATEVER THE INPUT: true; the input reads as it did. -/
def boxNilSpec : ChangeSpec := { name := "boxNil", fn := fun _ => fun
  | [d1, d2] => { results := [.lit (.bool true)], args := [d1, d2] }
  | _ => none }
def boxNilRow : OpenClaim := { program := "ytiipibmliffghaa", sum := "fd9820261fd32dff36ea082ea6eaebf7250291524ce32bdbc743719cd07bce72", func := "silo/silolaw17.BoxNil", spec := "boxNil", apart := false }
def BoxNilSaid : Prop := boxNilRow.holds Try.pinned (OpenSpec.ofChange boxNilSpec)

/-- ITS FALSE NEIGHBOUR: 'it returns false'. Refute it at one input. -/
def boxNilWrong : ChangeSpec := { name := "boxNil", fn := fun _ => fun
  | [d1, d2] => { results := [.lit (.bool false)], args := [d1, d2] }
  | _ => none }
def BoxNilWrongFalsely : Prop := boxNilRow.holds Try.pinned (OpenSpec.ofChange boxNilWrong)

/-- 'silolaw17.BoxKeeps': WHATEVER THE INPUT: true; the input reads as it did. -/
def boxKeepsSpec : ChangeSpec := { name := "boxKeeps", fn := fun _ => fun
  | [d1, d2, d3, d4] => { results := [.lit (.bool true)], args := [d1, d2, d3, d4] }
  | _ => none }
def boxKeepsRow : OpenClaim := { program := "ytiipibmliffghaa", sum := "fd9820261fd32dff36ea082ea6eaebf7250291524ce32bdbc743719cd07bce72", func := "silo/silolaw17.BoxKeeps", spec := "boxKeeps", apart := false }
def BoxKeepsSaid : Prop := boxKeepsRow.holds Try.pinned (OpenSpec.ofChange boxKeepsSpec)

/-- ITS FALSE NEIGHBOUR: 'it returns false'. Refute it at one input. -/
def boxKeepsWrong : ChangeSpec := { name := "boxKeeps", fn := fun _ => fun
  | [d1, d2, d3, d4] => { results := [.lit (.bool false)], args := [d1, d2, d3, d4] }
  | _ => none }
def BoxKeepsWrongFalsely : Prop := boxKeepsRow.holds Try.pinned (OpenSpec.ofChange boxKeepsWrong)

/- THE SECOND FORM. 'bulk': how many values and letters a reading holds, each counted each time it is reached (what is shared counts as often as it is met; a slice's spare places count too). A statement '..UptoSaid' is the law's where the arguments, and the package variables that the reading takes, are together of bulk at most 1048576: NARROWER than '..Said'. Prove '..Said' where nothing that the law and all that it calls make is longer than what came in: it says more and counts as full. Else prove '..UptoSaid'. A law counts once. -/
mutual
def uptoBulk {H : Type} : DataW H → Nat
  | .lit (.string bytes) => bytes.length + 1
  | .lit _ => 1
  | .nil => 1
  | .ptr d => uptoBulk d + 1
  | .slice elems spare => uptoBulkAll elems + uptoBulkAll spare + 1
  | .agg parts => uptoBulkAll parts + 1
  | .iface _ d => uptoBulk d + 1
  | .map entries => uptoBulkEntries entries + 1
  | .held _ => 1
def uptoBulkAll {H : Type} : List (DataW H) → Nat
  | [] => 0
  | d :: r => uptoBulk d + uptoBulkAll r
def uptoBulkEntries {H : Type} : List (Lit × DataW H) → Nat
  | [] => 0
  | x :: r => uptoBulkEntry x + uptoBulkEntries r
def uptoBulkEntry {H : Type} : Lit × DataW H → Nat
  | (.string bytes, d) => bytes.length + uptoBulk d + 1
  | (_, d) => uptoBulk d + 1
 end
def uptoSmall : (H : Type) → List (DataW H) → Bool := fun _ ds => decide (uptoBulkAll ds ≤ 1048576)
def OpenSpec.upto (s : _root_.Go.ChangeSpec) : _root_.Go.OpenSpec := { _root_.Go.OpenSpec.ofChange s with cond := some uptoSmall }

/-- 'silolaw17.BoxPacks', WHERE WHAT IT READS IS OF BULK AT MOST 1048576: true; the input reads as it did. -/
def boxPacksUptoRow : OpenClaim := { program := "ytiipibmliffghaa", sum := "fd9820261fd32dff36ea082ea6eaebf7250291524ce32bdbc743719cd07bce72", func := "silo/silolaw17.BoxPacks", spec := "boxPacks", apart := false, narrowed := true }
def BoxPacksUptoSaid : Prop := boxPacksUptoRow.holds Try.pinned (OpenSpec.upto boxPacksSpec)

/-- 'silolaw17.BoxOpens', WHERE WHAT IT READS IS OF BULK AT MOST 1048576: true; the input reads as it did. -/
def boxOpensUptoRow : OpenClaim := { program := "ytiipibmliffghaa", sum := "fd9820261fd32dff36ea082ea6eaebf7250291524ce32bdbc743719cd07bce72", func := "silo/silolaw17.BoxOpens", spec := "boxOpens", apart := false, narrowed := true }
def BoxOpensUptoSaid : Prop := boxOpensUptoRow.holds Try.pinned (OpenSpec.upto boxOpensSpec)

/-- 'silolaw17.BoxSplits', WHERE WHAT IT READS IS OF BULK AT MOST 1048576: true; the input reads as it did. -/
def boxSplitsUptoRow : OpenClaim := { program := "ytiipibmliffghaa", sum := "fd9820261fd32dff36ea082ea6eaebf7250291524ce32bdbc743719cd07bce72", func := "silo/silolaw17.BoxSplits", spec := "boxSplits", apart := false, narrowed := true }
def BoxSplitsUptoSaid : Prop := boxSplitsUptoRow.holds Try.pinned (OpenSpec.upto boxSplitsSpec)

/-- 'silolaw17.BoxReads', WHERE WHAT IT READS IS OF BULK AT MOST 1048576: true; the input reads as it did. -/
def boxReadsUptoRow : OpenClaim := { program := "ytiipibmliffghaa", sum := "fd9820261fd32dff36ea082ea6eaebf7250291524ce32bdbc743719cd07bce72", func := "silo/silolaw17.BoxReads", spec := "boxReads", apart := false, narrowed := true }
def BoxReadsUptoSaid : Prop := boxReadsUptoRow.holds Try.pinned (OpenSpec.upto boxReadsSpec)

/-- 'silolaw17.BoxNil', WHERE WHAT IT READS IS OF BULK AT MOST 1048576: true; the input reads as it did. -/
def boxNilUptoRow : OpenClaim := { program := "ytiipibmliffghaa", sum := "fd9820261fd32dff36ea082ea6eaebf7250291524ce32bdbc743719cd07bce72", func := "silo/silolaw17.BoxNil", spec := "boxNil", apart := false, narrowed := true }
def BoxNilUptoSaid : Prop := boxNilUptoRow.holds Try.pinned (OpenSpec.upto boxNilSpec)

/-- 'silolaw17.BoxKeeps', WHERE WHAT IT READS IS OF BULK AT MOST 1048576: true; the input reads as it did. -/
def boxKeepsUptoRow : OpenClaim := { program := "ytiipibmliffghaa", sum := "fd9820261fd32dff36ea082ea6eaebf7250291524ce32bdbc743719cd07bce72", func := "silo/silolaw17.BoxKeeps", spec := "boxKeeps", apart := false, narrowed := true }
def BoxKeepsUptoSaid : Prop := boxKeepsUptoRow.holds Try.pinned (OpenSpec.upto boxKeepsSpec)

end Rows
end Go.Proofs.Ytiipibmliffghaa
