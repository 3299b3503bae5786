/-
  No cell of these rows narrows 'for every input' (looked for: loops, veiled, ifaces, maps, wideKeys, modest, calm, conditions, laid).
  DERIVED. THE GIVEN ROWS OF THIS SEAT. 6 by the template 'for every input the law returns true; each argument reads behind the call as it read before'; 0 by the template 'total and deterministic' (their statements: YtfbmgiflckdalaaTotals.lean).
  GIVEN WITH THE SEED: the statements are not yours to turn. If you find one false, say at which input.
  Laid BY PROGRAM, IN A SANDBOX (cutbox-rows.mjs): the forced cells as the released guide's own fill.sh prints them over the translation 5b479363f848cb5e… (all of the seat's roots in one cut). By AI agents, Wed Nov 11 2026. No macro, syntax, notation, axiom, sorry.
-/
import Derived.Test.YtfbmgiflckdalaaChecked
import GoSem.Claim
import GoSem.ClaimJoined
import GoSem.ClaimMapViews
import Derived.JoinedTies
import Derived.KernelRfl
namespace Go.Proofs.Ytfbmgiflckdalaa
/- THE CELL 'sum', in the pinned program and in every row, IS THE sha256 OF THE DUMP (.gsa) THAT YtfbmgiflckdalaaProg.lean LOADS. Nothing in Lean hashes anything: it is a label: what it is worth is what the hold of that sum in a sandbox is worth. -/
noncomputable def Try.pinned : Pinned := { name := "ytfbmgiflckdalaa", sum := "5b479363f848cb5ee00e75ab3e67a9d6c7028836e08f32fb39c437441fc0e9de", checked := Try.checked }
namespace Rows
def none {H : Type} : Left H := { results := [], args := [] }

/-- 'silolaw01.SixReads': WHATEVER THE INPUT: true; the input reads as it did. -/
def sixReadsSpec : ChangeSpec := { name := "sixReads", fn := fun _ => fun
  | [d1, d2, d3] => { results := [.lit (.bool true)], args := [d1, d2, d3] }
  | _ => none }
def sixReadsRow : OpenClaim := { program := "ytfbmgiflckdalaa", sum := "5b479363f848cb5ee00e75ab3e67a9d6c7028836e08f32fb39c437441fc0e9de", func := "silo/silolaw01.SixReads", spec := "sixReads", apart := false }
def SixReadsSaid : Prop := sixReadsRow.holds Try.pinned (OpenSpec.ofChange sixReadsSpec)

/-- ITS FALSE NEIGHBOUR: 'it returns false'. Refute it at one input. -/
def sixReadsWrong : ChangeSpec := { name := "sixReads", fn := fun _ => fun
  | [d1, d2, d3] => { results := [.lit (.bool false)], args := [d1, d2, d3] }
  | _ => none }
def SixReadsWrongFalsely : Prop := sixReadsRow.holds Try.pinned (OpenSpec.ofChange sixReadsWrong)

/-- 'silolaw01.SixBack': WHATEVER THE INPUT: true; the input reads as it did. -/
def sixBackSpec : ChangeSpec := { name := "sixBack", fn := fun _ => fun
  | [d1, d2, d3] => { results := [.lit (.bool true)], args := [d1, d2, d3] }
  | _ => none }
def sixBackRow : OpenClaim := { program := "ytfbmgiflckdalaa", sum := "5b479363f848cb5ee00e75ab3e67a9d6c7028836e08f32fb39c437441fc0e9de", func := "silo/silolaw01.SixBack", spec := "sixBack", apart := false }
def SixBackSaid : Prop := sixBackRow.holds Try.pinned (OpenSpec.ofChange sixBackSpec)

/-- ITS FALSE NEIGHBOUR: 'it returns false'. Refute it at one input. -/
def sixBackWrong : ChangeSpec := { name := "sixBack", fn := fun _ => fun
  | [d1, d2, d3] => { results := [.lit (.bool false)], args := [d1, d2, d3] }
  | _ => none }
def SixBackWrongFalsely : Prop := sixBackRow.holds Try.pinned (OpenSpec.ofChange sixBackWrong)

/-- 'silolaw01.SixOne': WHATEVER THE INPUT: true; the input reads as it did. -/
def sixOneSpec : ChangeSpec := { name := "sixOne", fn := fun _ => fun
  | [d1, d2] => { results := [.lit (.bool true)], args := [d1, d2] }
  | _ => none }
def sixOneRow : OpenClaim := { program := "ytfbmgiflckdalaa", sum := "5b479363f848cb5ee00e75ab3e67a9d6c7028836e08f32fb39c437441fc0e9de", func := "silo/silolaw01.SixOne", spec := "sixOne", apart := false }
def SixOneSaid : Prop := sixOneRow.holds Try.pinned (OpenSpec.ofChange sixOneSpec)

/-- ITS FALSE NEIGHBOUR: 'it returns false'. Refute it at one input. -/
def sixOneWrong : ChangeSpec := { name := "sixOne", fn := fun _ => fun
  | [d1, d2] => { results := [.lit (.bool false)], args := [d1, d2] }
  | _ => none }
def SixOneWrongFalsely : Prop := sixOneRow.holds Try.pinned (OpenSpec.ofChange sixOneWrong)

/-- 'silolaw01.SixWrites': WHATEVER THE INPUT: true; the input reads as it did. -/
def sixWritesSpec : ChangeSpec := { name := "sixWrites", fn := fun _ => fun
  | [d1, d2] => { results := [.lit (.bool true)], args := [d1, d2] }
  | _ => none }
def sixWritesRow : OpenClaim := { program := "ytfbmgiflckdalaa", sum := "5b479363f848cb5ee00e75ab3e67a9d6c7028836e08f32fb39c437441fc0e9de", func := "silo/silolaw01.SixWrites", spec := "sixWrites", apart := false }
def SixWritesSaid : Prop := sixWritesRow.holds Try.pinned (OpenSpec.ofChange sixWritesSpec)

/-- ITS FALSE NEIGHBOUR: 'it returns false'. Refute it at one input. -/
def sixWritesWrong : ChangeSpec := { name := "sixWrites", fn := fun _ => fun
  | [d1, d2] => { results := [.lit (.bool false)], args := [d1, d2] }
  | _ => none }
def SixWritesWrongFalsely : Prop := sixWritesRow.holds Try.pinned (OpenSpec.ofChange sixWritesWrong)

/-- 'silolaw01.SixLists': WHATEVER THE INPUT: true; the input reads as it did. -/
def sixListsSpec : ChangeSpec := { name := "sixLists", fn := fun _ => fun
  | [d1, d2] => { results := [.lit (.bool true)], args := [d1, d2] }
  | _ => none }
def sixListsRow : OpenClaim := { program := "ytfbmgiflckdalaa", sum := "5b479363f848cb5ee00e75ab3e67a9d6c7028836e08f32fb39c437441fc0e9de", func := "silo/silolaw01.SixLists", spec := "sixLists", unfollowed := true, recurses := true, apart := false }
def SixListsSaid : Prop := sixListsRow.holds Try.pinned (OpenSpec.ofChange sixListsSpec)

/-- ITS FALSE NEIGHBOUR: 'it returns false'. Refute it at one input. -/
def sixListsWrong : ChangeSpec := { name := "sixLists", fn := fun _ => fun
  | [d1, d2] => { results := [.lit (.bool false)], args := [d1, d2] }
  | _ => none }
def SixListsWrongFalsely : Prop := sixListsRow.holds Try.pinned (OpenSpec.ofChange sixListsWrong)

/-- 'silolaw01.SixNil': WHATEVER THE INPUT: true; the input reads as it did. -/
def sixNilSpec : ChangeSpec := { name := "sixNil", fn := fun _ => fun
  | [d1, d2] => { results := [.lit (.bool true)], args := [d1, d2] }
  | _ => none }
def sixNilRow : OpenClaim := { program := "ytfbmgiflckdalaa", sum := "5b479363f848cb5ee00e75ab3e67a9d6c7028836e08f32fb39c437441fc0e9de", func := "silo/silolaw01.SixNil", spec := "sixNil", unfollowed := true, recurses := true, apart := false }
def SixNilSaid : Prop := sixNilRow.holds Try.pinned (OpenSpec.ofChange sixNilSpec)

/-- ITS FALSE NEIGHBOUR: 'it returns false'. Refute it at one input. -/
def sixNilWrong : ChangeSpec := { name := "sixNil", fn := fun _ => fun
  | [d1, d2] => { results := [.lit (.bool false)], args := [d1, d2] }
  | _ => none }
def SixNilWrongFalsely : Prop := sixNilRow.holds Try.pinned (OpenSpec.ofChange sixNilWrong)

/- THE SECOND FORM. 'bulk': how many values and letters a reading holds, each counted each time it is reached (what is shared counts as often as it is met; a slice's spare places count too). A statement '..UptoSaid' is the law's where the arguments, and the package variables that the reading takes, are together of bulk at most 1048576: NARROWER than '..Said'. Prove '..Said' where nothing that the law and all that it calls make is longer than what came in: it says more and counts as full. Else prove '..UptoSaid'. A law counts once. -/
mutual
def uptoBulk {H : Type} : DataW H → Nat
  | .lit (.string bytes) => bytes.length + 1
  | .lit _ => 1
  | .nil => 1
  | .ptr d => uptoBulk d + 1
  | .slice elems spare => uptoBulkAll elems + uptoBulkAll spare + 1
  | .agg parts => uptoBulkAll parts + 1
  | .iface _ d => uptoBulk d + 1
  | .map entries => uptoBulkEntries entries + 1
  | .held _ => 1
def uptoBulkAll {H : Type} : List (DataW H) → Nat
  | [] => 0
  | d :: r => uptoBulk d + uptoBulkAll r
def uptoBulkEntries {H : Type} : List (Lit × DataW H) → Nat
  | [] => 0
  | x :: r => uptoBulkEntry x + uptoBulkEntries r
def uptoBulkEntry {H : Type} : Lit × DataW H → Nat
  | (.string bytes, d) => bytes.length + uptoBulk d + 1
  | (_, d) => uptoBulk d + 1
 end
def uptoSmall : (H : Type) → List (DataW H) → Bool := fun _ ds => decide (uptoBulkAll ds ≤ 1048576)
def OpenSpec.upto (s : _root_.Go.ChangeSpec) : _root_.Go.OpenSpec := { _root_.Go.OpenSpec.ofChange s with cond := some uptoSmall }

/-- 'silolaw01.SixReads', WHERE WHAT IT READS IS OF BULK AT MOST 1048576: true; the input reads as it did. -/
def sixReadsUptoRow : OpenClaim := { program := "ytfbmgiflckdalaa", sum := "5b479363f848cb5ee00e75ab3e67a9d6c7028836e08f32fb39c437441fc0e9de", func := "silo/silolaw01.SixReads", spec := "sixReads", apart := false, narrowed := true }
def SixReadsUptoSaid : Prop := sixReadsUptoRow.holds Try.pinned (OpenSpec.upto sixReadsSpec)

/-- 'silolaw01.SixBack', WHERE WHAT IT READS IS OF BULK AT MOST 1048576: true; the input reads as it did. -/
def sixBackUptoRow : OpenClaim := { program := "ytfbmgiflckdalaa", sum := "5b479363f848cb5ee00e75ab3e67a9d6c7028836e08f32fb39c437441fc0e9de", func := "silo/silolaw01.SixBack", spec := "sixBack", apart := false, narrowed := true }
def SixBackUptoSaid : Prop := sixBackUptoRow.holds Try.pinned (OpenSpec.upto sixBackSpec)

/-- 'silolaw01.SixOne', WHERE WHAT IT READS IS OF BULK AT MOST 1048576: true; the input reads as it did. -/
def sixOneUptoRow : OpenClaim := { program := "ytfbmgiflckdalaa", sum := "5b479363f848cb5ee00e75ab3e67a9d6c7028836e08f32fb39c437441fc0e9de", func := "silo/silolaw01.SixOne", spec := "sixOne", apart := false, narrowed := true }
def SixOneUptoSaid : Prop := sixOneUptoRow.holds Try.pinned (OpenSpec.upto sixOneSpec)

/-- 'silolaw01.SixWrites', WHERE WHAT IT READS IS OF BULK AT MOST 1048576: true; the input reads as it did. -/
def sixWritesUptoRow : OpenClaim := { program := "ytfbmgiflckdalaa", sum := "5b479363f848cb5ee00e75ab3e67a9d6c7028836e08f32fb39c437441fc0e9de", func := "silo/silolaw01.SixWrites", spec := "sixWrites", apart := false, narrowed := true }
def SixWritesUptoSaid : Prop := sixWritesUptoRow.holds Try.pinned (OpenSpec.upto sixWritesSpec)

/-- 'silolaw01.SixLists', WHERE WHAT IT READS IS OF BULK AT MOST 1048576: true; the input reads as it did. -/
def sixListsUptoRow : OpenClaim := { program := "ytfbmgiflckdalaa", sum := "5b479363f848cb5ee00e75ab3e67a9d6c7028836e08f32fb39c437441fc0e9de", func := "silo/silolaw01.SixLists", spec := "sixLists", unfollowed := true, recurses := true, apart := false, narrowed := true }
def SixListsUptoSaid : Prop := sixListsUptoRow.holds Try.pinned (OpenSpec.upto sixListsSpec)

/-- 'silolaw01.SixNil', WHERE WHAT IT READS IS OF BULK AT MOST 1048576: true; the input reads as it did. -/
def sixNilUptoRow : OpenClaim := { program := "ytfbmgiflckdalaa", sum := "5b479363f848cb5ee00e75ab3e67a9d6c7028836e08f32fb39c437441fc0e9de", func := "silo/silolaw01.SixNil", spec := "sixNil", unfollowed := true, recurses := true, apart := false, narrowed := true }
def SixNilUptoSaid : Prop := sixNilUptoRow.holds Try.pinned (OpenSpec.upto sixNilSpec)

end Rows
end Go.Proofs.Ytfbmgiflckdalaa
