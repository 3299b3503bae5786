/-
  No cell of these rows narrows 'for every input' (looked for: loops, veiled, ifaces, maps, wideKeys, modest, calm, conditions, laid).
  DERIVED. THE GIVEN ROWS OF THIS SEAT. 6 by the template 'for every input the law returns true; each argument reads behind the call as it read before'; 0 by the template 'total and deterministic' (their statements: YtlkljeghhahedaaTotals.lean).
  GIVEN WITH THE SEED: the statements are not yours to turn. If you find one false, say at which input.
  Laid BY PROGRAM, IN A SANDBOX (cutbox-rows.mjs): the forced cells as the released guide's own fill.sh prints them over the translation eaa0eb2c2b56ee76… (all of the seat's roots in one cut). By AI agents, Wed Nov 11 2026. No macro, syntax, notation, axiom, sorry.
-/
import Derived.Test.YtlkljeghhahedaaChecked
import GoSem.Claim
import GoSem.ClaimJoined
import GoSem.ClaimMapViews
import Derived.JoinedTies
import Derived.KernelRfl
namespace Go.Proofs.Ytlkljeghhahedaa
/- THE CELL 'sum', in the pinned program and in every row, IS THE sha256 OF THE DUMP (.gsa) THAT YtlkljeghhahedaaProg.lean LOADS. Nothing in Lean hashes anything: it is a label: what it is worth is what the hold of that sum in a sandbox is worth. -/
noncomputable def Try.pinned : Pinned := { name := "ytlkljeghhahedaa", sum := "eaa0eb2c2b56ee76d017239ff56fffa150e48d8c83456dbc9bfc8ac38ec4c1c3", checked := Try.checked }
namespace Rows
def none {H : Type} : Left H := { results := [], args := [] }

/-- 'silolaw12.WalFrames': WHATEVER THE INPUT: true; the input reads as it did. -/
def walFramesSpec : ChangeSpec := { name := "walFrames", fn := fun _ => fun
  | [d1, d2] => { results := [.lit (.bool true)], args := [d1, d2] }
  | _ => none }
def walFramesRow : OpenClaim := { program := "ytlkljeghhahedaa", sum := "eaa0eb2c2b56ee76d017239ff56fffa150e48d8c83456dbc9bfc8ac38ec4c1c3", func := "silo/silolaw12.WalFrames", spec := "walFrames", apart := false }
def WalFramesSaid : Prop := walFramesRow.holds Try.pinned (OpenSpec.ofChange walFramesSpec)

/-- ITS FALSE NEIGHBOUR: 'it returns false'. Refute it at one input. -/
def walFramesWrong : ChangeSpec := { name := "walFrames", fn := fun _ => fun
  | [d1, d2] => { results := [.lit (.bool false)], args := [d1, d2] }
  | _ => none }
def WalFramesWrongFalsely : Prop := walFramesRow.holds Try.pinned (OpenSpec.ofChange walFramesWrong)

/-- 'silolaw12.WalCut': WHATEVER THE INPUT: true; the input reads as it did. -/
def walCutSpec : ChangeSpec := { name := "walCut", fn := fun _ => fun
  | [d1, d2, d3] => { results := [.lit (.bool true)], args := [d1, d2, d3] }
  | _ => none }
def walCutRow : OpenClaim := { program := "ytlkljeghhahedaa", sum := "eaa0eb2c2b56ee76d017239ff56fffa150e48d8c83456dbc9bfc8ac38ec4c1c3", func := "silo/silolaw12.WalCut", spec := "walCut", apart := false }
def WalCutSaid : Prop := walCutRow.holds Try.pinned (OpenSpec.ofChange walCutSpec)

/-- ITS FALSE NEIGHBOUR: 'it returns false'. Refute it at one input. -/
def walCutWrong : ChangeSpec := { name := "walCut", fn := fun _ => fun
  | [d1, d2, d3] => { results := [.lit (.bool false)], args := [d1, d2, d3] }
  | _ => none }
def WalCutWrongFalsely : Prop := walCutRow.holds Try.pinned (OpenSpec.ofChange walCutWrong)

/-- 'silolaw12.WalReplays': WHATEVER THE INPUT: true; the input reads as it did. -/
def walReplaysSpec : ChangeSpec := { name := "walReplays", fn := fun _ => fun
  | [d1, d2] => { results := [.lit (.bool true)], args := [d1, d2] }
  | _ => none }
def walReplaysRow : OpenClaim := { program := "ytlkljeghhahedaa", sum := "eaa0eb2c2b56ee76d017239ff56fffa150e48d8c83456dbc9bfc8ac38ec4c1c3", func := "silo/silolaw12.WalReplays", spec := "walReplays", apart := false }
def WalReplaysSaid : Prop := walReplaysRow.holds Try.pinned (OpenSpec.ofChange walReplaysSpec)

/-- ITS FALSE NEIGHBOUR: 'it returns false'. Refute it at one input. -/
def walReplaysWrong : ChangeSpec := { name := "walReplays", fn := fun _ => fun
  | [d1, d2] => { results := [.lit (.bool false)], args := [d1, d2] }
  | _ => none }
def WalReplaysWrongFalsely : Prop := walReplaysRow.holds Try.pinned (OpenSpec.ofChange walReplaysWrong)

/-- 'silolaw12.WalFull': WHATEVER THE INPUT: true; the input reads as it did. -/
def walFullSpec : ChangeSpec := { name := "walFull", fn := fun _ => fun
  | [d1, d2] => { results := [.lit (.bool true)], args := [d1, d2] }
  | _ => none }
def walFullRow : OpenClaim := { program := "ytlkljeghhahedaa", sum := "eaa0eb2c2b56ee76d017239ff56fffa150e48d8c83456dbc9bfc8ac38ec4c1c3", func := "silo/silolaw12.WalFull", spec := "walFull", apart := false }
def WalFullSaid : Prop := walFullRow.holds Try.pinned (OpenSpec.ofChange walFullSpec)

/-- ITS FALSE NEIGHBOUR: 'it returns false'. Refute it at one input. -/
def walFullWrong : ChangeSpec := { name := "walFull", fn := fun _ => fun
  | [d1, d2] => { results := [.lit (.bool false)], args := [d1, d2] }
  | _ => none }
def WalFullWrongFalsely : Prop := walFullRow.holds Try.pinned (OpenSpec.ofChange walFullWrong)

/-- 'silolaw12.WalNil': WHATEVER THE INPUT: true; the input reads as it did. -/
def walNilSpec : ChangeSpec := { name := "walNil", fn := fun _ => fun
  | [d1, d2, d3] => { results := [.lit (.bool true)], args := [d1, d2, d3] }
  | _ => none }
def walNilRow : OpenClaim := { program := "ytlkljeghhahedaa", sum := "eaa0eb2c2b56ee76d017239ff56fffa150e48d8c83456dbc9bfc8ac38ec4c1c3", func := "silo/silolaw12.WalNil", spec := "walNil", apart := false }
def WalNilSaid : Prop := walNilRow.holds Try.pinned (OpenSpec.ofChange walNilSpec)

/-- ITS FALSE NEIGHBOUR: 'it returns false'. Refute it at one input. -/
def walNilWrong : ChangeSpec := { name := "walNil", fn := fun _ => fun
  | [d1, d2, d3] => { results := [.lit (.bool false)], args := [d1, d2, d3] }
  | _ => none }
def WalNilWrongFalsely : Prop := walNilRow.holds Try.pinned (OpenSpec.ofChange walNilWrong)

/-- 'silolaw12.WalPlays': WHATEVER THE INPUT: true; the input reads as it did. -/
def walPlaysSpec : ChangeSpec := { name := "walPlays", fn := fun _ => fun
  | [d] => { results := [.lit (.bool true)], args := [d] }
  | _ => none }
def walPlaysRow : OpenClaim := { program := "ytlkljeghhahedaa", sum := "eaa0eb2c2b56ee76d017239ff56fffa150e48d8c83456dbc9bfc8ac38ec4c1c3", func := "silo/silolaw12.WalPlays", spec := "walPlays", apart := false }
def WalPlaysSaid : Prop := walPlaysRow.holds Try.pinned (OpenSpec.ofChange walPlaysSpec)

/-- ITS FALSE NEIGHBOUR: 'it returns false'. Refute it at one input. -/
def walPlaysWrong : ChangeSpec := { name := "walPlays", fn := fun _ => fun
  | [d] => { results := [.lit (.bool false)], args := [d] }
  | _ => none }
def WalPlaysWrongFalsely : Prop := walPlaysRow.holds Try.pinned (OpenSpec.ofChange walPlaysWrong)

/- THE SECOND FORM. 'bulk': how many values and letters a reading holds, each counted each time it is reached (what is shared counts as often as it is met; a slice's spare places count too). A statement '..UptoSaid' is the law's where the arguments, and the package variables that the reading takes, are together of bulk at most 1048576: NARROWER than '..Said'. Prove '..Said' where nothing that the law and all that it calls make is longer than what came in: it says more and counts as full. Else prove '..UptoSaid'. A law counts once. -/
mutual
def uptoBulk {H : Type} : DataW H → Nat
  | .lit (.string bytes) => bytes.length + 1
  | .lit _ => 1
  | .nil => 1
  | .ptr d => uptoBulk d + 1
  | .slice elems spare => uptoBulkAll elems + uptoBulkAll spare + 1
  | .agg parts => uptoBulkAll parts + 1
  | .iface _ d => uptoBulk d + 1
  | .map entries => uptoBulkEntries entries + 1
  | .held _ => 1
def uptoBulkAll {H : Type} : List (DataW H) → Nat
  | [] => 0
  | d :: r => uptoBulk d + uptoBulkAll r
def uptoBulkEntries {H : Type} : List (Lit × DataW H) → Nat
  | [] => 0
  | x :: r => uptoBulkEntry x + uptoBulkEntries r
def uptoBulkEntry {H : Type} : Lit × DataW H → Nat
  | (.string bytes, d) => bytes.length + uptoBulk d + 1
  | (_, d) => uptoBulk d + 1
 end
def uptoSmall : (H : Type) → List (DataW H) → Bool := fun _ ds => decide (uptoBulkAll ds ≤ 1048576)
def OpenSpec.upto (s : _root_.Go.ChangeSpec) : _root_.Go.OpenSpec := { _root_.Go.OpenSpec.ofChange s with cond := some uptoSmall }

/-- 'silolaw12.WalFrames', WHERE WHAT IT READS IS OF BULK AT MOST 1048576: true; the input reads as it did. -/
def walFramesUptoRow : OpenClaim := { program := "ytlkljeghhahedaa", sum := "eaa0eb2c2b56ee76d017239ff56fffa150e48d8c83456dbc9bfc8ac38ec4c1c3", func := "silo/silolaw12.WalFrames", spec := "walFrames", apart := false, narrowed := true }
def WalFramesUptoSaid : Prop := walFramesUptoRow.holds Try.pinned (OpenSpec.upto walFramesSpec)

/-- 'silolaw12.WalCut', WHERE WHAT IT READS IS OF BULK AT MOST 1048576: true; the input reads as it did. -/
def walCutUptoRow : OpenClaim := { program := "ytlkljeghhahedaa", sum := "eaa0eb2c2b56ee76d017239ff56fffa150e48d8c83456dbc9bfc8ac38ec4c1c3", func := "silo/silolaw12.WalCut", spec := "walCut", apart := false, narrowed := true }
def WalCutUptoSaid : Prop := walCutUptoRow.holds Try.pinned (OpenSpec.upto walCutSpec)

/-- 'silolaw12.WalReplays', WHERE WHAT IT READS IS OF BULK AT MOST 1048576: true; the input reads as it did. -/
def walReplaysUptoRow : OpenClaim := { program := "ytlkljeghhahedaa", sum := "eaa0eb2c2b56ee76d017239ff56fffa150e48d8c83456dbc9bfc8ac38ec4c1c3", func := "silo/silolaw12.WalReplays", spec := "walReplays", apart := false, narrowed := true }
def WalReplaysUptoSaid : Prop := walReplaysUptoRow.holds Try.pinned (OpenSpec.upto walReplaysSpec)

/-- 'silolaw12.WalFull', WHERE WHAT IT READS IS OF BULK AT MOST 1048576: true; the input reads as it did. -/
def walFullUptoRow : OpenClaim := { program := "ytlkljeghhahedaa", sum := "eaa0eb2c2b56ee76d017239ff56fffa150e48d8c83456dbc9bfc8ac38ec4c1c3", func := "silo/silolaw12.WalFull", spec := "walFull", apart := false, narrowed := true }
def WalFullUptoSaid : Prop := walFullUptoRow.holds Try.pinned (OpenSpec.upto walFullSpec)

/-- 'silolaw12.WalNil', WHERE WHAT IT READS IS OF BULK AT MOST 1048576: true; the input reads as it did. -/
def walNilUptoRow : OpenClaim := { program := "ytlkljeghhahedaa", sum := "eaa0eb2c2b56ee76d017239ff56fffa150e48d8c83456dbc9bfc8ac38ec4c1c3", func := "silo/silolaw12.WalNil", spec := "walNil", apart := false, narrowed := true }
def WalNilUptoSaid : Prop := walNilUptoRow.holds Try.pinned (OpenSpec.upto walNilSpec)

/-- 'silolaw12.WalPlays', WHERE WHAT IT READS IS OF BULK AT MOST 1048576: true; the input reads as it did. -/
def walPlaysUptoRow : OpenClaim := { program := "ytlkljeghhahedaa", sum := "eaa0eb2c2b56ee76d017239ff56fffa150e48d8c83456dbc9bfc8ac38ec4c1c3", func := "silo/silolaw12.WalPlays", spec := "walPlays", apart := false, narrowed := true }
def WalPlaysUptoSaid : Prop := walPlaysUptoRow.holds Try.pinned (OpenSpec.upto walPlaysSpec)

end Rows
end Go.Proofs.Ytlkljeghhahedaa
