/-
  No cell of these rows narrows 'for every input' (looked for: loops, veiled, ifaces, maps, wideKeys, modest, calm, conditions, laid).
  DERIVED. THE GIVEN ROWS OF THIS SEAT. 5 by the template 'for every input the law returns true; each argument reads behind the call as it read before'; 0 by the template 'total and deterministic' (their statements: YtnneoipoaoefkaaTotals.lean).
  GIVEN WITH THE SEED: the statements are not yours to turn. If you find one false, say at which input.
  Laid BY PROGRAM, IN A SANDBOX (cutbox-rows.mjs): the forced cells as the released guide's own fill.sh prints them over the translation 65759ae0bc802707… (all of the seat's roots in one cut). By AI agents, Wed Nov 11 2026. No macro, syntax, notation, axiom, sorry.
-/
import Derived.Test.YtnneoipoaoefkaaChecked
import GoSem.Claim
import GoSem.ClaimJoined
import GoSem.ClaimMapViews
import Derived.JoinedTies
import Derived.KernelRfl
namespace Go.Proofs.Ytnneoipoaoefkaa
/- THE CELL 'sum', in the pinned program and in every row, IS THE sha256 OF THE DUMP (.gsa) THAT YtnneoipoaoefkaaProg.lean LOADS. Nothing in Lean hashes anything: it is a label: what it is worth is what the hold of that sum in a sandbox is worth. -/
noncomputable def Try.pinned : Pinned := { name := "ytnneoipoaoefkaa", sum := "65759ae0bc802707542ad8114275a38bead60fb7b849aa17f4981bfba2b30aac", checked := Try.checked }
namespace Rows
def none {H : Type} : Left H := { results := [], args := [] }

/-- 'silolaw04.DiskSure': WHATEVER THE INPUT: true; the input reads as it did. -/
def diskSureSpec : ChangeSpec := { name := "diskSure", fn := fun _ => fun
  | [d1, d2, d3, d4, d5] => { results := [.lit (.bool true)], args := [d1, d2, d3, d4, d5] }
  | _ => none }
def diskSureRow : OpenClaim := { program := "ytnneoipoaoefkaa", sum := "65759ae0bc802707542ad8114275a38bead60fb7b849aa17f4981bfba2b30aac", func := "silo/silolaw04.DiskSure", spec := "diskSure", apart := false }
def DiskSureSaid : Prop := diskSureRow.holds Try.pinned (OpenSpec.ofChange diskSureSpec)

/-- ITS FALSE NEIGHBOUR: 'it returns false'. Refute it at one input. -/
def diskSureWrong : ChangeSpec := { name := "diskSure", fn := fun _ => fun
  | [d1, d2, d3, d4, d5] => { results := [.lit (.bool false)], args := [d1, d2, d3, d4, d5] }
  | _ => none }
def DiskSureWrongFalsely : Prop := diskSureRow.holds Try.pinned (OpenSpec.ofChange diskSureWrong)

/-- 'silolaw04.DiskRoots': WHATEVER THE INPUT: true; the input reads as it did. -/
def diskRootsSpec : ChangeSpec := { name := "diskRoots", fn := fun _ => fun
  | [d] => { results := [.lit (.bool true)], args := [d] }
  | _ => none }
def diskRootsRow : OpenClaim := { program := "ytnneoipoaoefkaa", sum := "65759ae0bc802707542ad8114275a38bead60fb7b849aa17f4981bfba2b30aac", func := "silo/silolaw04.DiskRoots", spec := "diskRoots", apart := false }
def DiskRootsSaid : Prop := diskRootsRow.holds Try.pinned (OpenSpec.ofChange diskRootsSpec)

/-- ITS FALSE NEIGHBOUR: 'it returns false'. Refute it at one input. -/
def diskRootsWrong : ChangeSpec := { name := "diskRoots", fn := fun _ => fun
  | [d] => { results := [.lit (.bool false)], args := [d] }
  | _ => none }
def DiskRootsWrongFalsely : Prop := diskRootsRow.holds Try.pinned (OpenSpec.ofChange diskRootsWrong)

/-- 'silolaw04.DiskArmed': WHATEVER THE INPUT: true; the input reads as it did. -/
def diskArmedSpec : ChangeSpec := { name := "diskArmed", fn := fun _ => fun
  | [d1, d2] => { results := [.lit (.bool true)], args := [d1, d2] }
  | _ => none }
def diskArmedRow : OpenClaim := { program := "ytnneoipoaoefkaa", sum := "65759ae0bc802707542ad8114275a38bead60fb7b849aa17f4981bfba2b30aac", func := "silo/silolaw04.DiskArmed", spec := "diskArmed", apart := false }
def DiskArmedSaid : Prop := diskArmedRow.holds Try.pinned (OpenSpec.ofChange diskArmedSpec)

/-- ITS FALSE NEIGHBOUR: 'it returns false'. Refute it at one input. -/
def diskArmedWrong : ChangeSpec := { name := "diskArmed", fn := fun _ => fun
  | [d1, d2] => { results := [.lit (.bool false)], args := [d1, d2] }
  | _ => none }
def DiskArmedWrongFalsely : Prop := diskArmedRow.holds Try.pinned (OpenSpec.ofChange diskArmedWrong)

/-- 'silolaw04.DiskRoom': WHATEVER THE INPUT: true; the input reads as it did. -/
def diskRoomSpec : ChangeSpec := { name := "diskRoom", fn := fun _ => fun
  | [d1, d2, d3] => { results := [.lit (.bool true)], args := [d1, d2, d3] }
  | _ => none }
def diskRoomRow : OpenClaim := { program := "ytnneoipoaoefkaa", sum := "65759ae0bc802707542ad8114275a38bead60fb7b849aa17f4981bfba2b30aac", func := "silo/silolaw04.DiskRoom", spec := "diskRoom", unfollowed := true, recurses := true, apart := false }
def DiskRoomSaid : Prop := diskRoomRow.holds Try.pinned (OpenSpec.ofChange diskRoomSpec)

/-- ITS FALSE NEIGHBOUR: 'it returns false'. Refute it at one input. -/
def diskRoomWrong : ChangeSpec := { name := "diskRoom", fn := fun _ => fun
  | [d1, d2, d3] => { results := [.lit (.bool false)], args := [d1, d2, d3] }
  | _ => none }
def DiskRoomWrongFalsely : Prop := diskRoomRow.holds Try.pinned (OpenSpec.ofChange diskRoomWrong)

/-- 'silolaw04.DiskNil': WHATEVER THE INPUT: true; the input reads as it did. -/
def diskNilSpec : ChangeSpec := { name := "diskNil", fn := fun _ => fun
  | [d] => { results := [.lit (.bool true)], args := [d] }
  | _ => none }
def diskNilRow : OpenClaim := { program := "ytnneoipoaoefkaa", sum := "65759ae0bc802707542ad8114275a38bead60fb7b849aa17f4981bfba2b30aac", func := "silo/silolaw04.DiskNil", spec := "diskNil", unfollowed := true, recurses := true, apart := false }
def DiskNilSaid : Prop := diskNilRow.holds Try.pinned (OpenSpec.ofChange diskNilSpec)

/-- ITS FALSE NEIGHBOUR: 'it returns false'. Refute it at one input. -/
def diskNilWrong : ChangeSpec := { name := "diskNil", fn := fun _ => fun
  | [d] => { results := [.lit (.bool false)], args := [d] }
  | _ => none }
def DiskNilWrongFalsely : Prop := diskNilRow.holds Try.pinned (OpenSpec.ofChange diskNilWrong)

/- THE SECOND FORM. 'bulk': how many values and letters a reading holds, each counted each time it is reached (what is shared counts as often as it is met; a slice's spare places count too). A statement '..UptoSaid' is the law's where the arguments, and the package variables that the reading takes, are together of bulk at most 1048576: NARROWER than '..Said'. Prove '..Said' where nothing that the law and all that it calls make is longer than what came in: it says more and counts as full. Else prove '..UptoSaid'. A law counts once. -/
mutual
def uptoBulk {H : Type} : DataW H → Nat
  | .lit (.string bytes) => bytes.length + 1
  | .lit _ => 1
  | .nil => 1
  | .ptr d => uptoBulk d + 1
  | .slice elems spare => uptoBulkAll elems + uptoBulkAll spare + 1
  | .agg parts => uptoBulkAll parts + 1
  | .iface _ d => uptoBulk d + 1
  | .map entries => uptoBulkEntries entries + 1
  | .held _ => 1
def uptoBulkAll {H : Type} : List (DataW H) → Nat
  | [] => 0
  | d :: r => uptoBulk d + uptoBulkAll r
def uptoBulkEntries {H : Type} : List (Lit × DataW H) → Nat
  | [] => 0
  | x :: r => uptoBulkEntry x + uptoBulkEntries r
def uptoBulkEntry {H : Type} : Lit × DataW H → Nat
  | (.string bytes, d) => bytes.length + uptoBulk d + 1
  | (_, d) => uptoBulk d + 1
 end
def uptoSmall : (H : Type) → List (DataW H) → Bool := fun _ ds => decide (uptoBulkAll ds ≤ 1048576)
def OpenSpec.upto (s : _root_.Go.ChangeSpec) : _root_.Go.OpenSpec := { _root_.Go.OpenSpec.ofChange s with cond := some uptoSmall }

/-- 'silolaw04.DiskSure', WHERE WHAT IT READS IS OF BULK AT MOST 1048576: true; the input reads as it did. -/
def diskSureUptoRow : OpenClaim := { program := "ytnneoipoaoefkaa", sum := "65759ae0bc802707542ad8114275a38bead60fb7b849aa17f4981bfba2b30aac", func := "silo/silolaw04.DiskSure", spec := "diskSure", apart := false, narrowed := true }
def DiskSureUptoSaid : Prop := diskSureUptoRow.holds Try.pinned (OpenSpec.upto diskSureSpec)

/-- 'silolaw04.DiskRoots', WHERE WHAT IT READS IS OF BULK AT MOST 1048576: true; the input reads as it did. -/
def diskRootsUptoRow : OpenClaim := { program := "ytnneoipoaoefkaa", sum := "65759ae0bc802707542ad8114275a38bead60fb7b849aa17f4981bfba2b30aac", func := "silo/silolaw04.DiskRoots", spec := "diskRoots", apart := false, narrowed := true }
def DiskRootsUptoSaid : Prop := diskRootsUptoRow.holds Try.pinned (OpenSpec.upto diskRootsSpec)

/-- 'silolaw04.DiskArmed', WHERE WHAT IT READS IS OF BULK AT MOST 1048576: true; the input reads as it did. -/
def diskArmedUptoRow : OpenClaim := { program := "ytnneoipoaoefkaa", sum := "65759ae0bc802707542ad8114275a38bead60fb7b849aa17f4981bfba2b30aac", func := "silo/silolaw04.DiskArmed", spec := "diskArmed", apart := false, narrowed := true }
def DiskArmedUptoSaid : Prop := diskArmedUptoRow.holds Try.pinned (OpenSpec.upto diskArmedSpec)

/-- 'silolaw04.DiskRoom', WHERE WHAT IT READS IS OF BULK AT MOST 1048576: true; the input reads as it did. -/
def diskRoomUptoRow : OpenClaim := { program := "ytnneoipoaoefkaa", sum := "65759ae0bc802707542ad8114275a38bead60fb7b849aa17f4981bfba2b30aac", func := "silo/silolaw04.DiskRoom", spec := "diskRoom", unfollowed := true, recurses := true, apart := false, narrowed := true }
def DiskRoomUptoSaid : Prop := diskRoomUptoRow.holds Try.pinned (OpenSpec.upto diskRoomSpec)

/-- 'silolaw04.DiskNil', WHERE WHAT IT READS IS OF BULK AT MOST 1048576: true; the input reads as it did. -/
def diskNilUptoRow : OpenClaim := { program := "ytnneoipoaoefkaa", sum := "65759ae0bc802707542ad8114275a38bead60fb7b849aa17f4981bfba2b30aac", func := "silo/silolaw04.DiskNil", spec := "diskNil", unfollowed := true, recurses := true, apart := false, narrowed := true }
def DiskNilUptoSaid : Prop := diskNilUptoRow.holds Try.pinned (OpenSpec.upto diskNilSpec)

end Rows
end Go.Proofs.Ytnneoipoaoefkaa
