/-
  No cell of these rows narrows 'for every input' (looked for: loops, veiled, ifaces, maps, wideKeys, modest, calm, conditions, laid).
  DERIVED. THE GIVEN ROWS OF THIS SEAT. 4 by the template 'for every input the law returns true; each argument reads behind the call as it read before'; 0 by the template 'total and deterministic' (their statements: YtfjnjnkmkbbjoaaTotals.lean).
  GIVEN WITH THE SEED: the statements are not yours to turn. If you find one false, say at which input.
  Laid BY PROGRAM, IN A SANDBOX (cutbox-rows.mjs): the forced cells as the released guide's own fill.sh prints them over the translation ca79efecb81c79cd… (all of the seat's roots in one cut). By AI agents, Wed Nov 11 2026. No macro, syntax, notation, axiom, sorry.
-/
import Derived.Test.YtfjnjnkmkbbjoaaChecked
import GoSem.Claim
import GoSem.ClaimJoined
import GoSem.ClaimMapViews
import Derived.JoinedTies
import Derived.KernelRfl
namespace Go.Proofs.Ytfjnjnkmkbbjoaa
/- THE CELL 'sum', in the pinned program and in every row, IS THE sha256 OF THE DUMP (.gsa) THAT YtfjnjnkmkbbjoaaProg.lean LOADS. Nothing in Lean hashes anything: it is a label: what it is worth is what the hold of that sum in a sandbox is worth. -/
noncomputable def Try.pinned : Pinned := { name := "ytfjnjnkmkbbjoaa", sum := "ca79efecb81c79cd1724faefe5f974bf21274682181ed8a8512e6d77b8e2f796", checked := Try.checked }
namespace Rows
def none {H : Type} : Left H := { results := [], args := [] }

/-- 'silolaw08.BlockPacks': WHATEVER THE INPUT: true; the input reads as it did. -/
def blockPacksSpec : ChangeSpec := { name := "blockPacks", fn := fun _ => fun
  | [d] => { results := [.lit (.bool true)], args := [d] }
  | _ => none }
def blockPacksRow : OpenClaim := { program := "ytfjnjnkmkbbjoaa", sum := "ca79efecb81c79cd1724faefe5f974bf21274682181ed8a8512e6d77b8e2f796", func := "silo/silolaw08.BlockPacks", spec := "blockPacks", unfollowed := true, recurses := true, apart := false }
def BlockPacksSaid : Prop := blockPacksRow.holds Try.pinned (OpenSpec.ofChange blockPacksSpec)

/-- ITS FALSE NEIGHBOUR: 'it returns false'. Refute it at one input. -/
def blockPacksWrong : ChangeSpec := { name := "blockPacks", fn := fun _ => fun
  | [d] => { results := [.lit (.bool false)], args := [d] }
  | _ => none }
def BlockPacksWrongFalsely : Prop := blockPacksRow.holds Try.pinned (OpenSpec.ofChange blockPacksWrong)

/-- 'silolaw08.BlockOpens': WHATEVER THE INPUT: true; the input reads as it did. -/
def blockOpensSpec : ChangeSpec := { name := "blockOpens", fn := fun _ => fun
  | [d1, d2] => { results := [.lit (.bool true)], args := [d1, d2] }
  | _ => none }
def blockOpensRow : OpenClaim := { program := "ytfjnjnkmkbbjoaa", sum := "ca79efecb81c79cd1724faefe5f974bf21274682181ed8a8512e6d77b8e2f796", func := "silo/silolaw08.BlockOpens", spec := "blockOpens", unfollowed := true, recurses := true, apart := false }
def BlockOpensSaid : Prop := blockOpensRow.holds Try.pinned (OpenSpec.ofChange blockOpensSpec)

/-- ITS FALSE NEIGHBOUR: 'it returns false'. Refute it at one input. -/
def blockOpensWrong : ChangeSpec := { name := "blockOpens", fn := fun _ => fun
  | [d1, d2] => { results := [.lit (.bool false)], args := [d1, d2] }
  | _ => none }
def BlockOpensWrongFalsely : Prop := blockOpensRow.holds Try.pinned (OpenSpec.ofChange blockOpensWrong)

/-- 'silolaw08.BlockBack': WHATEVER THE INPUT: true; the input reads as it did. -/
def blockBackSpec : ChangeSpec := { name := "blockBack", fn := fun _ => fun
  | [d1, d2, d3] => { results := [.lit (.bool true)], args := [d1, d2, d3] }
  | _ => none }
def blockBackRow : OpenClaim := { program := "ytfjnjnkmkbbjoaa", sum := "ca79efecb81c79cd1724faefe5f974bf21274682181ed8a8512e6d77b8e2f796", func := "silo/silolaw08.BlockBack", spec := "blockBack", unfollowed := true, recurses := true, apart := false }
def BlockBackSaid : Prop := blockBackRow.holds Try.pinned (OpenSpec.ofChange blockBackSpec)

/-- ITS FALSE NEIGHBOUR: 'it returns false'. Refute it at one input. -/
def blockBackWrong : ChangeSpec := { name := "blockBack", fn := fun _ => fun
  | [d1, d2, d3] => { results := [.lit (.bool false)], args := [d1, d2, d3] }
  | _ => none }
def BlockBackWrongFalsely : Prop := blockBackRow.holds Try.pinned (OpenSpec.ofChange blockBackWrong)

/-- 'silolaw08.BlockFinds': WHATEVER THE INPUT: true; the input reads as it did. -/
def blockFindsSpec : ChangeSpec := { name := "blockFinds", fn := fun _ => fun
  | [d1, d2] => { results := [.lit (.bool true)], args := [d1, d2] }
  | _ => none }
def blockFindsRow : OpenClaim := { program := "ytfjnjnkmkbbjoaa", sum := "ca79efecb81c79cd1724faefe5f974bf21274682181ed8a8512e6d77b8e2f796", func := "silo/silolaw08.BlockFinds", spec := "blockFinds", inPlace := ["internal/bytealg.abigen_runtime_cmpstring"], unfollowed := true, recurses := true, apart := false }
def BlockFindsSaid : Prop := blockFindsRow.holds Try.pinned (OpenSpec.ofChange blockFindsSpec)

/-- ITS FALSE NEIGHBOUR: 'it returns false'. Refute it at one input. -/
def blockFindsWrong : ChangeSpec := { name := "blockFinds", fn := fun _ => fun
  | [d1, d2] => { results := [.lit (.bool false)], args := [d1, d2] }
  | _ => none }
def BlockFindsWrongFalsely : Prop := blockFindsRow.holds Try.pinned (OpenSpec.ofChange blockFindsWrong)

/- THE SECOND FORM. 'bulk': how many values and letters a reading holds, each counted each time it is reached (what is shared counts as often as it is met; a slice's spare places count too). A statement '..UptoSaid' is the law's where the arguments, and the package variables that the reading takes, are together of bulk at most 1048576: NARROWER than '..Said'. Prove '..Said' where nothing that the law and all that it calls make is longer than what came in: it says more and counts as full. Else prove '..UptoSaid'. A law counts once. -/
mutual
def uptoBulk {H : Type} : DataW H → Nat
  | .lit (.string bytes) => bytes.length + 1
  | .lit _ => 1
  | .nil => 1
  | .ptr d => uptoBulk d + 1
  | .slice elems spare => uptoBulkAll elems + uptoBulkAll spare + 1
  | .agg parts => uptoBulkAll parts + 1
  | .iface _ d => uptoBulk d + 1
  | .map entries => uptoBulkEntries entries + 1
  | .held _ => 1
def uptoBulkAll {H : Type} : List (DataW H) → Nat
  | [] => 0
  | d :: r => uptoBulk d + uptoBulkAll r
def uptoBulkEntries {H : Type} : List (Lit × DataW H) → Nat
  | [] => 0
  | x :: r => uptoBulkEntry x + uptoBulkEntries r
def uptoBulkEntry {H : Type} : Lit × DataW H → Nat
  | (.string bytes, d) => bytes.length + uptoBulk d + 1
  | (_, d) => uptoBulk d + 1
 end
def uptoSmall : (H : Type) → List (DataW H) → Bool := fun _ ds => decide (uptoBulkAll ds ≤ 1048576)
def OpenSpec.upto (s : _root_.Go.ChangeSpec) : _root_.Go.OpenSpec := { _root_.Go.OpenSpec.ofChange s with cond := some uptoSmall }

/-- 'silolaw08.BlockPacks', WHERE WHAT IT READS IS OF BULK AT MOST 1048576: true; the input reads as it did. -/
def blockPacksUptoRow : OpenClaim := { program := "ytfjnjnkmkbbjoaa", sum := "ca79efecb81c79cd1724faefe5f974bf21274682181ed8a8512e6d77b8e2f796", func := "silo/silolaw08.BlockPacks", spec := "blockPacks", unfollowed := true, recurses := true, apart := false, narrowed := true }
def BlockPacksUptoSaid : Prop := blockPacksUptoRow.holds Try.pinned (OpenSpec.upto blockPacksSpec)

/-- 'silolaw08.BlockOpens', WHERE WHAT IT READS IS OF BULK AT MOST 1048576: true; the input reads as it did. -/
def blockOpensUptoRow : OpenClaim := { program := "ytfjnjnkmkbbjoaa", sum := "ca79efecb81c79cd1724faefe5f974bf21274682181ed8a8512e6d77b8e2f796", func := "silo/silolaw08.BlockOpens", spec := "blockOpens", unfollowed := true, recurses := true, apart := false, narrowed := true }
def BlockOpensUptoSaid : Prop := blockOpensUptoRow.holds Try.pinned (OpenSpec.upto blockOpensSpec)

/-- 'silolaw08.BlockBack', WHERE WHAT IT READS IS OF BULK AT MOST 1048576: true; the input reads as it did. -/
def blockBackUptoRow : OpenClaim := { program := "ytfjnjnkmkbbjoaa", sum := "ca79efecb81c79cd1724faefe5f974bf21274682181ed8a8512e6d77b8e2f796", func := "silo/silolaw08.BlockBack", spec := "blockBack", unfollowed := true, recurses := true, apart := false, narrowed := true }
def BlockBackUptoSaid : Prop := blockBackUptoRow.holds Try.pinned (OpenSpec.upto blockBackSpec)

/-- 'silolaw08.BlockFinds', WHERE WHAT IT READS IS OF BULK AT MOST 1048576: true; the input reads as it did. -/
def blockFindsUptoRow : OpenClaim := { program := "ytfjnjnkmkbbjoaa", sum := "ca79efecb81c79cd1724faefe5f974bf21274682181ed8a8512e6d77b8e2f796", func := "silo/silolaw08.BlockFinds", spec := "blockFinds", inPlace := ["internal/bytealg.abigen_runtime_cmpstring"], unfollowed := true, recurses := true, apart := false, narrowed := true }
def BlockFindsUptoSaid : Prop := blockFindsUptoRow.holds Try.pinned (OpenSpec.upto blockFindsSpec)

end Rows
end Go.Proofs.Ytfjnjnkmkbbjoaa
