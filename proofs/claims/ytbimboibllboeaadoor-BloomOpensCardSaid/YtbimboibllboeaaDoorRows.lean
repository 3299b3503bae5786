/-
  NARROWER THAN 'FOR EVERY INPUT', by the rows' own cells (each row's printed sentence says how): BloomMakes: laid · BloomMore: laid · BloomNil: laid · BloomNever: laid · BloomOpens: laid.
  DERIVED. THE GIVEN ROWS OF THIS SEAT. 5 by the template 'for every input the law returns true; each argument reads behind the call as it read before'; 0 by the template 'total and deterministic' (their statements: YtbimboibllboeaaDoorTotals.lean).
  GIVEN WITH THE SEED: the statements are not yours to turn. If you find one false, say at which input.
  Laid BY PROGRAM, IN A SANDBOX (cutbox-rows.mjs): the forced cells as the released guide's own fill.sh prints them over the translation c10d20b37115a428… (all of the seat's roots in one cut). By AI agents, Wed Nov 11 2026. No macro, syntax, notation, axiom, sorry.
-/
import Derived.Test.YtbimboibllboeaaDoorChecked
import GoSem.Claim
import GoSem.ClaimJoined
import GoSem.ClaimMapViews
import Derived.JoinedTies
import Derived.KernelRfl
namespace Go.Proofs.YtbimboibllboeaaDoor
/- THE CELL 'sum', in the pinned program and in every row, IS THE sha256 OF THE DUMP (.gsa) THAT YtbimboibllboeaaDoorProg.lean LOADS. Nothing in Lean hashes anything: it is a label: what it is worth is what the hold of that sum in a sandbox is worth. -/
noncomputable def Tryd.pinned : Pinned := { name := "ytbimboibllboeaadoor", sum := "c10d20b37115a4282fdf11faa845c9494c8c8e575e342d410e5dc2e9d55f5278", checked := Tryd.checked }
namespace Rows
def none {H : Type} : Left H := { results := [], args := [] }

/- WHAT THE LISTED PACKAGE-LEVEL VARIABLES READ AS WHEN THE CALL BEGINS. Each datum BY PROGRAM (the guide's laid-datum.mjs) off the statement by which the dump's own 'gosem.cut.vars' lays the variable. In a bare row this is a premise. The card (YtbimboibllboeaaDoorCards.lean) ties it to the program's text. -/
def laid_silo_sha_rounds {H : Type} : DataW H := .agg [.lit (.int .u32 1116352408), .lit (.int .u32 1899447441), .lit (.int .u32 3049323471), .lit (.int .u32 3921009573), .lit (.int .u32 961987163), .lit (.int .u32 1508970993), .lit (.int .u32 2453635748), .lit (.int .u32 2870763221), .lit (.int .u32 3624381080), .lit (.int .u32 310598401), .lit (.int .u32 607225278), .lit (.int .u32 1426881987), .lit (.int .u32 1925078388), .lit (.int .u32 2162078206), .lit (.int .u32 2614888103), .lit (.int .u32 3248222580), .lit (.int .u32 3835390401), .lit (.int .u32 4022224774), .lit (.int .u32 264347078), .lit (.int .u32 604807628), .lit (.int .u32 770255983), .lit (.int .u32 1249150122), .lit (.int .u32 1555081692), .lit (.int .u32 1996064986), .lit (.int .u32 2554220882), .lit (.int .u32 2821834349), .lit (.int .u32 2952996808), .lit (.int .u32 3210313671), .lit (.int .u32 3336571891), .lit (.int .u32 3584528711), .lit (.int .u32 113926993), .lit (.int .u32 338241895), .lit (.int .u32 666307205), .lit (.int .u32 773529912), .lit (.int .u32 1294757372), .lit (.int .u32 1396182291), .lit (.int .u32 1695183700), .lit (.int .u32 1986661051), .lit (.int .u32 2177026350), .lit (.int .u32 2456956037), .lit (.int .u32 2730485921), .lit (.int .u32 2820302411), .lit (.int .u32 3259730800), .lit (.int .u32 3345764771), .lit (.int .u32 3516065817), .lit (.int .u32 3600352804), .lit (.int .u32 4094571909), .lit (.int .u32 275423344), .lit (.int .u32 430227734), .lit (.int .u32 506948616), .lit (.int .u32 659060556), .lit (.int .u32 883997877), .lit (.int .u32 958139571), .lit (.int .u32 1322822218), .lit (.int .u32 1537002063), .lit (.int .u32 1747873779), .lit (.int .u32 1955562222), .lit (.int .u32 2024104815), .lit (.int .u32 2227730452), .lit (.int .u32 2361852424), .lit (.int .u32 2428436474), .lit (.int .u32 2756734187), .lit (.int .u32 3204031479), .lit (.int .u32 3329325298)]

/-- 'silolaw07.BloomMakes': WHATEVER THE INPUT: true; the input reads as it did. -/
def bloomMakesSpec : ChangeSpec := { name := "bloomMakes", fn := fun _ => fun
  | [d1, d2, d3] => { results := [.lit (.bool true)], args := [d1, d2, d3] }
  | _ => none }
def bloomMakesRow : OpenClaim := { program := "ytbimboibllboeaadoor", sum := "c10d20b37115a4282fdf11faa845c9494c8c8e575e342d410e5dc2e9d55f5278", func := "silo/silolaw07.BloomMakes", spec := "bloomMakes", unfollowed := true, recurses := true, named := ["silo/sha.rounds"], apart := false, laid := [("silo/sha.rounds", laid_silo_sha_rounds)] }
def BloomMakesSaid : Prop := bloomMakesRow.holds Tryd.pinned (OpenSpec.ofChange bloomMakesSpec)

/-- ITS FALSE NEIGHBOUR: 'it returns false'. Refute it at one input. -/
def bloomMakesWrong : ChangeSpec := { name := "bloomMakes", fn := fun _ => fun
  | [d1, d2, d3] => { results := [.lit (.bool false)], args := [d1, d2, d3] }
  | _ => none }
def BloomMakesWrongFalsely : Prop := bloomMakesRow.holds Tryd.pinned (OpenSpec.ofChange bloomMakesWrong)

/-- 'silolaw07.BloomMore': WHATEVER THE INPUT: true; the input reads as it did. -/
def bloomMoreSpec : ChangeSpec := { name := "bloomMore", fn := fun _ => fun
  | [d1, d2] => { results := [.lit (.bool true)], args := [d1, d2] }
  | _ => none }
def bloomMoreRow : OpenClaim := { program := "ytbimboibllboeaadoor", sum := "c10d20b37115a4282fdf11faa845c9494c8c8e575e342d410e5dc2e9d55f5278", func := "silo/silolaw07.BloomMore", spec := "bloomMore", unfollowed := true, recurses := true, named := ["silo/sha.rounds"], apart := false, laid := [("silo/sha.rounds", laid_silo_sha_rounds)] }
def BloomMoreSaid : Prop := bloomMoreRow.holds Tryd.pinned (OpenSpec.ofChange bloomMoreSpec)

/-- ITS FALSE NEIGHBOUR: 'it returns false'. Refute it at one input. -/
def bloomMoreWrong : ChangeSpec := { name := "bloomMore", fn := fun _ => fun
  | [d1, d2] => { results := [.lit (.bool false)], args := [d1, d2] }
  | _ => none }
def BloomMoreWrongFalsely : Prop := bloomMoreRow.holds Tryd.pinned (OpenSpec.ofChange bloomMoreWrong)

/-- 'silolaw07.BloomNil': WHATEVER THE INPUT: true; the input reads as it did. -/
def bloomNilSpec : ChangeSpec := { name := "bloomNil", fn := fun _ => fun
  | [d] => { results := [.lit (.bool true)], args := [d] }
  | _ => none }
def bloomNilRow : OpenClaim := { program := "ytbimboibllboeaadoor", sum := "c10d20b37115a4282fdf11faa845c9494c8c8e575e342d410e5dc2e9d55f5278", func := "silo/silolaw07.BloomNil", spec := "bloomNil", unfollowed := true, recurses := true, named := ["silo/sha.rounds"], apart := false, laid := [("silo/sha.rounds", laid_silo_sha_rounds)] }
def BloomNilSaid : Prop := bloomNilRow.holds Tryd.pinned (OpenSpec.ofChange bloomNilSpec)

/-- ITS FALSE NEIGHBOUR: 'it returns false'. Refute it at one input. -/
def bloomNilWrong : ChangeSpec := { name := "bloomNil", fn := fun _ => fun
  | [d] => { results := [.lit (.bool false)], args := [d] }
  | _ => none }
def BloomNilWrongFalsely : Prop := bloomNilRow.holds Tryd.pinned (OpenSpec.ofChange bloomNilWrong)

/-- 'silolaw07.BloomNever': WHATEVER THE INPUT: true; the input reads as it did. -/
def bloomNeverSpec : ChangeSpec := { name := "bloomNever", fn := fun _ => fun
  | [d1, d2] => { results := [.lit (.bool true)], args := [d1, d2] }
  | _ => none }
def bloomNeverRow : OpenClaim := { program := "ytbimboibllboeaadoor", sum := "c10d20b37115a4282fdf11faa845c9494c8c8e575e342d410e5dc2e9d55f5278", func := "silo/silolaw07.BloomNever", spec := "bloomNever", unfollowed := true, recurses := true, named := ["silo/sha.rounds"], apart := false, laid := [("silo/sha.rounds", laid_silo_sha_rounds)] }
def BloomNeverSaid : Prop := bloomNeverRow.holds Tryd.pinned (OpenSpec.ofChange bloomNeverSpec)

/-- ITS FALSE NEIGHBOUR: 'it returns false'. Refute it at one input. -/
def bloomNeverWrong : ChangeSpec := { name := "bloomNever", fn := fun _ => fun
  | [d1, d2] => { results := [.lit (.bool false)], args := [d1, d2] }
  | _ => none }
def BloomNeverWrongFalsely : Prop := bloomNeverRow.holds Tryd.pinned (OpenSpec.ofChange bloomNeverWrong)

/-- 'silolaw07.BloomOpens': WHATEVER THE INPUT: true; the input reads as it did. -/
def bloomOpensSpec : ChangeSpec := { name := "bloomOpens", fn := fun _ => fun
  | [d1, d2] => { results := [.lit (.bool true)], args := [d1, d2] }
  | _ => none }
def bloomOpensRow : OpenClaim := { program := "ytbimboibllboeaadoor", sum := "c10d20b37115a4282fdf11faa845c9494c8c8e575e342d410e5dc2e9d55f5278", func := "silo/silolaw07.BloomOpens", spec := "bloomOpens", unfollowed := true, recurses := true, named := ["silo/sha.rounds"], apart := false, laid := [("silo/sha.rounds", laid_silo_sha_rounds)] }
def BloomOpensSaid : Prop := bloomOpensRow.holds Tryd.pinned (OpenSpec.ofChange bloomOpensSpec)

/-- ITS FALSE NEIGHBOUR: 'it returns false'. Refute it at one input. -/
def bloomOpensWrong : ChangeSpec := { name := "bloomOpens", fn := fun _ => fun
  | [d1, d2] => { results := [.lit (.bool false)], args := [d1, d2] }
  | _ => none }
def BloomOpensWrongFalsely : Prop := bloomOpensRow.holds Tryd.pinned (OpenSpec.ofChange bloomOpensWrong)

/- THE SECOND FORM. 'bulk': how many values and letters a reading holds, each counted each time it is reached (what is shared counts as often as it is met; a slice's spare places count too). A statement '..UptoSaid' is the law's where the arguments, and the package variables that the reading takes, are together of bulk at most 1048576: NARROWER than '..Said'. Prove '..Said' where nothing that the law and all that it calls make is longer than what came in: it says more and counts as full. Else prove '..UptoSaid'. A law counts once. -/
mutual
def uptoBulk {H : Type} : DataW H → Nat
  | .lit (.string bytes) => bytes.length + 1
  | .lit _ => 1
  | .nil => 1
  | .ptr d => uptoBulk d + 1
  | .slice elems spare => uptoBulkAll elems + uptoBulkAll spare + 1
  | .agg parts => uptoBulkAll parts + 1
  | .iface _ d => uptoBulk d + 1
  | .map entries => uptoBulkEntries entries + 1
  | .held _ => 1
def uptoBulkAll {H : Type} : List (DataW H) → Nat
  | [] => 0
  | d :: r => uptoBulk d + uptoBulkAll r
def uptoBulkEntries {H : Type} : List (Lit × DataW H) → Nat
  | [] => 0
  | x :: r => uptoBulkEntry x + uptoBulkEntries r
def uptoBulkEntry {H : Type} : Lit × DataW H → Nat
  | (.string bytes, d) => bytes.length + uptoBulk d + 1
  | (_, d) => uptoBulk d + 1
 end
def uptoSmall : (H : Type) → List (DataW H) → Bool := fun _ ds => decide (uptoBulkAll ds ≤ 1048576)
def OpenSpec.upto (s : _root_.Go.ChangeSpec) : _root_.Go.OpenSpec := { _root_.Go.OpenSpec.ofChange s with cond := some uptoSmall }

/-- 'silolaw07.BloomMakes', WHERE WHAT IT READS IS OF BULK AT MOST 1048576: true; the input reads as it did. -/
def bloomMakesUptoRow : OpenClaim := { program := "ytbimboibllboeaadoor", sum := "c10d20b37115a4282fdf11faa845c9494c8c8e575e342d410e5dc2e9d55f5278", func := "silo/silolaw07.BloomMakes", spec := "bloomMakes", unfollowed := true, recurses := true, named := ["silo/sha.rounds"], apart := false, laid := [("silo/sha.rounds", laid_silo_sha_rounds)], narrowed := true }
def BloomMakesUptoSaid : Prop := bloomMakesUptoRow.holds Tryd.pinned (OpenSpec.upto bloomMakesSpec)

/-- 'silolaw07.BloomMore', WHERE WHAT IT READS IS OF BULK AT MOST 1048576: true; the input reads as it did. -/
def bloomMoreUptoRow : OpenClaim := { program := "ytbimboibllboeaadoor", sum := "c10d20b37115a4282fdf11faa845c9494c8c8e575e342d410e5dc2e9d55f5278", func := "silo/silolaw07.BloomMore", spec := "bloomMore", unfollowed := true, recurses := true, named := ["silo/sha.rounds"], apart := false, laid := [("silo/sha.rounds", laid_silo_sha_rounds)], narrowed := true }
def BloomMoreUptoSaid : Prop := bloomMoreUptoRow.holds Tryd.pinned (OpenSpec.upto bloomMoreSpec)

/-- 'silolaw07.BloomNil', WHERE WHAT IT READS IS OF BULK AT MOST 1048576: true; the input reads as it did. -/
def bloomNilUptoRow : OpenClaim := { program := "ytbimboibllboeaadoor", sum := "c10d20b37115a4282fdf11faa845c9494c8c8e575e342d410e5dc2e9d55f5278", func := "silo/silolaw07.BloomNil", spec := "bloomNil", unfollowed := true, recurses := true, named := ["silo/sha.rounds"], apart := false, laid := [("silo/sha.rounds", laid_silo_sha_rounds)], narrowed := true }
def BloomNilUptoSaid : Prop := bloomNilUptoRow.holds Tryd.pinned (OpenSpec.upto bloomNilSpec)

/-- 'silolaw07.BloomNever', WHERE WHAT IT READS IS OF BULK AT MOST 1048576: true; the input reads as it did. -/
def bloomNeverUptoRow : OpenClaim := { program := "ytbimboibllboeaadoor", sum := "c10d20b37115a4282fdf11faa845c9494c8c8e575e342d410e5dc2e9d55f5278", func := "silo/silolaw07.BloomNever", spec := "bloomNever", unfollowed := true, recurses := true, named := ["silo/sha.rounds"], apart := false, laid := [("silo/sha.rounds", laid_silo_sha_rounds)], narrowed := true }
def BloomNeverUptoSaid : Prop := bloomNeverUptoRow.holds Tryd.pinned (OpenSpec.upto bloomNeverSpec)

/-- 'silolaw07.BloomOpens', WHERE WHAT IT READS IS OF BULK AT MOST 1048576: true; the input reads as it did. -/
def bloomOpensUptoRow : OpenClaim := { program := "ytbimboibllboeaadoor", sum := "c10d20b37115a4282fdf11faa845c9494c8c8e575e342d410e5dc2e9d55f5278", func := "silo/silolaw07.BloomOpens", spec := "bloomOpens", unfollowed := true, recurses := true, named := ["silo/sha.rounds"], apart := false, laid := [("silo/sha.rounds", laid_silo_sha_rounds)], narrowed := true }
def BloomOpensUptoSaid : Prop := bloomOpensUptoRow.holds Tryd.pinned (OpenSpec.upto bloomOpensSpec)

end Rows
end Go.Proofs.YtbimboibllboeaaDoor
