/- DiskRoom, in the shape that the row asks for. -/
import Derived.Test.YtnneoipoaoefkaaDskRoom
namespace Go.Proofs.Ytnneoipoaoefkaa.Dsk
open Go Go.RowKit Go.ChangeShapes Go.WideShapes Go.Proofs.Ytnneoipoaoefkaa.Eng
theorem u8_of {bt : Int} (hb : (Lit.int .u8 bt).wf = true) : Value.int .u8 bt = u8V (UInt8.ofNat bt.toNat) := by
  have h8 := bounds_u8 hb
  have : ((UInt8.ofNat bt.toNat).toNat : Int) = bt := by rw [UInt8.toNat_ofNat']; omega
  rw [u8V, this]
theorem diskRoom_row {w : World} (a : Int) (ha : (Lit.int .u8 a).wf = true) (b : Int) (hb : (Lit.int .u8 b).wf = true) (A : Option Addr) (c : Nat) (os : List OpS) (hr : Rd w 7 A os.length (os.flatMap opC)) (hcap : os.length ≤ c) (hok : ∀ o ∈ os, opok w o) :
    Calls Try.prog 6 #[.int .u8 a, .int .u8 b, .slice A os.length c] w fun e w' => e = .returned (bV true) ∧ Below w.heap.size w w' := by
  rw [u8_of ha, u8_of hb]; exact diskRoom_walk _ _ A c os hr hcap hok
end Go.Proofs.Ytnneoipoaoefkaa.Dsk
