/- BloomNever and BloomMore, in the shape that the row asks for. -/
import Derived.Test.YtbimboibllboeaaDoorBlmMore
namespace Go.Proofs.YtbimboibllboeaaDoor.Blm
open Go Go.RowKit Go.ChangeShapes Go.WideShapes Go.Proofs.YtbimboibllboeaaDoor.Eng Go.Proofs.YtbimboibllboeaaDoor.Sha Go.Proofs.YtbimboibllboeaaDoor.Six
theorem u8_of {bt : Int} (hb : (Lit.int .u8 bt).wf = true) : Value.int .u8 bt = u8V (UInt8.ofNat bt.toNat) := by
  have h8 := bounds_u8 hb
  have : ((UInt8.ofNat bt.toNat).toNat : Int) = bt := by rw [UInt8.toNat_ofNat']; omega
  rw [u8V, this]
theorem never_row {w : World} (bt : Int) (hb : (Lit.int .u8 bt).wf = true) (A : Option Addr) (c : Nat) (l : List ByteArray) (hr : Rd w 1 A l.length (l.map sV)) (hc : l.length ≤ c) (hs : ∀ s ∈ l, s.size ≤ 9223372036854775807) (h0 : Ok0 w) :
    Calls Tryd.prog 6 #[.int .u8 bt, .slice A l.length c] w fun e w' => e = .returned (bV true) ∧ Below w.heap.size w w' := by
  rw [u8_of hb]; exact never_walk _ A c l hr hc hs h0
theorem more_row {w : World} (bt : Int) (hb : (Lit.int .u8 bt).wf = true) (A : Option Addr) (c : Nat) (l : List ByteArray) (hr : Rd w 1 A l.length (l.map sV)) (hc : l.length ≤ c) (hs : ∀ s ∈ l, s.size ≤ 9223372036854775807) (h0 : Ok0 w) :
    Calls Tryd.prog 4 #[.int .u8 bt, .slice A l.length c] w fun e w' => e = .returned (bV true) ∧ Below w.heap.size w w' := by
  rw [u8_of hb]; exact more_walk _ A c l hr hc hs h0
end Go.Proofs.YtbimboibllboeaaDoor.Blm
