/- WalFull, in the shape that the row asks for. -/
import Derived.Test.YtlkljeghhahedaaWalFull
import Derived.OpenShut
namespace Go.Proofs.Ytlkljeghhahedaa.Wal
open Go Go.RowKit Go.ChangeShapes Go.WideShapes Go.Proofs.Ytlkljeghhahedaa.Eng Go.Proofs.Ytlkljeghhahedaa.Six Go.Proofs.Ytlkljeghhahedaa.CrcFn Go.Proofs.Ytlkljeghhahedaa.Crc
theorem walFull_walk {w : World} (A : Option Addr) (c : Nat) (l : List ByteArray) (hr : Rd w 1 A l.length (l.map sV)) (hc : l.length ≤ c) (_ : ∀ s ∈ l, s.size ≤ 9223372036854775807) (bt : Int) (hb : (Lit.int .u8 bt).wf = true) :
    Calls Try.prog 6 #[.slice A l.length c, .int .u8 bt] w fun e w' => e = .returned (bV true) ∧ Below w.heap.size w w' := by
  have h8 := bounds_u8 hb
  have e8 : Value.int .u8 bt = u8V (UInt8.ofNat bt.toNat) := by
    have : ((UInt8.ofNat bt.toNat).toNat : Int) = bt := by rw [UInt8.toNat_ofNat']; omega
    rw [u8V, this]
  have el : xV (l.map toL) = l.map sV := by
    rw [xV, List.map_map, List.map_map]; rfl
  have hl : (l.map toL).length = l.length := List.length_map ..
  have h := full_main A c (l.map toL) (UInt8.ofNat bt.toNat) w (by rw [el, hl]; exact hr) (by rw [hl]; exact hc)
  rw [hl] at h
  rw [e8]
  exact h
end Go.Proofs.Ytlkljeghhahedaa.Wal
