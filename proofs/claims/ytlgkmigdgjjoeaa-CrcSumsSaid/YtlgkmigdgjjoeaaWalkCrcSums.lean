/- The walk of the law CrcSums: for any slice of strings the call returns true and changes nothing that was there. -/
import Derived.Test.YtlgkmigdgjjoeaaPureCrcSums
namespace Go.Proofs.Ytlgkmigdgjjoeaa
open Go.RowKit Go.Proofs.YtlgkmigdgjjoeaaW.PrintWords
theorem crcSums_walk (w : World) (A : Option Addr) (c : Nat) (l : List ByteArray) (hr : Kd.string.C w A l.length l) (hc : l.length ≤ c) (hl : l.length * 16 ≤ 140737488351232) :
    Calls Try.prog 3 #[.slice A l.length c] w fun e w' => e = .returned (.bool true) ∧ Below w.heap.size w w' := by
  obtain ⟨k, h⟩ := Pure.CrcSums l (by omega)
  exact PCrc.silolaw02_CrcSums.calls k A c l true w hr hc h
end Go.Proofs.Ytlgkmigdgjjoeaa
