/- The walk of wal.Frame: what it answers is the check's form of the text's form. -/
import Derived.Test.YtlkljeghhahedaaWriterT
import Derived.Test.YtlkljeghhahedaaPBasex2
namespace Go.Proofs.Ytlkljeghhahedaa.WalFrame
open Go Go.RowKit Go.Proofs.YtlkljeghhahedaaW.PrintWords Go.Proofs.YtlkljeghhahedaaW.PrintLast Go.Proofs.YtlkljeghhahedaaW.PrintMore Go.Proofs.Ytlkljeghhahedaa.PBase Go.Proofs.Ytlkljeghhahedaa.Base Go.Proofs.Ytlkljeghhahedaa.Writer
set_option linter.unusedVariables false
set_option linter.unusedSimpArgs false
set_option maxRecDepth 100000
def framed (k : Nat) (s : ByteArray) : Option ByteArray :=
  (six_groups.f k [] (s.size : Int) 64).bind fun l => if l.length + s.size ≤ 140737488355328 then crc_Put.f k (strOfNums (l ++ bytesOf s)) else none
theorem framed_mono (s : ByteArray) (k : Nat) : LeO (framed k s) (framed (k + 1) s) := by
  unfold framed
  exact LeO.bind (six_groups.mono _ _ _ _) fun l => LeO.ite (crc_Put.mono _ _) (LeO.refl _)
set_option maxHeartbeats 4000000 in
theorem frame_w (k : Nat) (s r : ByteArray) (w : World) (h : framed k s = some r) :
    Calls Try.prog 11 #[.string s] w fun e w' => e = .returned (.string r) ∧ Below w.heap.size w w' := by
  unfold framed at h
  cases hg : six_groups.f k [] (s.size : Int) 64 with
  | none => rw [hg] at h; cases h
  | some l =>
    rw [hg] at h
    simp only [Option.bind_some] at h
    by_cases hs : l.length + s.size ≤ 140737488355328
    · rw [if_pos hs] at h
      go_enter Try.func11, Try.ntmps11
      go_wp2_with fail
      refine (new_w w _ (Below.refl _ _)).mono ?_
      rintro e w1 ⟨rfl, hI1, hB1⟩
      go_wp2_with fail
      refine (text_w k s [] l w.heap.size w _ hI1 hB1 (by omega) hg hs).mono ?_
      rintro e w2 ⟨rfl, hI2, hB2⟩
      go_wp2_with fail
      refine (bytes_w _ w.heap.size w.heap.size _ hI2).mono ?_
      rintro e w3 ⟨rfl, rfl⟩
      go_wp2_with fail
      refine (crc_Put.calls k _ r _ h).mono ?_
      rintro e w4 ⟨rfl, hB4⟩
      go_wp2
      go_ret
      exact ⟨rfl, hB2.trans (hB4.mono hB2.size)⟩
    · rw [if_neg hs] at h; cases h
end Go.Proofs.Ytlkljeghhahedaa.WalFrame
