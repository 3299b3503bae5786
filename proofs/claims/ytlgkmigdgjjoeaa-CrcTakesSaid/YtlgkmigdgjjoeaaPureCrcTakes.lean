/- CrcTakes, over lists: any bytes are a text with its sum, or refused, as the reference says; no condition beyond the sizes that every input has. -/
import Derived.Test.YtlgkmigdgjjoeaaCrcRef
namespace Go.Proofs.Ytlgkmigdgjjoeaa.Pure
open Go.RowKit Go.Proofs.Ytlgkmigdgjjoeaa.PCrc Go.Proofs.YtlgkmigdgjjoeaaW.PrintWords Go.Proofs.YtlgkmigdgjjoeaaW.PrintLast Go.Proofs.Ytlgkmigdgjjoeaa.Base Go.Proofs.Ytlgkmigdgjjoeaa.CrcFn Go.Proofs.Ytlgkmigdgjjoeaa.CrcEv Go.Proofs.Ytlgkmigdgjjoeaa.CrcRef

theorem CrcTakes : silolaw02_CrcTakes.Pure := by
  intro s hs
  apply Ev.rounds
  unfold silolaw02_CrcTakes.f
  by_cases h : (s.size : Int) > 20000
  · refine Ev.congr (fun k => if_pos h) (Ev.bind awake_true (Ev.now _))
  · refine Ev.congr (fun k => if_neg h) ?_
    refine Ev.bind (ev_take s (by omega)) ?_
    rw [ref_take s (by omega), ref_put s (by omega)]
    simp only [Option.bind_some]
    refine Ev.bind awake_true ?_
    simp only [if_true]
    refine Ev.bind (ev_put s (by omega)) (Ev.congr (fun k => ?_) (Ev.now _))
    simp
end Go.Proofs.Ytlgkmigdgjjoeaa.Pure
