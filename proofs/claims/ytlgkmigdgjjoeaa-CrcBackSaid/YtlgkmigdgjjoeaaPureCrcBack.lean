/- CrcBack, over lists: a text with its sum is taken as it was, and what is taken is such a text; conditions: none beyond the sizes that every input has. -/
import Derived.Test.YtlgkmigdgjjoeaaCrcEv
namespace Go.Proofs.Ytlgkmigdgjjoeaa.Pure
open Go.RowKit Go.Proofs.Ytlgkmigdgjjoeaa.PCrc Go.Proofs.YtlgkmigdgjjoeaaW.PrintWords Go.Proofs.YtlgkmigdgjjoeaaW.PrintLast Go.Proofs.Ytlgkmigdgjjoeaa.Base Go.Proofs.Ytlgkmigdgjjoeaa.CrcFn Go.Proofs.Ytlgkmigdgjjoeaa.CrcEv

theorem CrcBack : silolaw02_CrcBack.Pure := by
  intro s t hs ht
  apply Ev.rounds
  unfold silolaw02_CrcBack.f
  have hp := ev_put s (by omega)
  have h1 := ev_take (ofL (put (toL s))) (by rw [size_ofL, put_length, ← size_eq]; omega)
  rw [toL_ofL, take_put] at h1
  have h2 := ev_take t (by omega)
  refine Ev.bind hp (Ev.bind h1 (Ev.bind h2 (Ev.bind awake_true ?_)))
  have e1 : ((ofL (put (toL s))).size : Int) = wrap64 ((s.size : Int) + 4) := by
    rw [size_ofL, put_length, ← size_eq, wrap64_small (by omega) (by omega)]; rfl
  have e2 : (ofL (toL s)).toList = s.toList := rfl
  simp only [e1, e2, if_true]
  by_cases h : (take (toL t)).2 = 0
  · simp only [h, if_true]
    have h3 := ev_put (ofL (take (toL t)).1) (by
      have : (take (toL t)).1.length ≤ (toL t).length := by
        have := congrArg List.length (put_take _ h)
        rw [put_length] at this
        omega
      rw [size_ofL]; rw [← size_eq] at this; omega)
    rw [toL_ofL, put_take _ h] at h3
    have h4 := Ev.bind h3 (f := fun _ (t123 : ByteArray) => some (t123.toList == t.toList)) (r := true) (Ev.congr (fun _ => by rw [show (ofL (toL t)).toList = t.toList from rfl]; simp) (Ev.now _))
    refine Ev.congr (fun k => ?_) h4
    rfl
  · simp only [h, if_false]
    exact Ev.congr (fun _ => rfl) (Ev.now _)
end Go.Proofs.Ytlgkmigdgjjoeaa.Pure
