/- CrcSums, over lists: the sum of any texts is the reference's sum of all of them, whatever they are cut into; no condition beyond the sizes that every input has. -/
import Derived.Test.YtlgkmigdgjjoeaaCrcRef
namespace Go.Proofs.Ytlgkmigdgjjoeaa.Pure
open Go.RowKit Go.Proofs.Ytlgkmigdgjjoeaa.PCrc Go.Proofs.YtlgkmigdgjjoeaaW.PrintWords Go.Proofs.YtlgkmigdgjjoeaaW.PrintLast Go.Proofs.Ytlgkmigdgjjoeaa.Base Go.Proofs.Ytlgkmigdgjjoeaa.CrcFn Go.Proofs.Ytlgkmigdgjjoeaa.CrcEv Go.Proofs.Ytlgkmigdgjjoeaa.CrcRef

theorem sums_l0 (ps : List ByteArray) (hl : ps.length ≤ 140737488351232) (d : Nat) : ∀ (a : ByteArray) (j : Nat), j + d = ps.length → a.size ≤ 40000 →
    (∀ s ∈ ps.take j, s.size ≤ 20000) → toL a = (ps.take j).flatMap toL → Ev (fun k => silolaw02_CrcSums.l0 k ps a (j : Int)) true := by
  induction d with
  | zero =>
    intro a j hj ha hs e
    rw [List.take_of_length_le (by omega)] at hs e
    refine Ev.step (fun k => by simp only [silolaw02_CrcSums.l0]; rw [if_neg (by omega)]) ?_
    have h1 := ev_sum ps (by omega) (fun s h => by have := hs s h; omega)
    have h2 := ev_sum [a] (by simp) (by intro s h; simp at h; subst h; omega)
    simp only [List.flatMap_cons, List.flatMap_nil, List.append_nil] at h2
    rw [← e] at h1
    rw [ref_sum a (by unfold maxLen; omega)]
    simp only [Option.bind_some]
    refine Ev.bind awake_true ?_
    simp only [if_true]
    refine Ev.bind h1 ?_
    simp only [if_true]
    refine Ev.bind h2 (Ev.congr (fun _ => ?_) (Ev.now _))
    simp
  | succ d ih =>
    intro a j hj ha hs e
    have hlt : j < ps.length := by omega
    have er : rdOf ByteArray.empty ps (j : Int) = ps[j] := by
      simp [rdOf, List.getD_eq_getElem?_getD, List.getElem?_eq_getElem hlt]
    by_cases h1 : (ps[j].size : Int) > 20000
    · refine Ev.step (f := fun k => (silolaw02_awake.f k).bind fun t => some t) (fun k => ?_) (Ev.bind awake_true (Ev.now _))
      simp only [silolaw02_CrcSums.l0, er]
      rw [if_pos (by omega), if_pos (by omega), if_pos h1]
    · by_cases h2 : (a.size : Int) > 20000
      · refine Ev.step (f := fun k => (silolaw02_awake.f k).bind fun t => some t) (fun k => ?_) (Ev.bind awake_true (Ev.now _))
        simp only [silolaw02_CrcSums.l0, er]
        rw [if_pos (by omega), if_pos (by omega), if_neg h1, if_pos h2]
      · refine Ev.step (f := fun k => silolaw02_CrcSums.l0 k ps (a ++ ps[j]) ((j + 1 : Nat) : Int)) (fun k => ?_) (ih _ (j + 1) (by omega) ?_ ?_ ?_)
        · simp only [silolaw02_CrcSums.l0, er]
          rw [if_pos (by omega), if_pos (by omega), if_neg h1, if_neg h2, if_pos (by omega), wrap64_small (by omega) (by omega)]
          rfl
        · rw [ByteArray.size_append]; omega
        · intro s h
          rw [List.take_succ_eq_append_getElem hlt, List.mem_append] at h
          rcases h with h | h
          · exact hs s h
          · simp at h; subst h; omega
        · rw [toL_append, e, List.take_succ_eq_append_getElem hlt, List.flatMap_append]
          simp
theorem CrcSums (ps : List ByteArray) (hl : ps.length ≤ 140737488351232) : ∃ k, silolaw02_CrcSums.f k ps = some true := by
  apply Ev.rounds
  exact sums_l0 ps hl ps.length _ 0 (by omega) (by decide) (by simp) rfl
end Go.Proofs.Ytlgkmigdgjjoeaa.Pure
