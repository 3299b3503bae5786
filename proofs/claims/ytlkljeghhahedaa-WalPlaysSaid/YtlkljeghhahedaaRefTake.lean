/- The walk of the document's Take. -/
import Derived.Test.YtlkljeghhahedaaRefSumE
namespace Go.Proofs.Ytlkljeghhahedaa.RefCrc
open Go Go.RowKit Go.Proofs.Ytlkljeghhahedaa.Eng Go.Proofs.Ytlkljeghhahedaa.CrcFn
set_option linter.unusedVariables false
set_option maxRecDepth 100000
theorem put_iff (l : List UInt8) (k : Nat) : put (l.take k) = l ↔ l.drop k = four (crc (l.take k)) := by
  unfold put
  constructor
  · intro h
    have h2 : l.take k ++ four (crc (l.take k)) = l.take k ++ l.drop k := by rw [h, List.take_append_drop]
    exact (List.append_cancel_left h2).symm
  · intro h
    rw [← h, List.take_append_drop]
theorem extract_drop (s : ByteArray) (k : Nat) : s.extract k s.size = ofL ((toL s).drop k) := toL_inj (by
  rw [toL_extract, toL_ofL, List.take_of_length_le (by rw [List.length_drop, toL_size]; exact Nat.le_refl _)])
set_option maxHeartbeats 1000000 in
theorem take_c (s : ByteArray) (hz : s.size ≤ 9223372036854775800) (w : World) :
    Calls Try.prog 42 #[sV s] w fun e w' => e = .returned (.tuple #[sV (ofL (Crc.take (toL s)).1), iV (Crc.take (toL s)).2]) ∧ Below w.heap.size w w' := by
  have hl := toL_size s
  refine enter (P := Try.prog) Try.func42 rfl rfl ?_
  have hs := Sep.init w
  refine c_rseq ?_
  refine l_v (by first | exact (r_assign (v := sV _) rfl) | exact (r_assign rfl)) ?_
  refine l_v (by first | exact (r_assign (v := iV _) rfl) | exact (r_assign rfl)) ?_
  refine l_nil (nrm_then ?_)
  refine c_seq ?_
  refine c_rseq ?_
  refine l_v (by first | exact (r_move (v := sV _) rfl) | exact (r_move rfl)) ?_
  refine l_v (r_len_s Try.underlying9 rfl) ?_
  refine l_v (r_lssi rfl rfl) ?_
  refine l_nil (nrm_then ?_)
  refine c_cond rfl (fun h => ?_) (fun h => ?_)
  · replace h := of_decide_eq_true h
    refine c_rseq ?_
    refine l_v (by first | exact (r_assign (v := sV _) rfl) | exact (r_assign rfl)) ?_
    refine l_v (by first | exact (r_assign (v := iV _) rfl) | exact (r_assign rfl)) ?_
    refine l_nil (nrm_then ?_)
    refine c_ret (ret_then ?_)
    show Fin _ _ _ _ _
    refine fin2 rfl ?_
    have e : Crc.take (toL s) = ([], 2) := if_pos (by omega)
    rw [e]
    exact ⟨rfl, hs.below⟩
  · replace h := of_decide_eq_false h
    refine c_skip (nrm_then ?_)
    refine c_seq ?_
    refine c_seq ?_
    have hs4 : 4 ≤ s.size := by omega
    have hpi := put_iff (toL s) ((toL s).length - 4)
    have e1 : s.extract ((s.size : Int) - 4).toNat s.size = ofL ((toL s).drop ((toL s).length - 4)) := by
      rw [show ((s.size : Int) - 4).toNat = (toL s).length - 4 by omega]
      exact extract_drop s _
    have e0 : s.extract 0 ((s.size : Int) - 4).toNat = ofL ((toL s).take ((toL s).length - 4)) := by
      rw [show ((s.size : Int) - 4).toNat = (toL s).length - 4 by omega]
      refine toL_inj ?_
      rw [toL_extract, toL_ofL]; rfl
    refine c_float [11, 10] 12 (by kernel_rfl) (by kernel_rfl) ?_
    intro hbF
    show OkF _ _ _ _ _ _ (_ :: _) 0 _ _
    refine f_v (fun wl hbl => by have hs := hs.below_ hbl; first | exact (r_move (v := sV _) rfl) | exact (r_move rfl)) ?_
    refine f_v (fun wl hbl => by have hs := hs.below_ hbl; first | exact (r_move (v := sV _) rfl) | exact (r_move rfl)) ?_
    refine f_v (fun wl hbl => by have hs := hs.below_ hbl; exact (r_len_s Try.underlying9 rfl)) ?_
    refine f_v (fun wl hbl => by have hs := hs.below_ hbl; exact (r_subi rfl rfl (by omega))) ?_
    refine f_v (fun wl hbl => by have hs := hs.below_ hbl; exact (r_slice_sl ((s.size : Int) - 4) Try.underlying9 rfl rfl (by omega))) ?_
    refine f_v (fun wl hbl => by have hs := hs.below_ hbl; first | exact (r_move (v := sV _) rfl) | exact (r_move rfl)) ?_
    refine f_v (fun wl hbl => by have hs := hs.below_ hbl; first | exact (r_move (v := sV _) rfl) | exact (r_move rfl)) ?_
    refine f_v (fun wl hbl => by have hs := hs.below_ hbl; exact (r_len_s Try.underlying9 rfl)) ?_
    refine f_v (fun wl hbl => by have hs := hs.below_ hbl; exact (r_subi rfl rfl (by omega))) ?_
    refine f_v (fun wl hbl => by have hs := hs.below_ hbl; exact (r_slice_sh ((s.size : Int) - 4) Try.underlying9 rfl rfl (by omega))) ?_
    rw [e1, e0]
    refine f_call (r_call Try.func59 rfl rfl) ?_
    refine Calls.mono (sum_c _ (by show ((toL s).take _).length ≤ _; rw [List.length_take]; omega) _) ?_
    rintro e w_ ⟨rfl, hb⟩
    have hbF := hbF.trans (Below.mono hb hbF.size)
    refine ⟨_, rfl, hb, ?_⟩
    refine f_call (r_call Try.func58 rfl rfl) ?_
    refine Calls.mono (four_c _ _) ?_
    rintro e w_ ⟨rfl, hb⟩
    have hbF := hbF.trans (Below.mono hb hbF.size)
    refine ⟨_, rfl, hb, ?_⟩
    rw [toL_ofL]
    refine f_nil ?_
    have hs := hs.below_ hbF
    show OkL _ _ _ _ (_ :: _) _ _
    refine l_v (r_neqs rfl rfl) ?_
    refine l_nil (nrm_then ?_)
    refine c_cond rfl (fun h2 => ?_) (fun h2 => ?_)
    · replace h2 := of_decide_eq_true h2
      refine c_rseq ?_
      refine l_v (by first | exact (r_assign (v := sV _) rfl) | exact (r_assign rfl)) ?_
      refine l_v (by first | exact (r_assign (v := iV _) rfl) | exact (r_assign rfl)) ?_
      refine l_nil (nrm_then ?_)
      refine c_ret (ret_then ?_)
      show Fin _ _ _ _ _
      refine fin2 rfl ?_
      have e : Crc.take (toL s) = ([], 4) := by
        unfold Crc.take
        rw [if_neg (by omega), if_neg (fun h3 => h2 (congrArg ofL (hpi.1 h3)))]
      rw [e]
      exact ⟨rfl, hs.below⟩
    · replace h2 := of_decide_eq_false h2
      refine c_skip (nrm_then ?_)
      refine c_rseq ?_
      refine l_v (by first | exact (r_move (v := sV _) rfl) | exact (r_move rfl)) ?_
      refine l_v (by first | exact (r_move (v := sV _) rfl) | exact (r_move rfl)) ?_
      refine l_v (r_len_s Try.underlying9 rfl) ?_
      refine l_v (r_subi rfl rfl (by omega)) ?_
      refine l_v (r_slice_sh _ Try.underlying9 rfl rfl (by omega)) ?_
      refine l_v (by first | exact (r_assign (v := sV _) rfl) | exact (r_assign rfl)) ?_
      refine l_v (by first | exact (r_assign (v := iV _) rfl) | exact (r_assign rfl)) ?_
      refine l_nil (nrm_then ?_)
      have h3 : ofL ((toL s).drop ((toL s).length - 4)) = ofL (four (crc ((toL s).take ((toL s).length - 4)))) := Classical.not_not.1 h2
      refine c_ret ?_
      show Fin _ _ _ _ _
      refine fin2 rfl ?_
      have e : Crc.take (toL s) = ((toL s).take ((toL s).length - 4), 0) := by
        unfold Crc.take
        rw [if_neg (by omega), if_pos (hpi.2 (congrArg toL h3))]
      rw [e]
      exact ⟨congrArg (fun z => Ending.returned (Value.tuple #[sV z, iV 0])) e0, hs.below⟩
end Go.Proofs.Ytlkljeghhahedaa.RefCrc
