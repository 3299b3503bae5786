/- The walks of shared and of the document's Shared. -/
import Derived.Test.YtfjnjnkmkbbjoaaBlkFn
namespace Go.Proofs.Ytfjnjnkmkbbjoaa.Blk
open Go Go.RowKit Go.Proofs.Ytfjnjnkmkbbjoaa.Eng Go.Proofs.Ytfjnjnkmkbbjoaa.Six
set_option linter.unusedVariables false
set_option maxRecDepth 100000
theorem at_get {s : ByteArray} {i : Nat} (h : i < (toL s).length) : at8 s i = (toL s)[i] := by
  unfold at8
  first
  | (rw [List.getD_eq_getElem?_getD, List.getElem?_eq_getElem h]; rfl)
  | (simp; rfl)
set_option maxHeartbeats 2000000 in
theorem shared_c (a b : ByteArray) (ha : a.size ≤ 9223372036854775806) (hb : b.size ≤ 9223372036854775806) (w : World) :
    Calls Try.prog 22 #[sV a, sV b] w fun e w' => e = .returned (iV (shareN (toL a) (toL b) : Int)) ∧ Below w.heap.size w w' := by
  have hla := toL_size a
  have hlb := toL_size b
  refine enter (P := Try.prog) Try.func22 rfl rfl ?_
  have hs := Sep.init w
  refine c_rseq ?_
  refine l_v (by first | exact (r_assign (v := iV _) rfl) | exact (r_assign rfl)) ?_
  refine l_nil (nrm_then ?_)
  refine c_rseq ?_
  refine l_v (by first | exact (r_assign (v := iV _) rfl) | exact (r_assign rfl)) ?_
  refine l_nil (nrm_then ?_)
  refine c_seq ?_
  refine c_block ?_
  refine c_loopn [0, 1, 4] (fun m f' w' => ∃ i, i + m = a.size ∧ f' 5 = iV (i : Int) ∧ i ≤ b.size ∧ shareN (toL a) (toL b) = i + shareN ((toL a).drop i) ((toL b).drop i) ∧ Eng.Sep w w' []) ?_ ?_
  · exact ⟨a.size, 0, by omega, rfl, by omega, by simp, hs⟩
  · rintro m g w_ ⟨i, hi, h5, hib, hsh, hs⟩
    refine OkC.env ?_ (fixH (L := [(5, _)]) ⟨h5, trivial⟩)
    clear h5
    refine c_seq ?_
    refine c_seq ?_
    by_cases h1 : i < a.size
    · have f9 : decide ((i : Int) < (a.size : Int)) = true := decide_eq_true (by omega)
      by_cases h2 : i < b.size
      · have f14 : decide ((i : Int) < (b.size : Int)) = true := decide_eq_true (by omega)
        have e1 := at_get (s := a) (i := i) (by omega)
        have e2 := at_get (s := b) (i := i) (by omega)
        refine c_still (by kernel_rfl) (by kernel_rfl) ?_
        have hs := hs.drew
        refine s_v (by first | exact (r_move (v := iV _) rfl) | exact (r_move rfl)) ?_
        refine s_v (by first | exact (r_move (v := sV _) rfl) | exact (r_move rfl)) ?_
        refine s_v (r_len_s Try.underlying9 rfl) ?_
        refine s_v (r_lssi rfl rfl) ?_
        refine s_v (by first | exact (r_move (v := bV _) rfl) | exact (r_move rfl)) ?_
        refine s_vg (by first | exact (r_move (v := iV _) rfl) | exact (r_move rfl)) rfl (f9) ?_
        refine s_vg (by first | exact (r_move (v := sV _) rfl) | exact (r_move rfl)) rfl (f9) ?_
        refine s_vg (r_len_s Try.underlying9 rfl) rfl (f9) ?_
        refine s_vg (r_lssi rfl rfl) rfl (f9) ?_
        refine s_v (r_pick_t rfl f9 rfl) ?_
        refine s_v (by first | exact (r_move (v := bV _) rfl) | exact (r_move rfl)) ?_
        refine s_vg (by first | exact (r_move (v := sV _) rfl) | exact (r_move rfl)) rfl (f14) ?_
        refine s_vg (by first | exact (r_move (v := iV _) rfl) | exact (r_move rfl)) rfl (f14) ?_
        refine s_vg (r_index_s (k := i) Try.underlying9 rfl rfl h1) rfl (f14) ?_
        refine s_vg (by first | exact (r_move (v := sV _) rfl) | exact (r_move rfl)) rfl (f14) ?_
        refine s_vg (by first | exact (r_move (v := iV _) rfl) | exact (r_move rfl)) rfl (f14) ?_
        refine s_vg (r_index_s (k := i) Try.underlying9 rfl rfl h2) rfl (f14) ?_
        refine s_vg (r_eql8 rfl rfl) rfl (f14) ?_
        refine s_v (r_pick_t rfl f14 rfl) ?_
        refine s_nil (nrm_then ?_)
        refine c_cond rfl (fun h3 => ?_) (fun h3 => ?_)
        · have h3' := of_decide_eq_true h3
          rw [e1, e2] at h3'
          replace h3 := of_decide_eq_true h3
          refine c_skip (nrm_then ?_)
          refine c_block ?_
          refine c_region ?_
          refine l_v (by first | exact (r_move (v := iV _) rfl) | exact (r_move rfl)) ?_
          refine l_v (r_addi rfl rfl (by omega)) ?_
          refine l_v (by first | exact (r_assign (v := iV _) rfl) | exact (r_assign rfl)) ?_
          refine l_nil (nrm_block (nrm_then ?_))
          refine And.intro (by refine ⟨?_, ?_, ?_, trivial⟩ <;> ((conv => lhs; whnf); (try conv => rhs; whnf))) ?_
          exact ⟨a.size - (i + 1), by omega, i + 1, by omega, rfl, by omega, by rw [hsh, share_step (by omega) (by omega) h3']; omega, hs⟩
        · have h3' := of_decide_eq_false h3
          rw [e1, e2] at h3'
          replace h3 := of_decide_eq_false h3
          refine c_exit (ex_then (ex_then (ex_hit (nrm_then ?_))))
          refine c_rseq ?_
          refine l_v (by first | exact (r_move (v := iV _) rfl) | exact (r_move rfl)) ?_
          refine l_v (by first | exact (r_assign (v := iV _) rfl) | exact (r_assign rfl)) ?_
          refine l_nil (nrm_then ?_)
          refine c_ret ?_
          show Fin _ _ _ _ _
          refine fin1 rfl ?_
          rw [hsh, share_stop (by omega) (by omega) h3']
          exact ⟨rfl, hs.below⟩
      · have f14 : decide ((i : Int) < (b.size : Int)) = false := decide_eq_false (by omega)
        refine c_still (by kernel_rfl) (by kernel_rfl) ?_
        have hs := hs.drew
        refine s_v (by first | exact (r_move (v := iV _) rfl) | exact (r_move rfl)) ?_
        refine s_v (by first | exact (r_move (v := sV _) rfl) | exact (r_move rfl)) ?_
        refine s_v (r_len_s Try.underlying9 rfl) ?_
        refine s_v (r_lssi rfl rfl) ?_
        refine s_v (by first | exact (r_move (v := bV _) rfl) | exact (r_move rfl)) ?_
        refine s_vg (by first | exact (r_move (v := iV _) rfl) | exact (r_move rfl)) rfl (f9) ?_
        refine s_vg (by first | exact (r_move (v := sV _) rfl) | exact (r_move rfl)) rfl (f9) ?_
        refine s_vg (r_len_s Try.underlying9 rfl) rfl (f9) ?_
        refine s_vg (r_lssi rfl rfl) rfl (f9) ?_
        refine s_v (r_pick_t rfl f9 rfl) ?_
        refine s_v (by first | exact (r_move (v := bV _) rfl) | exact (r_move rfl)) ?_
        refine s_skip (dj := 16) (b := true) (.inl (by first | rfl | (rw [show _ = _ from f14]; rfl) | exact congrArg Value.bool (f14))) ?_
        refine s_skip (dj := 16) (b := true) (.inl (by first | rfl | (rw [show _ = _ from f14]; rfl) | exact congrArg Value.bool (f14))) ?_
        refine s_skip (dj := 16) (b := true) (.inl (by first | rfl | (rw [show _ = _ from f14]; rfl) | exact congrArg Value.bool (f14))) ?_
        refine s_skip (dj := 16) (b := true) (.inl (by first | rfl | (rw [show _ = _ from f14]; rfl) | exact congrArg Value.bool (f14))) ?_
        refine s_skip (dj := 16) (b := true) (.inl (by first | rfl | (rw [show _ = _ from f14]; rfl) | exact congrArg Value.bool (f14))) ?_
        refine s_skip (dj := 16) (b := true) (.inl (by first | rfl | (rw [show _ = _ from f14]; rfl) | exact congrArg Value.bool (f14))) ?_
        refine s_skip (dj := 16) (b := true) (.inl (by first | rfl | (rw [show _ = _ from f14]; rfl) | exact congrArg Value.bool (f14))) ?_
        refine s_v (r_pick_f rfl f14 rfl) ?_
        refine s_nil (nrm_then ?_)
        refine c_false rfl (rfl) ?_
        refine c_exit (ex_then (ex_then (ex_hit (nrm_then ?_))))
        refine c_rseq ?_
        refine l_v (by first | exact (r_move (v := iV _) rfl) | exact (r_move rfl)) ?_
        refine l_v (by first | exact (r_assign (v := iV _) rfl) | exact (r_assign rfl)) ?_
        refine l_nil (nrm_then ?_)
        refine c_ret ?_
        show Fin _ _ _ _ _
        refine fin1 rfl ?_
        rw [hsh, share_end (Or.inr (by omega))]
        exact ⟨rfl, hs.below⟩
    · have f9 : decide ((i : Int) < (a.size : Int)) = false := decide_eq_false (by omega)
      refine c_still (by kernel_rfl) (by kernel_rfl) ?_
      have hs := hs.drew
      refine s_v (by first | exact (r_move (v := iV _) rfl) | exact (r_move rfl)) ?_
      refine s_v (by first | exact (r_move (v := sV _) rfl) | exact (r_move rfl)) ?_
      refine s_v (r_len_s Try.underlying9 rfl) ?_
      refine s_v (r_lssi rfl rfl) ?_
      refine s_v (by first | exact (r_move (v := bV _) rfl) | exact (r_move rfl)) ?_
      refine s_skip (dj := 10) (b := true) (.inl (by first | rfl | (rw [show _ = _ from f9]; rfl) | exact congrArg Value.bool (f9))) ?_
      refine s_skip (dj := 10) (b := true) (.inl (by first | rfl | (rw [show _ = _ from f9]; rfl) | exact congrArg Value.bool (f9))) ?_
      refine s_skip (dj := 10) (b := true) (.inl (by first | rfl | (rw [show _ = _ from f9]; rfl) | exact congrArg Value.bool (f9))) ?_
      refine s_skip (dj := 10) (b := true) (.inl (by first | rfl | (rw [show _ = _ from f9]; rfl) | exact congrArg Value.bool (f9))) ?_
      refine s_v (r_pick_f rfl f9 rfl) ?_
      refine s_v (by first | exact (r_move (v := bV _) rfl) | exact (r_move rfl)) ?_
      refine s_skip (dj := 16) (b := true) (.inl (by first | rfl | (rw [show _ = _ from rfl]; rfl) | exact congrArg Value.bool (rfl))) ?_
      refine s_skip (dj := 16) (b := true) (.inl (by first | rfl | (rw [show _ = _ from rfl]; rfl) | exact congrArg Value.bool (rfl))) ?_
      refine s_skip (dj := 16) (b := true) (.inl (by first | rfl | (rw [show _ = _ from rfl]; rfl) | exact congrArg Value.bool (rfl))) ?_
      refine s_skip (dj := 16) (b := true) (.inl (by first | rfl | (rw [show _ = _ from rfl]; rfl) | exact congrArg Value.bool (rfl))) ?_
      refine s_skip (dj := 16) (b := true) (.inl (by first | rfl | (rw [show _ = _ from rfl]; rfl) | exact congrArg Value.bool (rfl))) ?_
      refine s_skip (dj := 16) (b := true) (.inl (by first | rfl | (rw [show _ = _ from rfl]; rfl) | exact congrArg Value.bool (rfl))) ?_
      refine s_skip (dj := 16) (b := true) (.inl (by first | rfl | (rw [show _ = _ from rfl]; rfl) | exact congrArg Value.bool (rfl))) ?_
      refine s_v (r_pick_f rfl rfl rfl) ?_
      refine s_nil (nrm_then ?_)
      refine c_false rfl (rfl) ?_
      refine c_exit (ex_then (ex_then (ex_hit (nrm_then ?_))))
      refine c_rseq ?_
      refine l_v (by first | exact (r_move (v := iV _) rfl) | exact (r_move rfl)) ?_
      refine l_v (by first | exact (r_assign (v := iV _) rfl) | exact (r_assign rfl)) ?_
      refine l_nil (nrm_then ?_)
      refine c_ret ?_
      show Fin _ _ _ _ _
      refine fin1 rfl ?_
      rw [hsh, share_end (Or.inl (by omega))]
      exact ⟨rfl, hs.below⟩
set_option maxHeartbeats 2000000 in
theorem rshared_c (a b : ByteArray) (ha : a.size ≤ 9223372036854775806) (hb : b.size ≤ 9223372036854775806) (w : World) :
    Calls Try.prog 29 #[sV a, sV b] w fun e w' => e = .returned (iV (shareN (toL a) (toL b) : Int)) ∧ Below w.heap.size w w' := by
  have hla := toL_size a
  have hlb := toL_size b
  refine enter (P := Try.prog) Try.func29 rfl rfl ?_
  have hs := Sep.init w
  refine c_rseq ?_
  refine l_v (by first | exact (r_assign (v := iV _) rfl) | exact (r_assign rfl)) ?_
  refine l_nil (nrm_then ?_)
  refine c_seq ?_
  refine c_rseq ?_
  refine l_v (by first | exact (r_assign (v := iV _) rfl) | exact (r_assign rfl)) ?_
  refine l_nil (nrm_then ?_)
  refine c_block ?_
  refine c_loopn [0, 1] (fun m f' w' => ∃ i, i + m = a.size ∧ f' 5 = iV (i : Int) ∧ i ≤ b.size ∧ shareN (toL a) (toL b) = i + shareN ((toL a).drop i) ((toL b).drop i) ∧ Eng.Sep w w' []) ?_ ?_
  · exact ⟨a.size, 0, by omega, rfl, by omega, by simp, hs⟩
  · rintro m g w_ ⟨i, hi, h5, hib, hsh, hs⟩
    refine OkC.env ?_ (fixH (L := [(5, _)]) ⟨h5, trivial⟩)
    clear h5
    refine c_seq ?_
    refine c_rseq ?_
    refine l_v (by first | exact (r_move (v := iV _) rfl) | exact (r_move rfl)) ?_
    refine l_v (by first | exact (r_move (v := sV _) rfl) | exact (r_move rfl)) ?_
    refine l_v (r_len_s Try.underlying9 rfl) ?_
    refine l_v (r_lssi rfl rfl) ?_
    by_cases h1 : i < a.size
    · have f9 : decide ((i : Int) < (a.size : Int)) = true := decide_eq_true (by omega)
      refine l_v (by first | exact (r_move (v := bV _) rfl) | exact (r_move rfl)) ?_
      refine l_vg (by first | exact (r_move (v := iV _) rfl) | exact (r_move rfl)) rfl (f9) ?_
      refine l_vg (by first | exact (r_move (v := sV _) rfl) | exact (r_move rfl)) rfl (f9) ?_
      refine l_vg (r_len_s Try.underlying9 rfl) rfl (f9) ?_
      refine l_vg (r_lssi rfl rfl) rfl (f9) ?_
      refine l_v (r_pick_t rfl f9 rfl) ?_
      refine l_nil (nrm_then ?_)
      refine c_cond rfl (fun h2 => ?_) (fun h2 => ?_)
      · have h2' : i < b.size := by have h := of_decide_eq_true h2; omega
        have e1 := at_get (s := a) (i := i) (by omega)
        have e2 := at_get (s := b) (i := i) (by omega)
        replace h2 := of_decide_eq_true h2
        refine c_skip (nrm_then ?_)
        refine c_seq ?_
        refine c_block ?_
        refine c_seq ?_
        refine c_still (by kernel_rfl) (by kernel_rfl) ?_
        have hs := hs.drew
        refine s_v (by first | exact (r_move (v := sV _) rfl) | exact (r_move rfl)) ?_
        refine s_v (by first | exact (r_move (v := iV _) rfl) | exact (r_move rfl)) ?_
        refine s_v (r_index_s (k := i) Try.underlying9 rfl rfl h1) ?_
        refine s_v (by first | exact (r_move (v := sV _) rfl) | exact (r_move rfl)) ?_
        refine s_v (by first | exact (r_move (v := iV _) rfl) | exact (r_move rfl)) ?_
        refine s_v (r_index_s (k := i) Try.underlying9 rfl rfl h2') ?_
        refine s_v (r_neq8 rfl rfl) ?_
        refine s_nil (nrm_then ?_)
        refine c_cond rfl (fun h3 => ?_) (fun h3 => ?_)
        · have h3' := of_decide_eq_true h3
          rw [e1, e2] at h3'
          replace h3 := of_decide_eq_true h3
          refine c_rseq ?_
          refine l_v (by first | exact (r_move (v := iV _) rfl) | exact (r_move rfl)) ?_
          refine l_v (by first | exact (r_assign (v := iV _) rfl) | exact (r_assign rfl)) ?_
          refine l_nil (nrm_then ?_)
          refine c_ret (ret_block (ret_then (ret_then (ret_block (ret_then ?_)))))
          show Fin _ _ _ _ _
          refine fin1 rfl ?_
          rw [hsh, share_stop (by omega) (by omega) h3']
          exact ⟨rfl, hs.below⟩
        · have h3' := Decidable.of_not_not (of_decide_eq_false h3)
          rw [e1, e2] at h3'
          replace h3 := of_decide_eq_false h3
          refine c_skip (nrm_block (nrm_then ?_))
          refine c_region ?_
          refine l_v (by first | exact (r_move (v := iV _) rfl) | exact (r_move rfl)) ?_
          refine l_v (r_addi rfl rfl (by omega)) ?_
          refine l_v (by first | exact (r_assign (v := iV _) rfl) | exact (r_assign rfl)) ?_
          refine l_nil (nrm_then ?_)
          refine And.intro (by refine ⟨?_, ?_, trivial⟩ <;> ((conv => lhs; whnf); (try conv => rhs; whnf))) ?_
          exact ⟨a.size - (i + 1), by omega, i + 1, by omega, rfl, by omega, by rw [hsh, share_step (by omega) (by omega) h3']; omega, hs⟩
      · have h2' : ¬ i < b.size := by have h := of_decide_eq_false h2; omega
        replace h2 := of_decide_eq_false h2
        refine c_exit (ex_then (ex_then (ex_hit (nrm_then ?_))))
        refine c_seq ?_
        refine c_rseq ?_
        refine l_v (by first | exact (r_move (v := sV _) rfl) | exact (r_move rfl)) ?_
        refine l_v (r_len_s Try.underlying9 rfl) ?_
        refine l_v (by first | exact (r_move (v := sV _) rfl) | exact (r_move rfl)) ?_
        refine l_v (r_len_s Try.underlying9 rfl) ?_
        refine l_v (r_lssi rfl rfl) ?_
        refine l_nil (nrm_then ?_)
        refine c_cond rfl (fun h4 => ?_) (fun h4 => ?_)
        · have h4' : a.size < b.size := by have h := of_decide_eq_true h4; omega
          omega
        · replace h4 := of_decide_eq_false h4
          refine c_skip (nrm_then ?_)
          refine c_rseq ?_
          refine l_v (by first | exact (r_move (v := sV _) rfl) | exact (r_move rfl)) ?_
          refine l_v (r_len_s Try.underlying9 rfl) ?_
          refine l_v (by first | exact (r_assign (v := iV _) rfl) | exact (r_assign rfl)) ?_
          refine l_nil (nrm_then ?_)
          refine c_ret ?_
          show Fin _ _ _ _ _
          refine fin1 rfl ?_
          rw [hsh, share_end (Or.inr (by omega)), show i = b.size by omega]
          exact ⟨rfl, hs.below⟩
    · have f9 : decide ((i : Int) < (a.size : Int)) = false := decide_eq_false (by omega)
      refine l_v (by first | exact (r_move (v := bV _) rfl) | exact (r_move rfl)) ?_
      refine l_no rfl (f9) ?_
      refine l_no rfl (f9) ?_
      refine l_no rfl (f9) ?_
      refine l_no rfl (f9) ?_
      refine l_v (r_pick_f rfl f9 rfl) ?_
      refine l_nil (nrm_then ?_)
      refine c_false rfl (rfl) ?_
      refine c_exit (ex_then (ex_then (ex_hit (nrm_then ?_))))
      refine c_seq ?_
      refine c_rseq ?_
      refine l_v (by first | exact (r_move (v := sV _) rfl) | exact (r_move rfl)) ?_
      refine l_v (r_len_s Try.underlying9 rfl) ?_
      refine l_v (by first | exact (r_move (v := sV _) rfl) | exact (r_move rfl)) ?_
      refine l_v (r_len_s Try.underlying9 rfl) ?_
      refine l_v (r_lssi rfl rfl) ?_
      refine l_nil (nrm_then ?_)
      rw [hsh, share_end (Or.inl (by omega))]
      refine c_cond rfl (fun h4 => ?_) (fun h4 => ?_)
      · replace h4 := of_decide_eq_true h4
        refine c_rseq ?_
        refine l_v (by first | exact (r_move (v := sV _) rfl) | exact (r_move rfl)) ?_
        refine l_v (r_len_s Try.underlying9 rfl) ?_
        refine l_v (by first | exact (r_assign (v := iV _) rfl) | exact (r_assign rfl)) ?_
        refine l_nil (nrm_then ?_)
        refine c_ret (ret_then ?_)
        show Fin _ _ _ _ _
        refine fin1 rfl ?_
        rw [show i = a.size by omega]
        exact ⟨rfl, hs.below⟩
      · have h4' : ¬ a.size < b.size := by have h := of_decide_eq_false h4; omega
        replace h4 := of_decide_eq_false h4
        refine c_skip (nrm_then ?_)
        refine c_rseq ?_
        refine l_v (by first | exact (r_move (v := sV _) rfl) | exact (r_move rfl)) ?_
        refine l_v (r_len_s Try.underlying9 rfl) ?_
        refine l_v (by first | exact (r_assign (v := iV _) rfl) | exact (r_assign rfl)) ?_
        refine l_nil (nrm_then ?_)
        refine c_ret ?_
        show Fin _ _ _ _ _
        refine fin1 rfl ?_
        rw [show i = b.size by omega]
        exact ⟨rfl, hs.below⟩
end Go.Proofs.Ytfjnjnkmkbbjoaa.Blk
