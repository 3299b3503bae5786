/- The walks of the methods of six's reader. -/
import Derived.Test.YtbimboibllboeaaDoorSixRd
namespace Go.Proofs.YtbimboibllboeaaDoor.Six
open Go Go.RowKit Go.Proofs.YtbimboibllboeaaDoor.Eng
set_option linter.unusedVariables false
set_option maxRecDepth 100000
theorem raw_fail {l : List UInt8} {n : Int} (h : ¬ (raw l n).2.2 = 0) : (raw l n).1 = [] ∧ (raw l n).2.1 = 0 := by
  unfold raw at *
  split
  · exact ⟨rfl, rfl⟩
  · rename_i h0
    rw [if_neg h0] at h
    split
    · exact ⟨rfl, rfl⟩
    · rename_i hb; rw [if_neg hb] at h; exact absurd rfl h
theorem count_fail {l : List UInt8} (h : ¬ (count l).2.2 = 0) : (count l).2.1 = 0 := by
  unfold count at *
  split
  · rename_i h0
    rw [if_pos h0] at h
    split
    · rfl
    · rename_i hb; rw [if_neg hb] at h; exact absurd rfl h
  · rfl
theorem over_c (s : ByteArray) (w0 w : World) (R : List HP) (hs : Sep w0 w R) :
    Calls Tryd.prog 27 #[sV s] w fun e w' => ∃ b, e = .returned (at_ b) ∧ Sep w0 w' (rdr b s :: R) := by
  refine enter (P := Tryd.prog) Tryd.func27 rfl rfl ?_
  refine c_rseq ?_
  refine l_v (r_assign (v := .pointer _) rfl) ?_
  refine l_nil (nrm_then ?_)
  refine c_rseq ?_
  refine l_v (by first | exact (r_move (v := sV _) rfl) | exact (r_move rfl)) ?_
  refine l_v (r_build (l := [(0, sV _)]) rfl ((fun (x0 : ByteArray) => (by kernel_rfl : Program.built Tryd.prog 80 [(0, sV x0)] = some #[sV x0])) _)) ?_
  refine l_box hs rfl ?_
  intro b5 w5 hs hB5 hlt5
  refine l_v (r_assign (v := .pointer _) rfl) ?_
  refine l_nil (nrm_then ?_)
  refine c_ret ?_
  show Fin _ _ _ _ _
  refine fin1 rfl ?_
  exact ⟨_, rfl, hs⟩
theorem end_c (s : ByteArray) (b : Nat) (w0 w : World) (R : List HP) (hs : Sep w0 w (rdr b s :: R)) :
    Calls Tryd.prog 30 #[at_ b] w fun e w' => e = .returned (iV (if (toL s).length = 0 then 0 else 5)) ∧ w' = w := by
  have hl := toL_size s
  refine enter (P := Tryd.prog) Tryd.func30 rfl rfl ?_
  refine c_rseq ?_
  refine l_v (by first | exact (r_assign (v := iV _) rfl) | exact (r_assign rfl)) ?_
  refine l_nil (nrm_then ?_)
  refine c_seq ?_
  refine c_block ?_
  refine c_rseq ?_
  refine l_v (r_move (v := .pointer _) rfl) ?_
  refine l_v (by first | exact (r_eqlp_some Tryd.underlying56 rfl rfl) | exact (r_eqlp_none Tryd.underlying56 rfl rfl)) ?_
  refine l_v (by first | exact (r_assign (v := bV _) rfl) | exact (r_assign rfl)) ?_
  refine l_nil (nrm_then ?_)
  refine c_false rfl (rfl) ?_
  refine c_rseq ?_
  refine l_v (r_move (v := .pointer _) rfl) ?_
  refine l_v (by first | exact (r_nilCheck_p rfl) | exact (r_nilCheck_f rfl)) ?_
  refine l_v (by first | exact (r_fieldAddr0 (off := 0) (T := 9) (by kernel_rfl) rfl) | exact (r_fieldAddr (off := 0) (T := 9) (by kernel_rfl) rfl)) ?_
  refine l_v (by first | exact (r_load_at (i := 0) hs rfl Tryd.underlying9 rfl rfl) | exact (r_load_at (i := 1) hs rfl Tryd.underlying9 rfl rfl) | exact (r_load_at (i := 2) hs rfl Tryd.underlying9 rfl rfl) | exact (r_load_at (i := 3) hs rfl Tryd.underlying9 rfl rfl) | exact (r_load_at (i := 4) hs rfl Tryd.underlying9 rfl rfl) | exact (r_load_at (i := 5) hs rfl Tryd.underlying9 rfl rfl) | exact (r_load_at (i := 6) hs rfl Tryd.underlying9 rfl rfl)) ?_
  refine l_v (r_neqs rfl rfl) ?_
  refine l_v (by first | exact (r_assign (v := bV _) rfl) | exact (r_assign rfl)) ?_
  refine l_nil (nrm_then ?_)
  refine c_cond rfl (fun h => ?_) (fun h => ?_)
  · replace h := of_decide_eq_true h
    refine c_rseq ?_
    refine l_v (by first | exact (r_assign (v := iV _) rfl) | exact (r_assign rfl)) ?_
    refine l_nil (nrm_then ?_)
    refine c_ret (ret_block (ret_then ?_))
    show Fin _ _ _ _ _
    refine fin1 rfl ?_
    rw [if_neg (fun h0 => h (toL_inj (List.length_eq_zero_iff.1 h0)))]
    exact ⟨rfl, rfl⟩
  · replace h := of_decide_eq_false h
    refine c_skip (nrm_block (nrm_then ?_))
    refine c_rseq ?_
    refine l_v (by first | exact (r_assign (v := iV _) rfl) | exact (r_assign rfl)) ?_
    refine l_nil (nrm_then ?_)
    refine c_ret ?_
    show Fin _ _ _ _ _
    refine fin1 rfl ?_
    rw [Classical.not_not.1 h]
    exact ⟨rfl, rfl⟩
set_option maxHeartbeats 1000000 in
theorem count_c (s : ByteArray) (hz : s.size ≤ 9223372036854775807) (b : Nat) (w0 w : World) (R : List HP) (hs : Sep w0 w (rdr b s :: R)) :
    Calls Tryd.prog 28 #[at_ b] w fun e w' => e = .returned (.tuple #[iV (count (toL s)).1, iV (count (toL s)).2.2]) ∧ Sep w0 w' (rdr b (cut s (count (toL s)).2.1) :: R) := by
  have hl := toL_size s
  have hsp := num_spec (toL s) 0 0
  have hbd := num_bound (toL s) 0 0
  have hsz := num_size (toL s) 0 0
  refine enter (P := Tryd.prog) Tryd.func28 rfl rfl ?_
  refine c_rseq ?_
  refine l_v (by first | exact (r_assign (v := iV _) rfl) | exact (r_assign rfl)) ?_
  refine l_v (by first | exact (r_assign (v := iV _) rfl) | exact (r_assign rfl)) ?_
  refine l_nil (nrm_then ?_)
  refine c_rseq ?_
  refine l_v (r_move (v := .pointer _) rfl) ?_
  refine l_call (r_call Tryd.func41 rfl rfl) ?_
  refine Calls.mono (number_c s hz b w0 _ R hs) ?_
  rintro e w_ ⟨rfl, rfl⟩
  refine ⟨_, rfl, ?_⟩
  unfold count
  generalize num 0 0 (toL s) = N at *
  refine l_v (r_move rfl) ?_
  refine l_v (r_extract rfl rfl) ?_
  refine l_v (r_extract rfl rfl) ?_
  refine l_v (r_extract rfl rfl) ?_
  refine l_v (r_extract rfl rfl) ?_
  refine l_v (by first | exact (r_assign (v := iV _) rfl) | exact (r_assign rfl)) ?_
  refine l_v (by first | exact (r_assign (v := bV _) rfl) | exact (r_assign rfl)) ?_
  refine l_v (by first | exact (r_assign (v := iV _) rfl) | exact (r_assign rfl)) ?_
  refine l_v (by first | exact (r_assign (v := iV _) rfl) | exact (r_assign rfl)) ?_
  refine l_nil (nrm_then ?_)
  refine c_seq ?_
  refine c_rseq ?_
  refine l_v (by first | exact (r_move (v := iV _) rfl) | exact (r_move rfl)) ?_
  refine l_v (r_eqli rfl rfl) ?_
  by_cases h0 : N.e = 0
  · have hsz := hsz h0
    have f0 : decide (N.e = 0) = true := decide_eq_true h0
    rw [if_pos h0]
    rcases Bool.eq_false_or_eq_true N.below with hb | hb
    · skip
      refine l_v (by first | exact (r_move (v := bV _) rfl) | exact (r_move rfl)) ?_
      refine l_vg (by first | exact (r_move (v := bV _) rfl) | exact (r_move rfl)) rfl (f0) ?_
      refine l_v (r_pick_t rfl f0 rfl) ?_
      refine l_nil (nrm_then ?_)
      refine c_true rfl (hb) ?_
      refine c_region ?_
      refine l_v (by first | exact (r_assign (v := iV _) rfl) | exact (r_assign rfl)) ?_
      refine l_nil (nrm_then ?_)
      refine c_seq ?_
      refine c_rseq ?_
      refine l_v (by first | exact (r_move (v := iV _) rfl) | exact (r_move rfl)) ?_
      refine l_v (r_neqi rfl rfl) ?_
      refine l_nil (nrm_then ?_)
      refine c_true rfl (rfl) ?_
      refine c_rseq ?_
      refine l_v (by first | exact (r_move (v := iV _) rfl) | exact (r_move rfl)) ?_
      refine l_v (by first | exact (r_assign (v := iV _) rfl) | exact (r_assign rfl)) ?_
      refine l_v (by first | exact (r_assign (v := iV _) rfl) | exact (r_assign rfl)) ?_
      refine l_nil (nrm_then ?_)
      refine c_ret (ret_then ?_)
      show Fin _ _ _ _ _
      refine fin2 rfl ?_
      rw [if_pos hb]
      exact ⟨rfl, hs⟩
    · skip
      refine l_v (by first | exact (r_move (v := bV _) rfl) | exact (r_move rfl)) ?_
      refine l_vg (by first | exact (r_move (v := bV _) rfl) | exact (r_move rfl)) rfl (f0) ?_
      refine l_v (r_pick_t rfl f0 rfl) ?_
      refine l_nil (nrm_then ?_)
      refine c_false rfl (hb) ?_
      refine c_skip (nrm_then ?_)
      refine c_seq ?_
      refine c_rseq ?_
      refine l_v (by first | exact (r_move (v := iV _) rfl) | exact (r_move rfl)) ?_
      refine l_v (r_neqi rfl rfl) ?_
      refine l_nil (nrm_then ?_)
      refine c_false rfl (decide_eq_false (fun h => h h0)) ?_
      refine c_skip (nrm_then ?_)
      refine c_rseq ?_
      refine l_v (r_move (v := .pointer _) rfl) ?_
      refine l_v (r_move (v := .pointer _) rfl) ?_
      refine l_v (by first | exact (r_nilCheck_p rfl) | exact (r_nilCheck_f rfl)) ?_
      refine l_v (by first | exact (r_fieldAddr0 (off := 0) (T := 9) (by kernel_rfl) rfl) | exact (r_fieldAddr (off := 0) (T := 9) (by kernel_rfl) rfl)) ?_
      refine l_v (by first | exact (r_load_at (i := 0) hs rfl Tryd.underlying9 rfl rfl) | exact (r_load_at (i := 1) hs rfl Tryd.underlying9 rfl rfl) | exact (r_load_at (i := 2) hs rfl Tryd.underlying9 rfl rfl) | exact (r_load_at (i := 3) hs rfl Tryd.underlying9 rfl rfl) | exact (r_load_at (i := 4) hs rfl Tryd.underlying9 rfl rfl) | exact (r_load_at (i := 5) hs rfl Tryd.underlying9 rfl rfl) | exact (r_load_at (i := 6) hs rfl Tryd.underlying9 rfl rfl)) ?_
      refine l_v (by first | exact (r_move (v := iV _) rfl) | exact (r_move rfl)) ?_
      refine l_v (r_slice_sl (N.size : Int) Tryd.underlying9 rfl rfl (by omega)) ?_
      refine l_v (by first | exact (r_nilCheck_p rfl) | exact (r_nilCheck_f rfl)) ?_
      refine l_v (by first | exact (r_fieldAddr0 (off := 0) (T := 9) (by kernel_rfl) rfl) | exact (r_fieldAddr (off := 0) (T := 9) (by kernel_rfl) rfl)) ?_
      first | refine l_store (i := 0) (v := sV _) hs rfl I9 rfl rfl (by first | (simp; done) | (simp; omega) | omega) ?_ | refine l_store (i := 1) (v := sV _) hs rfl I9 rfl rfl (by first | (simp; done) | (simp; omega) | omega) ?_ | refine l_store (i := 2) (v := sV _) hs rfl I9 rfl rfl (by first | (simp; done) | (simp; omega) | omega) ?_ | refine l_store (i := 3) (v := sV _) hs rfl I9 rfl rfl (by first | (simp; done) | (simp; omega) | omega) ?_ | refine l_store (i := 4) (v := sV _) hs rfl I9 rfl rfl (by first | (simp; done) | (simp; omega) | omega) ?_ | refine l_store (i := 5) (v := sV _) hs rfl I9 rfl rfl (by first | (simp; done) | (simp; omega) | omega) ?_ | refine l_store (i := 6) (v := sV _) hs rfl I9 rfl rfl (by first | (simp; done) | (simp; omega) | omega) ?_
      intro w_ hs
      refine l_nil (nrm_then ?_)
      refine c_rseq ?_
      refine l_v (by first | exact (r_move (v := iV _) rfl) | exact (r_move rfl)) ?_
      refine l_v (by first | exact (r_assign (v := iV _) rfl) | exact (r_assign rfl)) ?_
      refine l_v (by first | exact (r_assign (v := iV _) rfl) | exact (r_assign rfl)) ?_
      refine l_nil (nrm_then ?_)
      rw [Int.toNat_natCast, extract_cut] at hs
      refine c_ret ?_
      show Fin _ _ _ _ _
      refine fin2 rfl ?_
      rw [hb]
      exact ⟨rfl, hs⟩
  · have f0 : decide (N.e = 0) = false := decide_eq_false h0
    rw [if_neg h0]
    refine l_v (by first | exact (r_move (v := bV _) rfl) | exact (r_move rfl)) ?_
    refine l_no rfl (f0) ?_
    refine l_v (r_pick_f rfl f0 rfl) ?_
    refine l_nil (nrm_then ?_)
    refine c_false rfl (rfl) ?_
    refine c_skip (nrm_then ?_)
    refine c_seq ?_
    refine c_rseq ?_
    refine l_v (by first | exact (r_move (v := iV _) rfl) | exact (r_move rfl)) ?_
    refine l_v (r_neqi rfl rfl) ?_
    refine l_nil (nrm_then ?_)
    refine c_true rfl (decide_eq_true h0) ?_
    refine c_rseq ?_
    refine l_v (by first | exact (r_move (v := iV _) rfl) | exact (r_move rfl)) ?_
    refine l_v (by first | exact (r_assign (v := iV _) rfl) | exact (r_assign rfl)) ?_
    refine l_v (by first | exact (r_assign (v := iV _) rfl) | exact (r_assign rfl)) ?_
    refine l_nil (nrm_then ?_)
    refine c_ret (ret_then ?_)
    show Fin _ _ _ _ _
    refine fin2 rfl ?_
    exact ⟨rfl, hs⟩
set_option maxHeartbeats 1000000 in
theorem raw_c (n : Int) (s : ByteArray) (b : Nat) (w0 w : World) (R : List HP) (hs : Sep w0 w (rdr b s :: R)) :
    Calls Tryd.prog 42 #[at_ b, iV n] w fun e w' => e = .returned (.tuple #[sV (ofL (raw (toL s) n).1), iV (raw (toL s) n).2.2]) ∧ Sep w0 w' (rdr b (cut s (raw (toL s) n).2.1) :: R) := by
  have hl := toL_size s
  unfold raw
  refine enter (P := Tryd.prog) Tryd.func42 rfl rfl ?_
  refine c_rseq ?_
  refine l_v (by first | exact (r_assign (v := sV _) rfl) | exact (r_assign rfl)) ?_
  refine l_v (by first | exact (r_assign (v := iV _) rfl) | exact (r_assign rfl)) ?_
  refine l_nil (nrm_then ?_)
  refine c_seq ?_
  refine c_block ?_
  refine c_rseq ?_
  refine l_v (r_move (v := .pointer _) rfl) ?_
  refine l_v (by first | exact (r_eqlp_some Tryd.underlying56 rfl rfl) | exact (r_eqlp_none Tryd.underlying56 rfl rfl)) ?_
  refine l_v (by first | exact (r_move (v := bV _) rfl) | exact (r_move rfl)) ?_
  refine l_vg (by first | exact (r_move (v := iV _) rfl) | exact (r_move rfl)) rfl (rfl) ?_
  refine l_vg (r_lssi rfl rfl) rfl (rfl) ?_
  refine l_v (r_pick_f rfl rfl rfl) ?_
  refine l_v (by first | exact (r_assign (v := bV _) rfl) | exact (r_assign rfl)) ?_
  refine l_nil (nrm_then ?_)
  refine c_cond rfl (fun h => ?_) (fun h => ?_)
  · replace h := of_decide_eq_true h
    refine c_rseq ?_
    refine l_v (by first | exact (r_assign (v := sV _) rfl) | exact (r_assign rfl)) ?_
    refine l_v (by first | exact (r_assign (v := iV _) rfl) | exact (r_assign rfl)) ?_
    refine l_nil (nrm_then ?_)
    refine c_ret (ret_block (ret_then ?_))
    show Fin _ _ _ _ _
    refine fin2 rfl ?_
    rw [if_pos h]
    exact ⟨rfl, hs⟩
  · replace h := of_decide_eq_false h
    refine c_rseq ?_
    refine l_v (by first | exact (r_move (v := iV _) rfl) | exact (r_move rfl)) ?_
    refine l_v (r_move (v := .pointer _) rfl) ?_
    refine l_v (by first | exact (r_nilCheck_p rfl) | exact (r_nilCheck_f rfl)) ?_
    refine l_v (by first | exact (r_fieldAddr0 (off := 0) (T := 9) (by kernel_rfl) rfl) | exact (r_fieldAddr (off := 0) (T := 9) (by kernel_rfl) rfl)) ?_
    refine l_v (by first | exact (r_load_at (i := 0) hs rfl Tryd.underlying9 rfl rfl) | exact (r_load_at (i := 1) hs rfl Tryd.underlying9 rfl rfl) | exact (r_load_at (i := 2) hs rfl Tryd.underlying9 rfl rfl) | exact (r_load_at (i := 3) hs rfl Tryd.underlying9 rfl rfl) | exact (r_load_at (i := 4) hs rfl Tryd.underlying9 rfl rfl) | exact (r_load_at (i := 5) hs rfl Tryd.underlying9 rfl rfl) | exact (r_load_at (i := 6) hs rfl Tryd.underlying9 rfl rfl)) ?_
    refine l_v (r_len_s Tryd.underlying9 rfl) ?_
    refine l_v (r_gtri rfl rfl) ?_
    refine l_v (by first | exact (r_assign (v := bV _) rfl) | exact (r_assign rfl)) ?_
    refine l_nil (nrm_then ?_)
    rw [if_neg h]
    refine c_cond rfl (fun h2 => ?_) (fun h2 => ?_)
    · replace h2 := of_decide_eq_true h2
      refine c_rseq ?_
      refine l_v (by first | exact (r_assign (v := sV _) rfl) | exact (r_assign rfl)) ?_
      refine l_v (by first | exact (r_assign (v := iV _) rfl) | exact (r_assign rfl)) ?_
      refine l_nil (nrm_then ?_)
      refine c_ret (ret_block (ret_then ?_))
      show Fin _ _ _ _ _
      refine fin2 rfl ?_
      rw [if_pos (by omega)]
      exact ⟨rfl, hs⟩
    · have h2' : n ≤ (s.size : Int) := by have := of_decide_eq_false h2; omega
      replace h2 := of_decide_eq_false h2
      refine c_skip (nrm_block (nrm_then ?_))
      refine c_rseq ?_
      refine l_v (r_move (v := .pointer _) rfl) ?_
      refine l_v (by first | exact (r_nilCheck_p rfl) | exact (r_nilCheck_f rfl)) ?_
      refine l_v (by first | exact (r_fieldAddr0 (off := 0) (T := 9) (by kernel_rfl) rfl) | exact (r_fieldAddr (off := 0) (T := 9) (by kernel_rfl) rfl)) ?_
      refine l_v (by first | exact (r_load_at (i := 0) hs rfl Tryd.underlying9 rfl rfl) | exact (r_load_at (i := 1) hs rfl Tryd.underlying9 rfl rfl) | exact (r_load_at (i := 2) hs rfl Tryd.underlying9 rfl rfl) | exact (r_load_at (i := 3) hs rfl Tryd.underlying9 rfl rfl) | exact (r_load_at (i := 4) hs rfl Tryd.underlying9 rfl rfl) | exact (r_load_at (i := 5) hs rfl Tryd.underlying9 rfl rfl) | exact (r_load_at (i := 6) hs rfl Tryd.underlying9 rfl rfl)) ?_
      refine l_v (by first | exact (r_move (v := iV _) rfl) | exact (r_move rfl)) ?_
      refine l_v (r_slice_sh n Tryd.underlying9 rfl rfl (by omega)) ?_
      refine l_v (by first | exact (r_assign (v := sV _) rfl) | exact (r_assign rfl)) ?_
      refine l_nil (nrm_then ?_)
      refine c_rseq ?_
      refine l_v (r_move (v := .pointer _) rfl) ?_
      refine l_v (r_move (v := .pointer _) rfl) ?_
      refine l_v (by first | exact (r_nilCheck_p rfl) | exact (r_nilCheck_f rfl)) ?_
      refine l_v (by first | exact (r_fieldAddr0 (off := 0) (T := 9) (by kernel_rfl) rfl) | exact (r_fieldAddr (off := 0) (T := 9) (by kernel_rfl) rfl)) ?_
      refine l_v (by first | exact (r_load_at (i := 0) hs rfl Tryd.underlying9 rfl rfl) | exact (r_load_at (i := 1) hs rfl Tryd.underlying9 rfl rfl) | exact (r_load_at (i := 2) hs rfl Tryd.underlying9 rfl rfl) | exact (r_load_at (i := 3) hs rfl Tryd.underlying9 rfl rfl) | exact (r_load_at (i := 4) hs rfl Tryd.underlying9 rfl rfl) | exact (r_load_at (i := 5) hs rfl Tryd.underlying9 rfl rfl) | exact (r_load_at (i := 6) hs rfl Tryd.underlying9 rfl rfl)) ?_
      refine l_v (by first | exact (r_move (v := iV _) rfl) | exact (r_move rfl)) ?_
      refine l_v (r_slice_sl n Tryd.underlying9 rfl rfl (by omega)) ?_
      refine l_v (by first | exact (r_nilCheck_p rfl) | exact (r_nilCheck_f rfl)) ?_
      refine l_v (by first | exact (r_fieldAddr0 (off := 0) (T := 9) (by kernel_rfl) rfl) | exact (r_fieldAddr (off := 0) (T := 9) (by kernel_rfl) rfl)) ?_
      first | refine l_store (i := 0) (v := sV _) hs rfl I9 rfl rfl (by first | (simp; done) | (simp; omega) | omega) ?_ | refine l_store (i := 1) (v := sV _) hs rfl I9 rfl rfl (by first | (simp; done) | (simp; omega) | omega) ?_ | refine l_store (i := 2) (v := sV _) hs rfl I9 rfl rfl (by first | (simp; done) | (simp; omega) | omega) ?_ | refine l_store (i := 3) (v := sV _) hs rfl I9 rfl rfl (by first | (simp; done) | (simp; omega) | omega) ?_ | refine l_store (i := 4) (v := sV _) hs rfl I9 rfl rfl (by first | (simp; done) | (simp; omega) | omega) ?_ | refine l_store (i := 5) (v := sV _) hs rfl I9 rfl rfl (by first | (simp; done) | (simp; omega) | omega) ?_ | refine l_store (i := 6) (v := sV _) hs rfl I9 rfl rfl (by first | (simp; done) | (simp; omega) | omega) ?_
      intro w_ hs
      refine l_nil (nrm_then ?_)
      refine c_rseq ?_
      refine l_v (by first | exact (r_move (v := sV _) rfl) | exact (r_move rfl)) ?_
      refine l_v (by first | exact (r_assign (v := sV _) rfl) | exact (r_assign rfl)) ?_
      refine l_v (by first | exact (r_assign (v := iV _) rfl) | exact (r_assign rfl)) ?_
      refine l_nil (nrm_then ?_)
      rw [extract_cut] at hs
      refine c_ret ?_
      show Fin _ _ _ _ _
      refine fin2 rfl ?_
      rw [if_neg (by omega), extract_pre]
      exact ⟨rfl, hs⟩
set_option maxHeartbeats 1000000 in
theorem text_c (s : ByteArray) (hz : s.size ≤ 9223372036854775807) (b : Nat) (w0 w : World) (R : List HP) (hs : Sep w0 w (rdr b s :: R)) :
    Calls Tryd.prog 29 #[at_ b] w fun e w' => e = .returned (.tuple #[sV (ofL (text (toL s)).1), iV (text (toL s)).2.2]) ∧ Sep w0 w' (rdr b (cut s (text (toL s)).2.1) :: R) := by
  refine enter (P := Tryd.prog) Tryd.func29 rfl rfl ?_
  refine c_rseq ?_
  refine l_v (by first | exact (r_assign (v := sV _) rfl) | exact (r_assign rfl)) ?_
  refine l_v (by first | exact (r_assign (v := iV _) rfl) | exact (r_assign rfl)) ?_
  refine l_nil (nrm_then ?_)
  refine c_seq ?_
  refine c_rseq ?_
  refine l_v (r_move (v := .pointer _) rfl) ?_
  refine l_v (by first | exact (r_eqlp_some Tryd.underlying56 rfl rfl) | exact (r_eqlp_none Tryd.underlying56 rfl rfl)) ?_
  refine l_nil (nrm_then ?_)
  refine c_false rfl (rfl) ?_
  refine c_skip (nrm_then ?_)
  refine c_rseq ?_
  refine l_v (r_move (v := .pointer _) rfl) ?_
  refine l_v (by first | exact (r_nilCheck_p rfl) | exact (r_nilCheck_f rfl)) ?_
  refine l_v (by first | exact (r_fieldAddr0 (off := 0) (T := 9) (by kernel_rfl) rfl) | exact (r_fieldAddr (off := 0) (T := 9) (by kernel_rfl) rfl)) ?_
  refine l_v (by first | exact (r_load_at (i := 0) hs rfl Tryd.underlying9 rfl rfl) | exact (r_load_at (i := 1) hs rfl Tryd.underlying9 rfl rfl) | exact (r_load_at (i := 2) hs rfl Tryd.underlying9 rfl rfl) | exact (r_load_at (i := 3) hs rfl Tryd.underlying9 rfl rfl) | exact (r_load_at (i := 4) hs rfl Tryd.underlying9 rfl rfl) | exact (r_load_at (i := 5) hs rfl Tryd.underlying9 rfl rfl) | exact (r_load_at (i := 6) hs rfl Tryd.underlying9 rfl rfl)) ?_
  refine l_v (by first | exact (r_assign (v := sV _) rfl) | exact (r_assign rfl)) ?_
  refine l_nil (nrm_then ?_)
  refine c_rseq ?_
  refine l_v (r_move (v := .pointer _) rfl) ?_
  refine l_call (r_call Tryd.func28 rfl rfl) ?_
  refine Calls.mono (count_c s hz b w0 _ R hs) ?_
  rintro e w_ ⟨rfl, hs⟩
  refine ⟨_, rfl, ?_⟩
  unfold text
  refine l_v (r_move rfl) ?_
  refine l_v (r_extract rfl rfl) ?_
  refine l_v (r_extract rfl rfl) ?_
  refine l_v (by first | exact (r_assign (v := iV _) rfl) | exact (r_assign rfl)) ?_
  refine l_v (by first | exact (r_assign (v := iV _) rfl) | exact (r_assign rfl)) ?_
  refine l_nil (nrm_then ?_)
  refine c_seq ?_
  refine c_rseq ?_
  refine l_v (by first | exact (r_move (v := iV _) rfl) | exact (r_move rfl)) ?_
  refine l_v (r_neqi rfl rfl) ?_
  refine l_nil (nrm_then ?_)
  refine c_cond rfl (fun h => ?_) (fun h => ?_)
  · replace h := of_decide_eq_true h
    refine c_rseq ?_
    refine l_v (by first | exact (r_move (v := iV _) rfl) | exact (r_move rfl)) ?_
    refine l_v (by first | exact (r_assign (v := sV _) rfl) | exact (r_assign rfl)) ?_
    refine l_v (by first | exact (r_assign (v := iV _) rfl) | exact (r_assign rfl)) ?_
    refine l_nil (nrm_then ?_)
    refine c_ret (ret_then ?_)
    show Fin _ _ _ _ _
    refine fin2 rfl ?_
    rw [if_neg h]
    have hc := count_fail h
    exact ⟨rfl, by rw [hc] at hs; exact hs⟩
  · replace h := of_decide_eq_false h
    refine c_skip (nrm_then ?_)
    refine c_rseq ?_
    refine l_v (r_move (v := .pointer _) rfl) ?_
    refine l_v (by first | exact (r_move (v := iV _) rfl) | exact (r_move rfl)) ?_
    refine l_call (r_call Tryd.func42 rfl rfl) ?_
    refine Calls.mono (raw_c (count (toL s)).1 (cut s (count (toL s)).2.1) b w0 _ R hs) ?_
    rintro e w_ ⟨rfl, hs⟩
    refine ⟨_, rfl, ?_⟩
    rw [toL_cut] at *
    have h0 : (count (toL s)).2.2 = 0 := Classical.not_not.1 h
    rw [if_pos h0]
    refine l_v (r_move rfl) ?_
    refine l_v (r_extract rfl rfl) ?_
    refine l_v (r_extract rfl rfl) ?_
    refine l_v (by first | exact (r_assign (v := sV _) rfl) | exact (r_assign rfl)) ?_
    refine l_v (by first | exact (r_assign (v := iV _) rfl) | exact (r_assign rfl)) ?_
    refine l_nil (nrm_then ?_)
    refine c_seq ?_
    refine c_rseq ?_
    refine l_v (by first | exact (r_move (v := iV _) rfl) | exact (r_move rfl)) ?_
    refine l_v (r_neqi rfl rfl) ?_
    refine l_nil (nrm_then ?_)
    refine c_cond rfl (fun h3 => ?_) (fun h3 => ?_)
    · replace h3 := of_decide_eq_true h3
      refine c_region ?_
      refine l_v (r_move (v := .pointer _) rfl) ?_
      refine l_v (by first | exact (r_move (v := sV _) rfl) | exact (r_move rfl)) ?_
      refine l_v (by first | exact (r_nilCheck_p rfl) | exact (r_nilCheck_f rfl)) ?_
      refine l_v (by first | exact (r_fieldAddr0 (off := 0) (T := 9) (by kernel_rfl) rfl) | exact (r_fieldAddr (off := 0) (T := 9) (by kernel_rfl) rfl)) ?_
      first | refine l_store (i := 0) (v := sV _) hs rfl I9 rfl rfl (by first | (simp; done) | (simp; omega) | omega) ?_ | refine l_store (i := 1) (v := sV _) hs rfl I9 rfl rfl (by first | (simp; done) | (simp; omega) | omega) ?_ | refine l_store (i := 2) (v := sV _) hs rfl I9 rfl rfl (by first | (simp; done) | (simp; omega) | omega) ?_ | refine l_store (i := 3) (v := sV _) hs rfl I9 rfl rfl (by first | (simp; done) | (simp; omega) | omega) ?_ | refine l_store (i := 4) (v := sV _) hs rfl I9 rfl rfl (by first | (simp; done) | (simp; omega) | omega) ?_ | refine l_store (i := 5) (v := sV _) hs rfl I9 rfl rfl (by first | (simp; done) | (simp; omega) | omega) ?_ | refine l_store (i := 6) (v := sV _) hs rfl I9 rfl rfl (by first | (simp; done) | (simp; omega) | omega) ?_
      intro w_ hs
      refine l_nil (nrm_then ?_)
      refine c_rseq ?_
      refine l_v (by first | exact (r_move (v := sV _) rfl) | exact (r_move rfl)) ?_
      refine l_v (by first | exact (r_move (v := iV _) rfl) | exact (r_move rfl)) ?_
      refine l_v (by first | exact (r_assign (v := sV _) rfl) | exact (r_assign rfl)) ?_
      refine l_v (by first | exact (r_assign (v := iV _) rfl) | exact (r_assign rfl)) ?_
      refine l_nil (nrm_then ?_)
      refine c_ret ?_
      show Fin _ _ _ _ _
      refine fin2 rfl ?_
      rw [if_neg h3]
      exact ⟨congrArg (fun z => Ending.returned (.tuple #[sV (ofL z), iV (raw ((toL s).drop (count (toL s)).2.1) (count (toL s)).1).2.2])) (raw_fail h3).1, hs⟩
    · replace h3 := of_decide_eq_false h3
      refine c_skip (nrm_then ?_)
      refine c_rseq ?_
      refine l_v (by first | exact (r_move (v := sV _) rfl) | exact (r_move rfl)) ?_
      refine l_v (by first | exact (r_move (v := iV _) rfl) | exact (r_move rfl)) ?_
      refine l_v (by first | exact (r_assign (v := sV _) rfl) | exact (r_assign rfl)) ?_
      refine l_v (by first | exact (r_assign (v := iV _) rfl) | exact (r_assign rfl)) ?_
      refine l_nil (nrm_then ?_)
      refine c_ret ?_
      show Fin _ _ _ _ _
      refine fin2 rfl ?_
      rw [if_pos (Classical.not_not.1 h3)]
      refine ⟨congrArg (fun z => Ending.returned (.tuple #[sV (ofL (raw ((toL s).drop (count (toL s)).2.1) (count (toL s)).1).1), iV z])) (Classical.not_not.1 h3), ?_⟩
      have e : cut (cut s (count (toL s)).2.1) (raw ((toL s).drop (count (toL s)).2.1) (count (toL s)).1).2.1 = cut s ((count (toL s)).2.1 + (raw ((toL s).drop (count (toL s)).2.1) (count (toL s)).1).2.1) := by
        unfold cut
        rw [toL_ofL, List.drop_drop]
      rw [e] at hs
      exact hs
end Go.Proofs.YtbimboibllboeaaDoor.Six
