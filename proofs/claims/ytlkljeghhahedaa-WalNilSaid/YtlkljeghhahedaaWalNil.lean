/- Nil logs and disks, and the walk of the law WalNil. -/
import Derived.Test.YtlkljeghhahedaaWalLog
import Derived.Test.YtlkljeghhahedaaWalReplay
namespace Go.Proofs.Ytlkljeghhahedaa.Wal
open Go Go.RowKit Go.Proofs.Ytlkljeghhahedaa.Eng Go.Proofs.Ytlkljeghhahedaa.Six Go.Proofs.Ytlkljeghhahedaa.CrcFn Go.Proofs.Ytlkljeghhahedaa.Dsk
set_option linter.unusedVariables false
set_option maxRecDepth 100000
theorem find_nil (n : Int) (w : World) :
    Calls Try.prog 43 #[.pointer none, iV n] w fun e w' => e = .returned (.tuple #[.pointer none, iV 8]) ∧ w' = w := by
  refine enter (P := Try.prog) Try.func43 rfl rfl ?_
  refine c_rseq ?_
  refine l_v (r_assign (v := .pointer _) rfl) ?_
  refine l_v (by first | exact (r_assign (v := iV _) rfl) | exact (r_assign rfl)) ?_
  refine l_nil (nrm_then ?_)
  refine c_seq ?_
  refine c_rseq ?_
  refine l_v (r_move (v := .pointer _) rfl) ?_
  refine l_v (by first | exact (r_eqlp_some Try.underlying36 rfl rfl) | exact (r_eqlp_none Try.underlying36 rfl rfl)) ?_
  refine l_v (by first | exact (r_move (v := bV _) rfl) | exact (r_move rfl)) ?_
  refine l_no rfl (rfl) ?_
  refine l_no rfl (rfl) ?_
  refine l_no rfl (rfl) ?_
  refine l_no rfl (rfl) ?_
  refine l_v (r_pick_t rfl rfl rfl) ?_
  refine l_nil (nrm_then ?_)
  refine c_true rfl (rfl) ?_
  refine c_rseq ?_
  refine l_v (r_assign (v := .pointer _) rfl) ?_
  refine l_v (by first | exact (r_assign (v := iV _) rfl) | exact (r_assign rfl)) ?_
  refine l_nil (nrm_then ?_)
  refine c_ret (ret_then ?_)
  show Fin _ _ _ _ _
  refine fin2 rfl ?_
  exact ⟨rfl, rfl⟩
theorem make_nil (t n : Int) (w : World) :
    Calls Try.prog 18 #[.pointer none, iV t, iV n] w fun e w' => e = .returned (iV 8) ∧ w' = w := by
  refine enter (P := Try.prog) Try.func18 rfl rfl ?_
  refine c_rseq ?_
  refine l_v (by first | exact (r_assign (v := iV _) rfl) | exact (r_assign rfl)) ?_
  refine l_nil (nrm_then ?_)
  refine c_rseq ?_
  refine l_v (r_move (v := .pointer _) rfl) ?_
  refine l_v (by first | exact (r_move (v := iV _) rfl) | exact (r_move rfl)) ?_
  refine l_call (r_call Try.func43 rfl rfl) ?_
  refine Calls.mono (find_nil n _) ?_
  rintro e w_ ⟨rfl, hww⟩
  refine ⟨_, rfl, ?_⟩
  refine l_v (r_move rfl) ?_
  refine l_v (r_extract rfl rfl) ?_
  refine l_v (r_extract rfl rfl) ?_
  refine l_v (r_assign (v := .pointer _) rfl) ?_
  refine l_v (by first | exact (r_assign (v := iV _) rfl) | exact (r_assign rfl)) ?_
  refine l_nil (nrm_then ?_)
  refine c_seq ?_
  refine c_block ?_
  refine c_rseq ?_
  refine l_v (by first | exact (r_move (v := iV _) rfl) | exact (r_move rfl)) ?_
  refine l_v (r_eqli rfl rfl) ?_
  refine l_v (by first | exact (r_assign (v := bV _) rfl) | exact (r_assign rfl)) ?_
  refine l_nil (nrm_then ?_)
  refine c_true rfl (rfl) ?_
  refine c_rseq ?_
  refine l_v (by first | exact (r_move (v := iV _) rfl) | exact (r_move rfl)) ?_
  refine l_v (by first | exact (r_assign (v := iV _) rfl) | exact (r_assign rfl)) ?_
  refine l_nil (nrm_then ?_)
  refine c_ret (ret_block (ret_then ?_))
  show Fin _ _ _ _ _
  refine fin1 rfl ?_
  exact ⟨rfl, hww⟩
theorem size_nil (n : Int) (w : World) :
    Calls Try.prog 26 #[.pointer none, iV n] w fun e w' => e = .returned (.tuple #[iV 0, iV 0, iV 8]) ∧ w' = w := by
  refine enter (P := Try.prog) Try.func26 rfl rfl ?_
  refine c_rseq ?_
  refine l_v (by first | exact (r_assign (v := iV _) rfl) | exact (r_assign rfl)) ?_
  refine l_v (by first | exact (r_assign (v := iV _) rfl) | exact (r_assign rfl)) ?_
  refine l_v (by first | exact (r_assign (v := iV _) rfl) | exact (r_assign rfl)) ?_
  refine l_nil (nrm_then ?_)
  refine c_rseq ?_
  refine l_v (r_move (v := .pointer _) rfl) ?_
  refine l_v (by first | exact (r_move (v := iV _) rfl) | exact (r_move rfl)) ?_
  refine l_call (r_call Try.func43 rfl rfl) ?_
  refine Calls.mono (find_nil n _) ?_
  rintro e w_ ⟨rfl, hww⟩
  refine ⟨_, rfl, ?_⟩
  refine l_v (r_move rfl) ?_
  refine l_v (r_extract rfl rfl) ?_
  refine l_v (r_extract rfl rfl) ?_
  refine l_v (r_assign (v := .pointer _) rfl) ?_
  refine l_v (by first | exact (r_assign (v := iV _) rfl) | exact (r_assign rfl)) ?_
  refine l_nil (nrm_then ?_)
  refine c_seq ?_
  refine c_rseq ?_
  refine l_v (by first | exact (r_move (v := iV _) rfl) | exact (r_move rfl)) ?_
  refine l_v (r_neqi rfl rfl) ?_
  refine l_nil (nrm_then ?_)
  refine c_true rfl (rfl) ?_
  refine c_rseq ?_
  refine l_v (by first | exact (r_move (v := iV _) rfl) | exact (r_move rfl)) ?_
  refine l_v (by first | exact (r_assign (v := iV _) rfl) | exact (r_assign rfl)) ?_
  refine l_v (by first | exact (r_assign (v := iV _) rfl) | exact (r_assign rfl)) ?_
  refine l_v (by first | exact (r_assign (v := iV _) rfl) | exact (r_assign rfl)) ?_
  refine l_nil (nrm_then ?_)
  refine c_ret (ret_then ?_)
  show Fin _ _ _ _ _
  refine fin3 rfl ?_
  exact ⟨rfl, hww⟩
theorem begin_nil (t n : Int) (w : World) :
    Calls Try.prog 21 #[.pointer none, iV t, iV n] w fun e w' => e = .returned (.tuple #[.pointer none, iV 8]) ∧ w' = w := by
  refine enter (P := Try.prog) Try.func21 rfl rfl ?_
  refine c_rseq ?_
  refine l_v (r_assign (v := .pointer _) rfl) ?_
  refine l_v (by first | exact (r_assign (v := iV _) rfl) | exact (r_assign rfl)) ?_
  refine l_nil (nrm_then ?_)
  refine c_seq ?_
  refine c_rseq ?_
  refine l_v (r_move (v := .pointer _) rfl) ?_
  refine l_v (by first | exact (r_move (v := iV _) rfl) | exact (r_move rfl)) ?_
  refine l_v (by first | exact (r_move (v := iV _) rfl) | exact (r_move rfl)) ?_
  refine l_call (r_call Try.func18 rfl rfl) ?_
  refine Calls.mono (make_nil t n _) ?_
  rintro e w_ ⟨rfl, hww⟩
  refine ⟨_, rfl, ?_⟩
  refine l_v (by first | exact (r_assign (v := iV _) rfl) | exact (r_assign rfl)) ?_
  refine l_nil (nrm_then ?_)
  refine c_rseq ?_
  refine l_v (by first | exact (r_move (v := iV _) rfl) | exact (r_move rfl)) ?_
  refine l_v (r_neqi rfl rfl) ?_
  refine l_nil (nrm_then ?_)
  refine c_true rfl (rfl) ?_
  refine c_rseq ?_
  refine l_v (by first | exact (r_move (v := iV _) rfl) | exact (r_move rfl)) ?_
  refine l_v (r_assign (v := .pointer _) rfl) ?_
  refine l_v (by first | exact (r_assign (v := iV _) rfl) | exact (r_assign rfl)) ?_
  refine l_nil (nrm_then ?_)
  refine c_ret (ret_then ?_)
  show Fin _ _ _ _ _
  refine fin2 rfl ?_
  exact ⟨rfl, hww⟩
theorem replay_nil (n : Int) (w : World) :
    Calls Try.prog 20 #[.pointer none, iV n] w fun e w' => e = .returned (.tuple #[.slice none 0 0, bV false, iV 8]) ∧ w' = w := by
  refine enter (P := Try.prog) Try.func20 rfl rfl ?_
  refine c_rseq ?_
  refine l_v (by first | exact (r_assign (v := .slice _ _ _) rfl) | exact (r_assign rfl)) ?_
  refine l_v (by first | exact (r_assign (v := bV _) rfl) | exact (r_assign rfl)) ?_
  refine l_v (by first | exact (r_assign (v := iV _) rfl) | exact (r_assign rfl)) ?_
  refine l_nil (nrm_then ?_)
  refine c_rseq ?_
  refine l_v (r_move (v := .pointer _) rfl) ?_
  refine l_v (by first | exact (r_move (v := iV _) rfl) | exact (r_move rfl)) ?_
  refine l_call (r_call Try.func26 rfl rfl) ?_
  refine Calls.mono (size_nil n _) ?_
  rintro e w_ ⟨rfl, hww⟩
  refine ⟨_, rfl, ?_⟩
  refine l_v (r_move rfl) ?_
  refine l_v (r_extract rfl rfl) ?_
  refine l_v (r_extract rfl rfl) ?_
  refine l_v (r_extract rfl rfl) ?_
  refine l_v (by first | exact (r_assign (v := iV _) rfl) | exact (r_assign rfl)) ?_
  refine l_v (by first | exact (r_assign (v := iV _) rfl) | exact (r_assign rfl)) ?_
  refine l_v (by first | exact (r_assign (v := iV _) rfl) | exact (r_assign rfl)) ?_
  refine l_nil (nrm_then ?_)
  refine c_seq ?_
  refine c_rseq ?_
  refine l_v (by first | exact (r_move (v := iV _) rfl) | exact (r_move rfl)) ?_
  refine l_v (r_neqi rfl rfl) ?_
  refine l_nil (nrm_then ?_)
  refine c_true rfl (rfl) ?_
  refine c_rseq ?_
  refine l_v (by first | exact (r_move (v := iV _) rfl) | exact (r_move rfl)) ?_
  refine l_v (by first | exact (r_assign (v := .slice _ _ _) rfl) | exact (r_assign rfl)) ?_
  refine l_v (by first | exact (r_assign (v := bV _) rfl) | exact (r_assign rfl)) ?_
  refine l_v (by first | exact (r_assign (v := iV _) rfl) | exact (r_assign rfl)) ?_
  refine l_nil (nrm_then ?_)
  refine c_ret (ret_then ?_)
  show Fin _ _ _ _ _
  refine fin3 rfl ?_
  exact ⟨rfl, hww⟩
theorem clear_nil (w : World) :
    Calls Try.prog 29 #[.pointer none] w fun e w' => (∃ v, e = .returned v) ∧ w' = w := by
  refine enter (P := Try.prog) Try.func29 rfl rfl ?_
  refine c_rseq ?_
  refine l_v (r_move (v := .pointer _) rfl) ?_
  refine l_v (by first | exact (r_neqp_some Try.underlying46 rfl rfl) | exact (r_neqp_none Try.underlying46 rfl rfl)) ?_
  refine l_nil (nrm_then ?_)
  refine c_false rfl (rfl) ?_
  refine c_skip ?_
  show Fin _ _ _ _ _
  refine fin0 rfl ?_
  exact ⟨⟨_, rfl⟩, rfl⟩
theorem counts_nil (w : World) :
    Calls Try.prog 25 #[.pointer none] w fun e w' => e = .returned (.tuple #[iV 0, iV 0, iV 0]) ∧ w' = w := by
  refine enter (P := Try.prog) Try.func25 rfl rfl ?_
  refine c_rseq ?_
  refine l_v (by first | exact (r_assign (v := iV _) rfl) | exact (r_assign rfl)) ?_
  refine l_v (by first | exact (r_assign (v := iV _) rfl) | exact (r_assign rfl)) ?_
  refine l_v (by first | exact (r_assign (v := iV _) rfl) | exact (r_assign rfl)) ?_
  refine l_nil (nrm_then ?_)
  refine c_seq ?_
  refine c_rseq ?_
  refine l_v (r_move (v := .pointer _) rfl) ?_
  refine l_v (by first | exact (r_eqlp_some Try.underlying46 rfl rfl) | exact (r_eqlp_none Try.underlying46 rfl rfl)) ?_
  refine l_nil (nrm_then ?_)
  refine c_true rfl (rfl) ?_
  refine c_rseq ?_
  refine l_v (by first | exact (r_assign (v := iV _) rfl) | exact (r_assign rfl)) ?_
  refine l_v (by first | exact (r_assign (v := iV _) rfl) | exact (r_assign rfl)) ?_
  refine l_v (by first | exact (r_assign (v := iV _) rfl) | exact (r_assign rfl)) ?_
  refine l_nil (nrm_then ?_)
  refine c_ret (ret_then ?_)
  show Fin _ _ _ _ _
  refine fin3 rfl ?_
  exact ⟨rfl, rfl⟩
theorem lfile_nil (w : World) :
    Calls Try.prog 30 #[.pointer none] w fun e w' => e = .returned (iV 0) ∧ w' = w := by
  refine enter (P := Try.prog) Try.func30 rfl rfl ?_
  refine c_rseq ?_
  refine l_v (by first | exact (r_assign (v := iV _) rfl) | exact (r_assign rfl)) ?_
  refine l_nil (nrm_then ?_)
  refine c_seq ?_
  refine c_rseq ?_
  refine l_v (r_move (v := .pointer _) rfl) ?_
  refine l_v (by first | exact (r_eqlp_some Try.underlying46 rfl rfl) | exact (r_eqlp_none Try.underlying46 rfl rfl)) ?_
  refine l_nil (nrm_then ?_)
  refine c_true rfl (rfl) ?_
  refine c_rseq ?_
  refine l_v (by first | exact (r_assign (v := iV _) rfl) | exact (r_assign rfl)) ?_
  refine l_nil (nrm_then ?_)
  refine c_ret (ret_then ?_)
  show Fin _ _ _ _ _
  refine fin1 rfl ?_
  exact ⟨rfl, rfl⟩
theorem ladd_nil (s : ByteArray) (w : World) :
    Calls Try.prog 22 #[.pointer none, sV s] w fun e w' => e = .returned (iV 1) ∧ w' = w := by
  refine enter (P := Try.prog) Try.func22 rfl rfl ?_
  refine c_rseq ?_
  refine l_v (by first | exact (r_assign (v := iV _) rfl) | exact (r_assign rfl)) ?_
  refine l_nil (nrm_then ?_)
  refine c_seq ?_
  refine c_block ?_
  refine c_rseq ?_
  refine l_v (r_move (v := .pointer _) rfl) ?_
  refine l_v (by first | exact (r_eqlp_some Try.underlying46 rfl rfl) | exact (r_eqlp_none Try.underlying46 rfl rfl)) ?_
  refine l_v (by first | exact (r_assign (v := bV _) rfl) | exact (r_assign rfl)) ?_
  refine l_nil (nrm_then ?_)
  refine c_true rfl (rfl) ?_
  refine c_rseq ?_
  refine l_v (by first | exact (r_assign (v := iV _) rfl) | exact (r_assign rfl)) ?_
  refine l_nil (nrm_then ?_)
  refine c_ret (ret_block (ret_then ?_))
  show Fin _ _ _ _ _
  refine fin1 rfl ?_
  exact ⟨rfl, rfl⟩
theorem lwrite_nil (w : World) :
    Calls Try.prog 24 #[.pointer none] w fun e w' => e = .returned (iV 1) ∧ w' = w := by
  refine enter (P := Try.prog) Try.func24 rfl rfl ?_
  refine c_rseq ?_
  refine l_v (by first | exact (r_assign (v := iV _) rfl) | exact (r_assign rfl)) ?_
  refine l_nil (nrm_then ?_)
  refine c_seq ?_
  refine c_rseq ?_
  refine l_v (r_move (v := .pointer _) rfl) ?_
  refine l_v (by first | exact (r_eqlp_some Try.underlying46 rfl rfl) | exact (r_eqlp_none Try.underlying46 rfl rfl)) ?_
  refine l_nil (nrm_then ?_)
  refine c_true rfl (rfl) ?_
  refine c_rseq ?_
  refine l_v (by first | exact (r_assign (v := iV _) rfl) | exact (r_assign rfl)) ?_
  refine l_nil (nrm_then ?_)
  refine c_ret (ret_then ?_)
  show Fin _ _ _ _ _
  refine fin1 rfl ?_
  exact ⟨rfl, rfl⟩
theorem lsync_nil (w : World) :
    Calls Try.prog 28 #[.pointer none] w fun e w' => e = .returned (iV 1) ∧ w' = w := by
  refine enter (P := Try.prog) Try.func28 rfl rfl ?_
  refine c_rseq ?_
  refine l_v (by first | exact (r_assign (v := iV _) rfl) | exact (r_assign rfl)) ?_
  refine l_nil (nrm_then ?_)
  refine c_seq ?_
  refine c_rseq ?_
  refine l_v (r_move (v := .pointer _) rfl) ?_
  refine l_v (by first | exact (r_eqlp_some Try.underlying46 rfl rfl) | exact (r_eqlp_none Try.underlying46 rfl rfl)) ?_
  refine l_nil (nrm_then ?_)
  refine c_true rfl (rfl) ?_
  refine c_rseq ?_
  refine l_v (by first | exact (r_assign (v := iV _) rfl) | exact (r_assign rfl)) ?_
  refine l_nil (nrm_then ?_)
  refine c_ret (ret_then ?_)
  show Fin _ _ _ _ _
  refine fin1 rfl ?_
  exact ⟨rfl, rfl⟩
/-- A fresh disk with room makes any file that a tier can bear. -/
theorem make_five (t n : Int) : (makeS (newS 5 5) t n).2 = if (t = 0 ∨ t = 1) ∧ 1 ≤ n then 0 else 1 := by
  have h1 : findE (newS 5 5) n = 9 := rfl
  have h3 : (newS 5 5).used t.toNat = 0 := rfl
  have h4 : (newS 5 5).room t.toNat = 5 := by show (if t.toNat = 0 then (5 : Int) else 5) = 5; split <;> rfl
  have h2 : stepOk (newS 5 5) = true := rfl
  unfold makeS
  rw [h1, if_neg (by decide)]
  by_cases hb : (t = 0 ∨ t = 1) ∧ 1 ≤ n
  · rw [if_neg (by omega), if_neg (by decide), h3, h4, if_neg (by decide), h2, if_pos rfl, if_pos hb]
  · rw [if_pos (by omega), if_neg hb]
set_option maxHeartbeats 16000000 in
theorem walNil_walk {w : World} (t : Int) (ht : (Lit.int .i64 t).wf = true) (n : Int) (hnw : (Lit.int .i64 n).wf = true) (s : ByteArray) (hw : s.size ≤ 140737488351232) :
    Calls Try.prog 7 #[iV t, iV n, sV s] w fun e w' => e = .returned (bV true) ∧ Below w.heap.size w w' := by
  refine enter (P := Try.prog) Try.func7 rfl rfl ?_
  have hs := Sep.init w
  refine c_rseq ?_
  refine l_v (by first | exact (r_assign (v := bV _) rfl) | exact (r_assign rfl)) ?_
  refine l_nil (nrm_then ?_)
  refine c_seq ?_
  refine c_rseq ?_
  refine l_call (r_call Try.func9 rfl rfl) ?_
  refine Calls.mono (awake_c _) ?_
  rintro e w_ ⟨rfl, hb⟩
  refine ⟨_, rfl, ?_⟩
  have hs := hs.below_ hb
  refine l_v (r_not rfl) ?_
  refine l_v (by first | exact (r_move (v := bV _) rfl) | exact (r_move rfl)) ?_
  refine l_vg (by first | exact (r_move (v := sV _) rfl) | exact (r_move rfl)) rfl (rfl) ?_
  refine l_vg (r_len_s Try.underlying9 rfl) rfl (rfl) ?_
  refine l_vg (r_gtri rfl rfl) rfl (rfl) ?_
  refine l_v (r_pick_f rfl rfl rfl) ?_
  refine l_nil (nrm_then ?_)
  refine c_cond rfl (fun h1 => ?_) (fun h1 => ?_)
  · replace h1 := of_decide_eq_true h1
    refine c_rseq ?_
    refine l_call (r_call Try.func9 rfl rfl) ?_
    refine Calls.mono (awake_c _) ?_
    rintro e w_ ⟨rfl, hb⟩
    refine ⟨_, rfl, ?_⟩
    have hs := hs.below_ hb
    refine l_v (by first | exact (r_assign (v := bV _) rfl) | exact (r_assign rfl)) ?_
    refine l_nil (nrm_then ?_)
    refine c_ret (ret_then ?_)
    show Fin _ _ _ _ _
    refine fin1 rfl ?_
    exact ⟨rfl, hs.below⟩
  · replace h1 := of_decide_eq_false h1
    refine c_skip (nrm_then ?_)
    refine c_rseq ?_
    refine l_v (r_assign (v := .pointer _) rfl) ?_
    refine l_nil (nrm_then ?_)
    refine c_rseq ?_
    refine l_v (r_move (v := .pointer _) rfl) ?_
    refine l_call (r_call Try.func29 rfl rfl) ?_
    refine Calls.mono (clear_nil _) ?_
    rintro e w_ ⟨⟨vc, rfl⟩, hww⟩
    refine ⟨_, rfl, ?_⟩
    rw [hww]
    refine l_nil (nrm_then ?_)
    refine c_rseq ?_
    refine l_v (r_move (v := .pointer _) rfl) ?_
    refine l_call (r_call Try.func25 rfl rfl) ?_
    refine Calls.mono (counts_nil _) ?_
    rintro e w_ ⟨rfl, hww2⟩
    refine ⟨_, rfl, ?_⟩
    rw [hww2]
    refine l_v (r_move rfl) ?_
    refine l_v (r_extract rfl rfl) ?_
    refine l_v (r_extract rfl rfl) ?_
    refine l_v (r_extract rfl rfl) ?_
    refine l_v (by first | exact (r_assign (v := iV _) rfl) | exact (r_assign rfl)) ?_
    refine l_v (by first | exact (r_assign (v := iV _) rfl) | exact (r_assign rfl)) ?_
    refine l_v (by first | exact (r_assign (v := iV _) rfl) | exact (r_assign rfl)) ?_
    refine l_nil (nrm_then ?_)
    refine c_rseq ?_
    refine l_v (by first | exact (r_move (v := iV _) rfl) | exact (r_move rfl)) ?_
    refine l_call (r_call Try.func21 rfl rfl) ?_
    refine Calls.mono (begin_nil 0 n _) ?_
    rintro e w_ ⟨rfl, hww3⟩
    refine ⟨_, rfl, ?_⟩
    rw [hww3]
    refine l_v (r_move rfl) ?_
    refine l_v (r_extract rfl rfl) ?_
    refine l_v (r_extract rfl rfl) ?_
    refine l_v (r_assign (v := .pointer _) rfl) ?_
    refine l_v (by first | exact (r_assign (v := iV _) rfl) | exact (r_assign rfl)) ?_
    refine l_nil (nrm_then ?_)
    refine c_rseq ?_
    refine l_v (by first | exact (r_move (v := iV _) rfl) | exact (r_move rfl)) ?_
    refine l_call (r_call Try.func20 rfl rfl) ?_
    refine Calls.mono (replay_nil n _) ?_
    rintro e w_ ⟨rfl, hww4⟩
    refine ⟨_, rfl, ?_⟩
    rw [hww4]
    refine l_v (r_move rfl) ?_
    refine l_v (r_extract rfl rfl) ?_
    refine l_v (r_extract rfl rfl) ?_
    refine l_v (r_extract rfl rfl) ?_
    refine l_v (by first | exact (r_assign (v := .slice _ _ _) rfl) | exact (r_assign rfl)) ?_
    refine l_v (by first | exact (r_assign (v := bV _) rfl) | exact (r_assign rfl)) ?_
    refine l_v (by first | exact (r_assign (v := iV _) rfl) | exact (r_assign rfl)) ?_
    refine l_nil (nrm_then ?_)
    refine c_rseq ?_
    refine l_call (r_call Try.func17 rfl rfl) ?_
    refine Calls.mono (new_ok 5 5 (by decide) w _ _ hs) ?_
    rintro e w_ ⟨b, rfl, hs⟩
    refine ⟨_, rfl, ?_⟩
    refine l_v (r_move rfl) ?_
    refine l_v (r_extract rfl rfl) ?_
    refine l_v (r_extract rfl rfl) ?_
    refine l_v (r_assign (v := .pointer _) rfl) ?_
    refine l_v (by first | exact (r_assign (v := iV _) rfl) | exact (r_assign rfl)) ?_
    refine l_nil (nrm_then ?_)
    refine c_rseq ?_
    refine l_v (r_move (v := .pointer _) rfl) ?_
    refine l_v (by first | exact (r_move (v := iV _) rfl) | exact (r_move rfl)) ?_
    refine l_v (by first | exact (r_move (v := iV _) rfl) | exact (r_move rfl)) ?_
    have hg0 := good_new (hot := 5) (cold := 5) (by decide) (by decide)
    refine l_call (r_call Try.func21 rfl rfl) ?_
    refine Calls.mono (begin_c b (newS 5 5) hg0 (by decide) t n w _ _ hs) ?_
    rintro e w_ ⟨q, rfl, hq, hs⟩
    refine ⟨_, rfl, ?_⟩
    rw [make_five] at hq ⊢
    have hsb : Below w.heap.size w w_ := by
      cases q with
      | none => exact Eng.Sep.below hs
      | some bl => exact Eng.Sep.below hs
    have hsb0 := Sep.init w
    have hs := hsb0.below_ hsb
    refine l_v (r_move rfl) ?_
    refine l_v (r_extract rfl rfl) ?_
    refine l_v (r_extract rfl rfl) ?_
    refine l_v (r_assign (v := .pointer _) rfl) ?_
    refine l_v (by first | exact (r_assign (v := iV _) rfl) | exact (r_assign rfl)) ?_
    refine l_nil (nrm_then ?_)
    refine c_seq ?_
    refine c_mid [2, 6, 7, 8, 9, 10, 11, 12, 13, 14, 15, 18, 19] (fun f' w' => w' = w_ ∧ f' 20 = bV (decide ((t = 0 ∨ t = 1) ∧ 1 ≤ n))) ?_ ?_
    · refine c_region ?_
      refine l_v (by first | exact (r_move (v := iV _) rfl) | exact (r_move rfl)) ?_
      refine l_v (r_eqli rfl rfl) ?_
      by_cases c1 : t = 0
      · have f1 : decide (t = 0) = true := decide_eq_true c1
        refine l_v (by first | exact (r_move (v := bV _) rfl) | exact (r_move rfl)) ?_
        refine l_no rfl (f1) ?_
        refine l_no rfl (f1) ?_
        refine l_v (r_pick_t rfl f1 rfl) ?_
        refine l_v (by first | exact (r_move (v := bV _) rfl) | exact (r_move rfl)) ?_
        refine l_vg (by first | exact (r_move (v := iV _) rfl) | exact (r_move rfl)) rfl (rfl) ?_
        refine l_vg (r_geqi rfl rfl) rfl (rfl) ?_
        refine l_v (r_pick_t rfl rfl rfl) ?_
        refine l_v (by first | exact (r_assign (v := bV _) rfl) | exact (r_assign rfl)) ?_
        refine l_nil (nrm_then ?_)
        refine And.intro (by refine ⟨?_, ?_, ?_, ?_, ?_, ?_, ?_, ?_, ?_, ?_, ?_, ?_, ?_, trivial⟩ <;> ((conv => lhs; whnf); (try conv => rhs; whnf))) ?_
        exact ⟨rfl, congrArg bV (decide_eq_decide.2 (by omega))⟩
      · have f1 : decide (t = 0) = false := decide_eq_false c1
        refine l_v (by first | exact (r_move (v := bV _) rfl) | exact (r_move rfl)) ?_
        refine l_vg (by first | exact (r_move (v := iV _) rfl) | exact (r_move rfl)) rfl (f1) ?_
        refine l_vg (r_eqli rfl rfl) rfl (f1) ?_
        refine l_v (r_pick_f rfl f1 rfl) ?_
        by_cases c2 : t = 1
        · have f2 : decide (t = 1) = true := decide_eq_true c2
          refine l_v (by first | exact (r_move (v := bV _) rfl) | exact (r_move rfl)) ?_
          refine l_vg (by first | exact (r_move (v := iV _) rfl) | exact (r_move rfl)) rfl (f2) ?_
          refine l_vg (r_geqi rfl rfl) rfl (f2) ?_
          refine l_v (r_pick_t rfl f2 rfl) ?_
          refine l_v (by first | exact (r_assign (v := bV _) rfl) | exact (r_assign rfl)) ?_
          refine l_nil (nrm_then ?_)
          refine And.intro (by refine ⟨?_, ?_, ?_, ?_, ?_, ?_, ?_, ?_, ?_, ?_, ?_, ?_, ?_, trivial⟩ <;> ((conv => lhs; whnf); (try conv => rhs; whnf))) ?_
          exact ⟨rfl, congrArg bV (decide_eq_decide.2 (by omega))⟩
        · have f2 : decide (t = 1) = false := decide_eq_false c2
          refine l_v (by first | exact (r_move (v := bV _) rfl) | exact (r_move rfl)) ?_
          refine l_no rfl (f2) ?_
          refine l_no rfl (f2) ?_
          refine l_v (r_pick_f rfl f2 rfl) ?_
          refine l_v (by first | exact (r_assign (v := bV _) rfl) | exact (r_assign rfl)) ?_
          refine l_nil (nrm_then ?_)
          refine And.intro (by refine ⟨?_, ?_, ?_, ?_, ?_, ?_, ?_, ?_, ?_, ?_, ?_, ?_, ?_, trivial⟩ <;> ((conv => lhs; whnf); (try conv => rhs; whnf))) ?_
          exact ⟨rfl, congrArg bV (decide_eq_false (by omega)).symm⟩
    · rintro g w_ ⟨rfl, h20⟩
      show OkC _ _ _ _ _ _
      refine OkC.env ?_ (fixH (L := [(20, _)]) ⟨h20, trivial⟩)
      clear h20
      by_cases hok : (t = 0 ∨ t = 1) ∧ 1 ≤ n
      · have f20 : decide ((t = 0 ∨ t = 1) ∧ 1 ≤ n) = true := decide_eq_true hok
        rw [if_pos hok] at hq ⊢
        obtain ⟨bl, rfl⟩ : ∃ bl, q = some bl := by
          cases q with
          | none => exact absurd (hq.1 rfl) (by decide)
          | some bl => exact ⟨bl, rfl⟩
        rw [f20]
        refine c_rseq ?_
        refine l_v (r_move (v := .pointer _) rfl) ?_
        refine l_v (by first | exact (r_eqlp_some Try.underlying46 rfl rfl) | exact (r_eqlp_none Try.underlying46 rfl rfl)) ?_
        refine l_v (by first | exact (r_move (v := bV _) rfl) | exact (r_move rfl)) ?_
        refine l_vg (by first | exact (r_move (v := iV _) rfl) | exact (r_move rfl)) rfl (rfl) ?_
        refine l_vg (r_eqli rfl rfl) rfl (rfl) ?_
        refine l_v (r_pick_t rfl rfl rfl) ?_
        refine l_v (by first | exact (r_move (v := bV _) rfl) | exact (r_move rfl)) ?_
        refine l_vg (by first | exact (r_move (v := .slice _ _ _) rfl) | exact (r_move rfl)) rfl (rfl) ?_
        refine l_vg (r_len_l Try.underlying22 rfl) rfl (rfl) ?_
        refine l_vg (r_eqli rfl rfl) rfl (rfl) ?_
        refine l_v (r_pick_t rfl rfl rfl) ?_
        refine l_v (by first | exact (r_move (v := bV _) rfl) | exact (r_move rfl)) ?_
        refine l_vg (by first | exact (r_move (v := bV _) rfl) | exact (r_move rfl)) rfl (rfl) ?_
        refine l_vg (r_not rfl) rfl (rfl) ?_
        refine l_v (r_pick_t rfl rfl rfl) ?_
        refine l_v (by first | exact (r_move (v := bV _) rfl) | exact (r_move rfl)) ?_
        refine l_vg (by first | exact (r_move (v := iV _) rfl) | exact (r_move rfl)) rfl (rfl) ?_
        refine l_vg (r_eqli rfl rfl) rfl (rfl) ?_
        refine l_v (r_pick_t rfl rfl rfl) ?_
        refine l_v (by first | exact (r_move (v := bV _) rfl) | exact (r_move rfl)) ?_
        refine l_vg (r_move (v := .pointer _) rfl) rfl (rfl) ?_
        refine l_vg (by first | exact (r_neqp_some Try.underlying46 rfl rfl) | exact (r_neqp_none Try.underlying46 rfl rfl)) rfl (rfl) ?_
        refine l_vg (by first | exact (r_move (v := bV _) rfl) | exact (r_move rfl)) rfl (rfl) ?_
        refine l_vg (r_eqlb Try.underlying4 rfl rfl) rfl (rfl) ?_
        refine l_v (r_pick_t rfl rfl rfl) ?_
        refine l_v (by first | exact (r_move (v := bV _) rfl) | exact (r_move rfl)) ?_
        refine l_vg (by first | exact (r_move (v := iV _) rfl) | exact (r_move rfl)) rfl (rfl) ?_
        refine l_vg (r_eqli rfl rfl) rfl (rfl) ?_
        refine l_vg (by first | exact (r_move (v := bV _) rfl) | exact (r_move rfl)) rfl (rfl) ?_
        refine l_vg (r_eqlb Try.underlying4 rfl rfl) rfl (rfl) ?_
        refine l_v (r_pick_t rfl rfl rfl) ?_
        refine l_v (by first | exact (r_move (v := bV _) rfl) | exact (r_move rfl)) ?_
        refine l_vg (by first | exact (r_move (v := bV _) rfl) | exact (r_move rfl)) rfl (rfl) ?_
        refine l_vg (by first | exact (r_move (v := bV _) rfl) | exact (r_move rfl)) rfl (rfl) ?_
        refine l_no rfl (rfl) ?_
        refine l_no rfl (rfl) ?_
        refine l_vg (r_pick_t rfl rfl rfl) rfl (rfl) ?_
        refine l_v (r_pick_t rfl rfl rfl) ?_
        refine l_v (by first | exact (r_move (v := bV _) rfl) | exact (r_move rfl)) ?_
        refine l_vg (r_move (v := .pointer _) rfl) rfl (rfl) ?_
        refine l_callg (r_call Try.func30 rfl rfl) rfl (rfl) ?_
        refine Calls.mono (lfile_nil _) ?_
        rintro e w_ ⟨rfl, hv1⟩
        refine ⟨_, rfl, ?_⟩
        rw [hv1]
        refine l_vg (r_eqli rfl rfl) rfl (rfl) ?_
        refine l_v (r_pick_t rfl rfl rfl) ?_
        refine l_v (by first | exact (r_move (v := bV _) rfl) | exact (r_move rfl)) ?_
        refine l_vg (r_move (v := .pointer _) rfl) rfl (rfl) ?_
        refine l_vg (by first | exact (r_move (v := sV _) rfl) | exact (r_move rfl)) rfl (rfl) ?_
        refine l_callg (r_call Try.func22 rfl rfl) rfl (rfl) ?_
        refine Calls.mono (ladd_nil s _) ?_
        rintro e w_ ⟨rfl, hv2⟩
        refine ⟨_, rfl, ?_⟩
        rw [hv2]
        refine l_vg (r_eqli rfl rfl) rfl (rfl) ?_
        refine l_v (r_pick_t rfl rfl rfl) ?_
        refine l_v (by first | exact (r_move (v := bV _) rfl) | exact (r_move rfl)) ?_
        refine l_vg (r_move (v := .pointer _) rfl) rfl (rfl) ?_
        refine l_callg (r_call Try.func24 rfl rfl) rfl (rfl) ?_
        refine Calls.mono (lwrite_nil _) ?_
        rintro e w_ ⟨rfl, hv3⟩
        refine ⟨_, rfl, ?_⟩
        rw [hv3]
        refine l_vg (r_eqli rfl rfl) rfl (rfl) ?_
        refine l_v (r_pick_t rfl rfl rfl) ?_
        refine l_v (by first | exact (r_move (v := bV _) rfl) | exact (r_move rfl)) ?_
        refine l_vg (r_move (v := .pointer _) rfl) rfl (rfl) ?_
        refine l_callg (r_call Try.func28 rfl rfl) rfl (rfl) ?_
        refine Calls.mono (lsync_nil _) ?_
        rintro e w_ ⟨rfl, hv4⟩
        refine ⟨_, rfl, ?_⟩
        rw [hv4]
        refine l_vg (r_eqli rfl rfl) rfl (rfl) ?_
        refine l_v (r_pick_t rfl rfl rfl) ?_
        refine l_v (by first | exact (r_move (v := bV _) rfl) | exact (r_move rfl)) ?_
        refine l_vg (by first | exact (r_move (v := iV _) rfl) | exact (r_move rfl)) rfl (rfl) ?_
        refine l_vg (by first | exact (r_move (v := iV _) rfl) | exact (r_move rfl)) rfl (rfl) ?_
        refine l_vg (r_addi rfl rfl (by omega)) rfl (rfl) ?_
        refine l_vg (by first | exact (r_move (v := iV _) rfl) | exact (r_move rfl)) rfl (rfl) ?_
        refine l_vg (r_addi rfl rfl (by omega)) rfl (rfl) ?_
        refine l_vg (r_eqli rfl rfl) rfl (rfl) ?_
        refine l_v (r_pick_t rfl rfl rfl) ?_
        refine l_v (by first | exact (r_assign (v := bV _) rfl) | exact (r_assign rfl)) ?_
        refine l_nil (nrm_then ?_)
        refine c_ret ?_
        show Fin _ _ _ _ _
        refine fin1 rfl ?_
        exact ⟨rfl, hs.below⟩
      · have f20 : decide ((t = 0 ∨ t = 1) ∧ 1 ≤ n) = false := decide_eq_false hok
        rw [if_neg hok] at hq ⊢
        obtain rfl : q = none := hq.2 (by decide)
        rw [f20]
        refine c_rseq ?_
        refine l_v (r_move (v := .pointer _) rfl) ?_
        refine l_v (by first | exact (r_eqlp_some Try.underlying46 rfl rfl) | exact (r_eqlp_none Try.underlying46 rfl rfl)) ?_
        refine l_v (by first | exact (r_move (v := bV _) rfl) | exact (r_move rfl)) ?_
        refine l_vg (by first | exact (r_move (v := iV _) rfl) | exact (r_move rfl)) rfl (rfl) ?_
        refine l_vg (r_eqli rfl rfl) rfl (rfl) ?_
        refine l_v (r_pick_t rfl rfl rfl) ?_
        refine l_v (by first | exact (r_move (v := bV _) rfl) | exact (r_move rfl)) ?_
        refine l_vg (by first | exact (r_move (v := .slice _ _ _) rfl) | exact (r_move rfl)) rfl (rfl) ?_
        refine l_vg (r_len_l Try.underlying22 rfl) rfl (rfl) ?_
        refine l_vg (r_eqli rfl rfl) rfl (rfl) ?_
        refine l_v (r_pick_t rfl rfl rfl) ?_
        refine l_v (by first | exact (r_move (v := bV _) rfl) | exact (r_move rfl)) ?_
        refine l_vg (by first | exact (r_move (v := bV _) rfl) | exact (r_move rfl)) rfl (rfl) ?_
        refine l_vg (r_not rfl) rfl (rfl) ?_
        refine l_v (r_pick_t rfl rfl rfl) ?_
        refine l_v (by first | exact (r_move (v := bV _) rfl) | exact (r_move rfl)) ?_
        refine l_vg (by first | exact (r_move (v := iV _) rfl) | exact (r_move rfl)) rfl (rfl) ?_
        refine l_vg (r_eqli rfl rfl) rfl (rfl) ?_
        refine l_v (r_pick_t rfl rfl rfl) ?_
        refine l_v (by first | exact (r_move (v := bV _) rfl) | exact (r_move rfl)) ?_
        refine l_vg (r_move (v := .pointer _) rfl) rfl (rfl) ?_
        refine l_vg (by first | exact (r_neqp_some Try.underlying46 rfl rfl) | exact (r_neqp_none Try.underlying46 rfl rfl)) rfl (rfl) ?_
        refine l_vg (by first | exact (r_move (v := bV _) rfl) | exact (r_move rfl)) rfl (rfl) ?_
        refine l_vg (r_eqlb Try.underlying4 rfl rfl) rfl (rfl) ?_
        refine l_v (r_pick_t rfl rfl rfl) ?_
        refine l_v (by first | exact (r_move (v := bV _) rfl) | exact (r_move rfl)) ?_
        refine l_vg (by first | exact (r_move (v := iV _) rfl) | exact (r_move rfl)) rfl (rfl) ?_
        refine l_vg (r_eqli rfl rfl) rfl (rfl) ?_
        refine l_vg (by first | exact (r_move (v := bV _) rfl) | exact (r_move rfl)) rfl (rfl) ?_
        refine l_vg (r_eqlb Try.underlying4 rfl rfl) rfl (rfl) ?_
        refine l_v (r_pick_t rfl rfl rfl) ?_
        refine l_v (by first | exact (r_move (v := bV _) rfl) | exact (r_move rfl)) ?_
        refine l_vg (by first | exact (r_move (v := bV _) rfl) | exact (r_move rfl)) rfl (rfl) ?_
        refine l_vg (by first | exact (r_move (v := bV _) rfl) | exact (r_move rfl)) rfl (rfl) ?_
        refine l_vg (by first | exact (r_move (v := iV _) rfl) | exact (r_move rfl)) rfl (rfl) ?_
        refine l_vg (r_eqli rfl rfl) rfl (rfl) ?_
        refine l_vg (r_pick_f rfl rfl rfl) rfl (rfl) ?_
        refine l_v (r_pick_t rfl rfl rfl) ?_
        refine l_v (by first | exact (r_move (v := bV _) rfl) | exact (r_move rfl)) ?_
        refine l_vg (r_move (v := .pointer _) rfl) rfl (rfl) ?_
        refine l_callg (r_call Try.func30 rfl rfl) rfl (rfl) ?_
        refine Calls.mono (lfile_nil _) ?_
        rintro e w_ ⟨rfl, hv1⟩
        refine ⟨_, rfl, ?_⟩
        rw [hv1]
        refine l_vg (r_eqli rfl rfl) rfl (rfl) ?_
        refine l_v (r_pick_t rfl rfl rfl) ?_
        refine l_v (by first | exact (r_move (v := bV _) rfl) | exact (r_move rfl)) ?_
        refine l_vg (r_move (v := .pointer _) rfl) rfl (rfl) ?_
        refine l_vg (by first | exact (r_move (v := sV _) rfl) | exact (r_move rfl)) rfl (rfl) ?_
        refine l_callg (r_call Try.func22 rfl rfl) rfl (rfl) ?_
        refine Calls.mono (ladd_nil s _) ?_
        rintro e w_ ⟨rfl, hv2⟩
        refine ⟨_, rfl, ?_⟩
        rw [hv2]
        refine l_vg (r_eqli rfl rfl) rfl (rfl) ?_
        refine l_v (r_pick_t rfl rfl rfl) ?_
        refine l_v (by first | exact (r_move (v := bV _) rfl) | exact (r_move rfl)) ?_
        refine l_vg (r_move (v := .pointer _) rfl) rfl (rfl) ?_
        refine l_callg (r_call Try.func24 rfl rfl) rfl (rfl) ?_
        refine Calls.mono (lwrite_nil _) ?_
        rintro e w_ ⟨rfl, hv3⟩
        refine ⟨_, rfl, ?_⟩
        rw [hv3]
        refine l_vg (r_eqli rfl rfl) rfl (rfl) ?_
        refine l_v (r_pick_t rfl rfl rfl) ?_
        refine l_v (by first | exact (r_move (v := bV _) rfl) | exact (r_move rfl)) ?_
        refine l_vg (r_move (v := .pointer _) rfl) rfl (rfl) ?_
        refine l_callg (r_call Try.func28 rfl rfl) rfl (rfl) ?_
        refine Calls.mono (lsync_nil _) ?_
        rintro e w_ ⟨rfl, hv4⟩
        refine ⟨_, rfl, ?_⟩
        rw [hv4]
        refine l_vg (r_eqli rfl rfl) rfl (rfl) ?_
        refine l_v (r_pick_t rfl rfl rfl) ?_
        refine l_v (by first | exact (r_move (v := bV _) rfl) | exact (r_move rfl)) ?_
        refine l_vg (by first | exact (r_move (v := iV _) rfl) | exact (r_move rfl)) rfl (rfl) ?_
        refine l_vg (by first | exact (r_move (v := iV _) rfl) | exact (r_move rfl)) rfl (rfl) ?_
        refine l_vg (r_addi rfl rfl (by omega)) rfl (rfl) ?_
        refine l_vg (by first | exact (r_move (v := iV _) rfl) | exact (r_move rfl)) rfl (rfl) ?_
        refine l_vg (r_addi rfl rfl (by omega)) rfl (rfl) ?_
        refine l_vg (r_eqli rfl rfl) rfl (rfl) ?_
        refine l_v (r_pick_t rfl rfl rfl) ?_
        refine l_v (by first | exact (r_assign (v := bV _) rfl) | exact (r_assign rfl)) ?_
        refine l_nil (nrm_then ?_)
        refine c_ret ?_
        show Fin _ _ _ _ _
        refine fin1 rfl ?_
        exact ⟨rfl, hs.below⟩
end Go.Proofs.Ytlkljeghhahedaa.Wal
