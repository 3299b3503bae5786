/- Nil disks, and the walk of the law DiskNil. -/
import Derived.Test.YtnneoipoaoefkaaDskDo
namespace Go.Proofs.Ytnneoipoaoefkaa.Dsk
open Go Go.RowKit Go.ChangeShapes Go.WideShapes Go.Proofs.Ytnneoipoaoefkaa.Eng
set_option linter.unusedVariables false
set_option maxRecDepth 100000
theorem op_open1 {H : Type} {enc : TypeId × Value → H} {W : World} {base : Nat} {spare : Nat → Bool} {held : Bool} {d : DataW H} {ps : List MemPlace} {r : Reach} {b0 : Nat} {v : Value} (hv : Value.okWide Try.prog W r b0 32 v) (h : DataW.Trod enc Try.prog W base spare held 32 v d ps) : ∃ o : OpS, v = opV o ∧ opok W o ∧ True := by
  simp only [Value.okWide, Try.underlying32] at hv
  obtain ⟨cs, rfl, _, _⟩ := hv
  obtain ⟨fuel, hf⟩ := h
  obtain ⟨o, h1, h2⟩ := op_open hf
  refine ⟨o, ?_, h2, trivial⟩
  show Value.agg cs = .agg (opC o).toArray
  rw [← h1]
  rfl
theorem find_nil (n : Int) (w : World) :
    Calls Try.prog 29 #[.pointer none, iV n] w fun e w' => e = .returned (.tuple #[.pointer none, iV 8]) ∧ w' = w := by
  refine enter (P := Try.prog) Try.func29 rfl rfl ?_
  refine c_rseq ?_
  refine l_v (r_assign (v := .pointer _) rfl) ?_
  refine l_v (by first | exact (r_assign (v := iV _) rfl) | exact (r_assign rfl)) ?_
  refine l_nil (nrm_then ?_)
  refine c_seq ?_
  refine c_rseq ?_
  refine l_v (r_move (v := .pointer _) rfl) ?_
  refine l_v (by first | exact (r_eqlp_some Try.underlying26 rfl rfl) | exact (r_eqlp_none Try.underlying26 rfl rfl)) ?_
  refine l_v (by first | exact (r_move (v := bV _) rfl) | exact (r_move rfl)) ?_
  refine l_no rfl (rfl) ?_
  refine l_no rfl (rfl) ?_
  refine l_no rfl (rfl) ?_
  refine l_no rfl (rfl) ?_
  refine l_v (r_pick_t rfl rfl rfl) ?_
  refine l_nil (nrm_then ?_)
  refine c_true rfl (rfl) ?_
  refine c_rseq ?_
  refine l_v (r_assign (v := .pointer _) rfl) ?_
  refine l_v (by first | exact (r_assign (v := iV _) rfl) | exact (r_assign rfl)) ?_
  refine l_nil (nrm_then ?_)
  refine c_ret (ret_then ?_)
  show Fin _ _ _ _ _
  refine fin2 rfl ?_
  exact ⟨rfl, rfl⟩
theorem make_nil (t n : Int) (w : World) :
    Calls Try.prog 13 #[.pointer none, iV t, iV n] w fun e w' => e = .returned (iV 8) ∧ w' = w := by
  refine enter (P := Try.prog) Try.func13 rfl rfl ?_
  refine c_rseq ?_
  refine l_v (by first | exact (r_assign (v := iV _) rfl) | exact (r_assign rfl)) ?_
  refine l_nil (nrm_then ?_)
  refine c_rseq ?_
  refine l_v (r_move (v := .pointer _) rfl) ?_
  refine l_v (by first | exact (r_move (v := iV _) rfl) | exact (r_move rfl)) ?_
  refine l_call (r_call Try.func29 rfl rfl) ?_
  refine Calls.mono (find_nil n _) ?_
  rintro e w_ ⟨rfl, hww⟩
  refine ⟨_, rfl, ?_⟩
  refine l_v (r_move rfl) ?_
  refine l_v (r_extract rfl rfl) ?_
  refine l_v (r_extract rfl rfl) ?_
  refine l_v (r_assign (v := .pointer _) rfl) ?_
  refine l_v (by first | exact (r_assign (v := iV _) rfl) | exact (r_assign rfl)) ?_
  refine l_nil (nrm_then ?_)
  refine c_seq ?_
  refine c_block ?_
  refine c_rseq ?_
  refine l_v (by first | exact (r_move (v := iV _) rfl) | exact (r_move rfl)) ?_
  refine l_v (r_eqli rfl rfl) ?_
  refine l_v (by first | exact (r_assign (v := bV _) rfl) | exact (r_assign rfl)) ?_
  refine l_nil (nrm_then ?_)
  refine c_true rfl (rfl) ?_
  refine c_rseq ?_
  refine l_v (by first | exact (r_move (v := iV _) rfl) | exact (r_move rfl)) ?_
  refine l_v (by first | exact (r_assign (v := iV _) rfl) | exact (r_assign rfl)) ?_
  refine l_nil (nrm_then ?_)
  refine c_ret (ret_block (ret_then ?_))
  show Fin _ _ _ _ _
  refine fin1 rfl ?_
  exact ⟨rfl, hww⟩
theorem add_nil (n : Int) (s : ByteArray) (w : World) :
    Calls Try.prog 16 #[.pointer none, iV n, sV s] w fun e w' => e = .returned (iV 8) ∧ w' = w := by
  refine enter (P := Try.prog) Try.func16 rfl rfl ?_
  refine c_rseq ?_
  refine l_v (by first | exact (r_assign (v := iV _) rfl) | exact (r_assign rfl)) ?_
  refine l_nil (nrm_then ?_)
  refine c_rseq ?_
  refine l_v (r_move (v := .pointer _) rfl) ?_
  refine l_v (by first | exact (r_move (v := iV _) rfl) | exact (r_move rfl)) ?_
  refine l_call (r_call Try.func29 rfl rfl) ?_
  refine Calls.mono (find_nil n _) ?_
  rintro e w_ ⟨rfl, hww⟩
  refine ⟨_, rfl, ?_⟩
  refine l_v (r_move rfl) ?_
  refine l_v (r_extract rfl rfl) ?_
  refine l_v (r_extract rfl rfl) ?_
  refine l_v (r_assign (v := .pointer _) rfl) ?_
  refine l_v (by first | exact (r_assign (v := iV _) rfl) | exact (r_assign rfl)) ?_
  refine l_nil (nrm_then ?_)
  refine c_seq ?_
  refine c_rseq ?_
  refine l_v (by first | exact (r_move (v := iV _) rfl) | exact (r_move rfl)) ?_
  refine l_v (r_neqi rfl rfl) ?_
  refine l_nil (nrm_then ?_)
  refine c_true rfl (rfl) ?_
  refine c_rseq ?_
  refine l_v (by first | exact (r_move (v := iV _) rfl) | exact (r_move rfl)) ?_
  refine l_v (by first | exact (r_assign (v := iV _) rfl) | exact (r_assign rfl)) ?_
  refine l_nil (nrm_then ?_)
  refine c_ret (ret_then ?_)
  show Fin _ _ _ _ _
  refine fin1 rfl ?_
  exact ⟨rfl, hww⟩
theorem sync_nil (n : Int) (w : World) :
    Calls Try.prog 17 #[.pointer none, iV n] w fun e w' => e = .returned (iV 8) ∧ w' = w := by
  refine enter (P := Try.prog) Try.func17 rfl rfl ?_
  refine c_rseq ?_
  refine l_v (by first | exact (r_assign (v := iV _) rfl) | exact (r_assign rfl)) ?_
  refine l_nil (nrm_then ?_)
  refine c_rseq ?_
  refine l_v (r_move (v := .pointer _) rfl) ?_
  refine l_v (by first | exact (r_move (v := iV _) rfl) | exact (r_move rfl)) ?_
  refine l_call (r_call Try.func29 rfl rfl) ?_
  refine Calls.mono (find_nil n _) ?_
  rintro e w_ ⟨rfl, hww⟩
  refine ⟨_, rfl, ?_⟩
  refine l_v (r_move rfl) ?_
  refine l_v (r_extract rfl rfl) ?_
  refine l_v (r_extract rfl rfl) ?_
  refine l_v (r_assign (v := .pointer _) rfl) ?_
  refine l_v (by first | exact (r_assign (v := iV _) rfl) | exact (r_assign rfl)) ?_
  refine l_nil (nrm_then ?_)
  refine c_seq ?_
  refine c_block ?_
  refine c_rseq ?_
  refine l_v (by first | exact (r_move (v := iV _) rfl) | exact (r_move rfl)) ?_
  refine l_v (r_neqi rfl rfl) ?_
  refine l_v (by first | exact (r_assign (v := bV _) rfl) | exact (r_assign rfl)) ?_
  refine l_nil (nrm_then ?_)
  refine c_true rfl (rfl) ?_
  refine c_rseq ?_
  refine l_v (by first | exact (r_move (v := iV _) rfl) | exact (r_move rfl)) ?_
  refine l_v (by first | exact (r_assign (v := iV _) rfl) | exact (r_assign rfl)) ?_
  refine l_nil (nrm_then ?_)
  refine c_ret (ret_block (ret_then ?_))
  show Fin _ _ _ _ _
  refine fin1 rfl ?_
  exact ⟨rfl, hww⟩
theorem drop_nil (n : Int) (w : World) :
    Calls Try.prog 20 #[.pointer none, iV n] w fun e w' => e = .returned (iV 8) ∧ w' = w := by
  refine enter (P := Try.prog) Try.func20 rfl rfl ?_
  refine c_rseq ?_
  refine l_v (by first | exact (r_assign (v := iV _) rfl) | exact (r_assign rfl)) ?_
  refine l_nil (nrm_then ?_)
  refine c_rseq ?_
  refine l_v (r_move (v := .pointer _) rfl) ?_
  refine l_v (by first | exact (r_move (v := iV _) rfl) | exact (r_move rfl)) ?_
  refine l_call (r_call Try.func29 rfl rfl) ?_
  refine Calls.mono (find_nil n _) ?_
  rintro e w_ ⟨rfl, hww⟩
  refine ⟨_, rfl, ?_⟩
  refine l_v (r_move rfl) ?_
  refine l_v (r_extract rfl rfl) ?_
  refine l_v (r_extract rfl rfl) ?_
  refine l_v (r_assign (v := .pointer _) rfl) ?_
  refine l_v (by first | exact (r_assign (v := iV _) rfl) | exact (r_assign rfl)) ?_
  refine l_nil (nrm_then ?_)
  refine c_seq ?_
  refine c_block ?_
  refine c_rseq ?_
  refine l_v (by first | exact (r_move (v := iV _) rfl) | exact (r_move rfl)) ?_
  refine l_v (r_neqi rfl rfl) ?_
  refine l_v (by first | exact (r_assign (v := bV _) rfl) | exact (r_assign rfl)) ?_
  refine l_nil (nrm_then ?_)
  refine c_true rfl (rfl) ?_
  refine c_rseq ?_
  refine l_v (by first | exact (r_move (v := iV _) rfl) | exact (r_move rfl)) ?_
  refine l_v (by first | exact (r_assign (v := iV _) rfl) | exact (r_assign rfl)) ?_
  refine l_nil (nrm_then ?_)
  refine c_ret (ret_block (ret_then ?_))
  show Fin _ _ _ _ _
  refine fin1 rfl ?_
  exact ⟨rfl, hww⟩
theorem point_nil (n : Int) (w : World) :
    Calls Try.prog 27 #[.pointer none, iV n] w fun e w' => e = .returned (iV 8) ∧ w' = w := by
  refine enter (P := Try.prog) Try.func27 rfl rfl ?_
  refine c_rseq ?_
  refine l_v (by first | exact (r_assign (v := iV _) rfl) | exact (r_assign rfl)) ?_
  refine l_nil (nrm_then ?_)
  refine c_rseq ?_
  refine l_v (r_move (v := .pointer _) rfl) ?_
  refine l_v (by first | exact (r_move (v := iV _) rfl) | exact (r_move rfl)) ?_
  refine l_call (r_call Try.func29 rfl rfl) ?_
  refine Calls.mono (find_nil n _) ?_
  rintro e w_ ⟨rfl, hww⟩
  refine ⟨_, rfl, ?_⟩
  refine l_v (r_move rfl) ?_
  refine l_v (r_extract rfl rfl) ?_
  refine l_v (r_extract rfl rfl) ?_
  refine l_v (r_assign (v := .pointer _) rfl) ?_
  refine l_v (by first | exact (r_assign (v := iV _) rfl) | exact (r_assign rfl)) ?_
  refine l_nil (nrm_then ?_)
  refine c_seq ?_
  refine c_block ?_
  refine c_rseq ?_
  refine l_v (by first | exact (r_move (v := iV _) rfl) | exact (r_move rfl)) ?_
  refine l_v (r_neqi rfl rfl) ?_
  refine l_v (by first | exact (r_assign (v := bV _) rfl) | exact (r_assign rfl)) ?_
  refine l_nil (nrm_then ?_)
  refine c_true rfl (rfl) ?_
  refine c_rseq ?_
  refine l_v (by first | exact (r_move (v := iV _) rfl) | exact (r_move rfl)) ?_
  refine l_v (by first | exact (r_assign (v := iV _) rfl) | exact (r_assign rfl)) ?_
  refine l_nil (nrm_then ?_)
  refine c_ret (ret_block (ret_then ?_))
  show Fin _ _ _ _ _
  refine fin1 rfl ?_
  exact ⟨rfl, hww⟩
theorem read_nil (n a z : Int) (w : World) :
    Calls Try.prog 15 #[.pointer none, iV n, iV a, iV z] w fun e w' => e = .returned (.tuple #[sV ⟨#[]⟩, iV 8]) ∧ w' = w := by
  refine enter (P := Try.prog) Try.func15 rfl rfl ?_
  refine c_rseq ?_
  refine l_v (by first | exact (r_assign (v := sV _) rfl) | exact (r_assign rfl)) ?_
  refine l_v (by first | exact (r_assign (v := iV _) rfl) | exact (r_assign rfl)) ?_
  refine l_nil (nrm_then ?_)
  refine c_rseq ?_
  refine l_v (r_move (v := .pointer _) rfl) ?_
  refine l_v (by first | exact (r_move (v := iV _) rfl) | exact (r_move rfl)) ?_
  refine l_call (r_call Try.func29 rfl rfl) ?_
  refine Calls.mono (find_nil n _) ?_
  rintro e w_ ⟨rfl, hww⟩
  refine ⟨_, rfl, ?_⟩
  refine l_v (r_move rfl) ?_
  refine l_v (r_extract rfl rfl) ?_
  refine l_v (r_extract rfl rfl) ?_
  refine l_v (r_assign (v := .pointer _) rfl) ?_
  refine l_v (by first | exact (r_assign (v := iV _) rfl) | exact (r_assign rfl)) ?_
  refine l_nil (nrm_then ?_)
  refine c_seq ?_
  refine c_block ?_
  refine c_rseq ?_
  refine l_v (by first | exact (r_move (v := iV _) rfl) | exact (r_move rfl)) ?_
  refine l_v (r_neqi rfl rfl) ?_
  refine l_v (by first | exact (r_assign (v := bV _) rfl) | exact (r_assign rfl)) ?_
  refine l_nil (nrm_then ?_)
  refine c_true rfl (rfl) ?_
  refine c_rseq ?_
  refine l_v (by first | exact (r_move (v := iV _) rfl) | exact (r_move rfl)) ?_
  refine l_v (by first | exact (r_assign (v := sV _) rfl) | exact (r_assign rfl)) ?_
  refine l_v (by first | exact (r_assign (v := iV _) rfl) | exact (r_assign rfl)) ?_
  refine l_nil (nrm_then ?_)
  refine c_ret (ret_block (ret_then ?_))
  show Fin _ _ _ _ _
  refine fin2 rfl ?_
  exact ⟨rfl, hww⟩
theorem size_nil (n : Int) (w : World) :
    Calls Try.prog 14 #[.pointer none, iV n] w fun e w' => e = .returned (.tuple #[iV 0, iV 0, iV 8]) ∧ w' = w := by
  refine enter (P := Try.prog) Try.func14 rfl rfl ?_
  refine c_rseq ?_
  refine l_v (by first | exact (r_assign (v := iV _) rfl) | exact (r_assign rfl)) ?_
  refine l_v (by first | exact (r_assign (v := iV _) rfl) | exact (r_assign rfl)) ?_
  refine l_v (by first | exact (r_assign (v := iV _) rfl) | exact (r_assign rfl)) ?_
  refine l_nil (nrm_then ?_)
  refine c_rseq ?_
  refine l_v (r_move (v := .pointer _) rfl) ?_
  refine l_v (by first | exact (r_move (v := iV _) rfl) | exact (r_move rfl)) ?_
  refine l_call (r_call Try.func29 rfl rfl) ?_
  refine Calls.mono (find_nil n _) ?_
  rintro e w_ ⟨rfl, hww⟩
  refine ⟨_, rfl, ?_⟩
  refine l_v (r_move rfl) ?_
  refine l_v (r_extract rfl rfl) ?_
  refine l_v (r_extract rfl rfl) ?_
  refine l_v (r_assign (v := .pointer _) rfl) ?_
  refine l_v (by first | exact (r_assign (v := iV _) rfl) | exact (r_assign rfl)) ?_
  refine l_nil (nrm_then ?_)
  refine c_seq ?_
  refine c_rseq ?_
  refine l_v (by first | exact (r_move (v := iV _) rfl) | exact (r_move rfl)) ?_
  refine l_v (r_neqi rfl rfl) ?_
  refine l_nil (nrm_then ?_)
  refine c_true rfl (rfl) ?_
  refine c_rseq ?_
  refine l_v (by first | exact (r_move (v := iV _) rfl) | exact (r_move rfl)) ?_
  refine l_v (by first | exact (r_assign (v := iV _) rfl) | exact (r_assign rfl)) ?_
  refine l_v (by first | exact (r_assign (v := iV _) rfl) | exact (r_assign rfl)) ?_
  refine l_v (by first | exact (r_assign (v := iV _) rfl) | exact (r_assign rfl)) ?_
  refine l_nil (nrm_then ?_)
  refine c_ret (ret_then ?_)
  show Fin _ _ _ _ _
  refine fin3 rfl ?_
  exact ⟨rfl, hww⟩
theorem files_nil (w : World) :
    Calls Try.prog 24 #[.pointer none] w fun e w' => e = .returned (.slice none 0 0) ∧ w' = w := by
  refine enter (P := Try.prog) Try.func24 rfl rfl ?_
  refine c_rseq ?_
  refine l_v (by first | exact (r_assign (v := .slice _ _ _) rfl) | exact (r_assign rfl)) ?_
  refine l_nil (nrm_then ?_)
  refine c_seq ?_
  refine c_rseq ?_
  refine l_v (r_move (v := .pointer _) rfl) ?_
  refine l_v (by first | exact (r_eqlp_some Try.underlying26 rfl rfl) | exact (r_eqlp_none Try.underlying26 rfl rfl)) ?_
  refine l_nil (nrm_then ?_)
  refine c_true rfl (rfl) ?_
  refine c_rseq ?_
  refine l_v (by first | exact (r_assign (v := .slice _ _ _) rfl) | exact (r_assign rfl)) ?_
  refine l_nil (nrm_then ?_)
  refine c_ret (ret_then ?_)
  show Fin _ _ _ _ _
  refine fin1 rfl ?_
  exact ⟨rfl, rfl⟩
theorem root_nil (w : World) :
    Calls Try.prog 19 #[.pointer none] w fun e w' => e = .returned (iV 0) ∧ w' = w := by
  refine enter (P := Try.prog) Try.func19 rfl rfl ?_
  refine c_rseq ?_
  refine l_v (by first | exact (r_assign (v := iV _) rfl) | exact (r_assign rfl)) ?_
  refine l_nil (nrm_then ?_)
  refine c_seq ?_
  refine c_rseq ?_
  refine l_v (r_move (v := .pointer _) rfl) ?_
  refine l_v (by first | exact (r_eqlp_some Try.underlying26 rfl rfl) | exact (r_eqlp_none Try.underlying26 rfl rfl)) ?_
  refine l_nil (nrm_then ?_)
  refine c_true rfl (rfl) ?_
  refine c_rseq ?_
  refine l_v (by first | exact (r_assign (v := iV _) rfl) | exact (r_assign rfl)) ?_
  refine l_nil (nrm_then ?_)
  refine c_ret (ret_then ?_)
  show Fin _ _ _ _ _
  refine fin1 rfl ?_
  exact ⟨rfl, rfl⟩
theorem steps_nil (w : World) :
    Calls Try.prog 22 #[.pointer none] w fun e w' => e = .returned (iV 0) ∧ w' = w := by
  refine enter (P := Try.prog) Try.func22 rfl rfl ?_
  refine c_rseq ?_
  refine l_v (by first | exact (r_assign (v := iV _) rfl) | exact (r_assign rfl)) ?_
  refine l_nil (nrm_then ?_)
  refine c_seq ?_
  refine c_rseq ?_
  refine l_v (r_move (v := .pointer _) rfl) ?_
  refine l_v (by first | exact (r_eqlp_some Try.underlying26 rfl rfl) | exact (r_eqlp_none Try.underlying26 rfl rfl)) ?_
  refine l_nil (nrm_then ?_)
  refine c_true rfl (rfl) ?_
  refine c_rseq ?_
  refine l_v (by first | exact (r_assign (v := iV _) rfl) | exact (r_assign rfl)) ?_
  refine l_nil (nrm_then ?_)
  refine c_ret (ret_then ?_)
  show Fin _ _ _ _ _
  refine fin1 rfl ?_
  exact ⟨rfl, rfl⟩
theorem used_nil (t : Int) (w : World) :
    Calls Try.prog 23 #[.pointer none, iV t] w fun e w' => e = .returned (iV 0) ∧ w' = w := by
  refine enter (P := Try.prog) Try.func23 rfl rfl ?_
  refine c_rseq ?_
  refine l_v (by first | exact (r_assign (v := iV _) rfl) | exact (r_assign rfl)) ?_
  refine l_nil (nrm_then ?_)
  refine c_seq ?_
  refine c_rseq ?_
  refine l_v (r_move (v := .pointer _) rfl) ?_
  refine l_v (by first | exact (r_eqlp_some Try.underlying26 rfl rfl) | exact (r_eqlp_none Try.underlying26 rfl rfl)) ?_
  refine l_v (by first | exact (r_move (v := bV _) rfl) | exact (r_move rfl)) ?_
  refine l_no rfl (rfl) ?_
  refine l_no rfl (rfl) ?_
  refine l_no rfl (rfl) ?_
  refine l_skip (.inr rfl) ?_
  refine l_skip (.inr rfl) ?_
  refine l_no rfl (rfl) ?_
  refine l_v (r_pick_t rfl rfl rfl) ?_
  refine l_nil (nrm_then ?_)
  refine c_true rfl (rfl) ?_
  refine c_rseq ?_
  refine l_v (by first | exact (r_assign (v := iV _) rfl) | exact (r_assign rfl)) ?_
  refine l_nil (nrm_then ?_)
  refine c_ret (ret_then ?_)
  show Fin _ _ _ _ _
  refine fin1 rfl ?_
  exact ⟨rfl, rfl⟩
theorem room_nil (t : Int) (w : World) :
    Calls Try.prog 26 #[.pointer none, iV t] w fun e w' => e = .returned (iV 0) ∧ w' = w := by
  refine enter (P := Try.prog) Try.func26 rfl rfl ?_
  refine c_rseq ?_
  refine l_v (by first | exact (r_assign (v := iV _) rfl) | exact (r_assign rfl)) ?_
  refine l_nil (nrm_then ?_)
  refine c_seq ?_
  refine c_rseq ?_
  refine l_v (r_move (v := .pointer _) rfl) ?_
  refine l_v (by first | exact (r_eqlp_some Try.underlying26 rfl rfl) | exact (r_eqlp_none Try.underlying26 rfl rfl)) ?_
  refine l_v (by first | exact (r_move (v := bV _) rfl) | exact (r_move rfl)) ?_
  refine l_no rfl (rfl) ?_
  refine l_no rfl (rfl) ?_
  refine l_no rfl (rfl) ?_
  refine l_skip (.inr rfl) ?_
  refine l_skip (.inr rfl) ?_
  refine l_no rfl (rfl) ?_
  refine l_v (r_pick_t rfl rfl rfl) ?_
  refine l_nil (nrm_then ?_)
  refine c_true rfl (rfl) ?_
  refine c_rseq ?_
  refine l_v (by first | exact (r_assign (v := iV _) rfl) | exact (r_assign rfl)) ?_
  refine l_nil (nrm_then ?_)
  refine c_ret (ret_then ?_)
  show Fin _ _ _ _ _
  refine fin1 rfl ?_
  exact ⟨rfl, rfl⟩
theorem down_nil (w : World) :
    Calls Try.prog 18 #[.pointer none] w fun e w' => e = .returned (bV true) ∧ w' = w := by
  refine enter (P := Try.prog) Try.func18 rfl rfl ?_
  refine c_rseq ?_
  refine l_v (by first | exact (r_assign (v := bV _) rfl) | exact (r_assign rfl)) ?_
  refine l_nil (nrm_then ?_)
  refine c_rseq ?_
  refine l_v (r_move (v := .pointer _) rfl) ?_
  refine l_v (by first | exact (r_eqlp_some Try.underlying26 rfl rfl) | exact (r_eqlp_none Try.underlying26 rfl rfl)) ?_
  refine l_v (by first | exact (r_move (v := bV _) rfl) | exact (r_move rfl)) ?_
  refine l_no rfl (rfl) ?_
  refine l_no rfl (rfl) ?_
  refine l_no rfl (rfl) ?_
  refine l_no rfl (rfl) ?_
  refine l_v (r_pick_t rfl rfl rfl) ?_
  refine l_v (by first | exact (r_assign (v := bV _) rfl) | exact (r_assign rfl)) ?_
  refine l_nil (nrm_then ?_)
  refine c_ret ?_
  show Fin _ _ _ _ _
  refine fin1 rfl ?_
  exact ⟨rfl, rfl⟩
theorem arm_nil (n : Int) (w : World) :
    Calls Try.prog 21 #[.pointer none, iV n] w fun e w' => (∃ v, e = .returned v) ∧ w' = w := by
  refine enter (P := Try.prog) Try.func21 rfl rfl ?_
  refine c_rseq ?_
  refine l_v (r_move (v := .pointer _) rfl) ?_
  refine l_v (by first | exact (r_neqp_some Try.underlying26 rfl rfl) | exact (r_neqp_none Try.underlying26 rfl rfl)) ?_
  refine l_nil (nrm_then ?_)
  refine c_false rfl (rfl) ?_
  refine c_skip ?_
  show Fin _ _ _ _ _
  refine fin0 rfl ?_
  exact ⟨⟨_, rfl⟩, rfl⟩
theorem back_nil (v : Value) (w : World) :
    Calls Try.prog 12 #[.pointer none, v] w fun e w' => (∃ v, e = .returned v) ∧ w' = w := by
  refine enter (P := Try.prog) Try.func12 rfl rfl ?_
  refine c_seq ?_
  refine c_rseq ?_
  refine l_v (r_move (v := .pointer _) rfl) ?_
  refine l_v (by first | exact (r_eqlp_some Try.underlying26 rfl rfl) | exact (r_eqlp_none Try.underlying26 rfl rfl)) ?_
  refine l_nil (nrm_then ?_)
  refine c_true rfl (rfl) ?_
  refine c_ret (ret_then ?_)
  show Fin _ _ _ _ _
  refine fin0 rfl ?_
  exact ⟨⟨_, rfl⟩, rfl⟩
set_option maxHeartbeats 4000000 in
theorem do_nil (o : OpS) (w : World) :
    Calls Try.prog 11 #[.pointer none, opV o] w fun e w' => e = .returned (iV (if 1 ≤ o.kind ∧ o.kind ≤ 5 then 8 else 0)) ∧ Below w.heap.size w w' := by
  refine enter (P := Try.prog) Try.func11 rfl rfl ?_
  have hs := Sep.init w
  refine c_rseq ?_
  refine l_box hs rfl ?_
  intro b3 w3 hs hB3 hlt3
  refine l_v (by first | exact (r_assign (v := iV _) rfl) | exact (r_assign rfl)) ?_
  refine l_nil (nrm_then ?_)
  refine c_seq ?_
  refine c_rseq ?_
  refine l_v (by first | exact (r_fieldAddr0 (off := 0) (T := 3) (by kernel_rfl) rfl) | exact (r_fieldAddr (off := 0) (T := 3) (by kernel_rfl) rfl)) ?_
  refine l_v (by first | exact (r_load_at (i := 0) hs rfl Try.underlying3 rfl rfl) | exact (r_load_at (i := 1) hs rfl Try.underlying3 rfl rfl) | exact (r_load_at (i := 2) hs rfl Try.underlying3 rfl rfl) | exact (r_load_at (i := 3) hs rfl Try.underlying3 rfl rfl) | exact (r_load_at (i := 4) hs rfl Try.underlying3 rfl rfl) | exact (r_load_at (i := 5) hs rfl Try.underlying3 rfl rfl) | exact (r_load_at (i := 6) hs rfl Try.underlying3 rfl rfl)) ?_
  refine l_nil (nrm_then ?_)
  refine c_block ?_
  refine c_rseq ?_
  refine l_v (r_eqli rfl rfl) ?_
  refine l_v (by first | exact (r_assign (v := bV _) rfl) | exact (r_assign rfl)) ?_
  refine l_nil (nrm_then ?_)
  have hs : Eng.Sep w w3 (blk b3 (opC o) 32 :: []) := hs
  refine c_cond rfl (fun h1 => ?_) (fun h1 => ?_)
  · replace h1 := of_decide_eq_true h1
    refine c_rseq ?_
    refine l_v (r_move (v := .pointer _) rfl) ?_
    refine l_v (by first | exact (r_fieldAddr0 (off := 1) (T := 3) (by kernel_rfl) rfl) | exact (r_fieldAddr (off := 1) (T := 3) (by kernel_rfl) rfl)) ?_
    refine l_v (r_load_at (i := 0) hs rfl Try.underlying3 rfl rfl) ?_
    refine l_v (by first | exact (r_fieldAddr0 (off := 2) (T := 3) (by kernel_rfl) rfl) | exact (r_fieldAddr (off := 2) (T := 3) (by kernel_rfl) rfl)) ?_
    refine l_v (r_load_at (i := 0) hs rfl Try.underlying3 rfl rfl) ?_
    rw [if_pos (by omega)]
    refine l_call (r_call Try.func13 rfl rfl) ?_
    refine Calls.mono (make_nil o.tier o.file _) ?_
    rintro e w_ ⟨rfl, hww⟩
    refine ⟨_, rfl, ?_⟩
    rw [hww]
    refine l_v (by first | exact (r_assign (v := iV _) rfl) | exact (r_assign rfl)) ?_
    refine l_nil (nrm_then ?_)
    refine c_ret (ret_block (ret_then ?_))
    show Fin _ _ _ _ _
    refine fin1 rfl ?_
    exact ⟨rfl, hs.below⟩
  · replace h1 := of_decide_eq_false h1
    refine c_rseq ?_
    refine l_v (r_eqli rfl rfl) ?_
    refine l_v (by first | exact (r_assign (v := bV _) rfl) | exact (r_assign rfl)) ?_
    refine l_nil (nrm_then ?_)
    refine c_cond rfl (fun h2 => ?_) (fun h2 => ?_)
    · replace h2 := of_decide_eq_true h2
      refine c_rseq ?_
      refine l_v (r_move (v := .pointer _) rfl) ?_
      refine l_v (by first | exact (r_fieldAddr0 (off := 2) (T := 3) (by kernel_rfl) rfl) | exact (r_fieldAddr (off := 2) (T := 3) (by kernel_rfl) rfl)) ?_
      refine l_v (r_load_at (i := 0) hs rfl Try.underlying3 rfl rfl) ?_
      refine l_v (by first | exact (r_fieldAddr0 (off := 5) (T := 9) (by kernel_rfl) rfl) | exact (r_fieldAddr (off := 5) (T := 9) (by kernel_rfl) rfl)) ?_
      refine l_v (r_load_at (i := 0) hs rfl Try.underlying9 rfl rfl) ?_
      rw [if_pos (by omega)]
      refine l_call (r_call Try.func16 rfl rfl) ?_
      refine Calls.mono (add_nil o.file (ofL o.text) _) ?_
      rintro e w_ ⟨rfl, hww⟩
      refine ⟨_, rfl, ?_⟩
      rw [hww]
      refine l_v (by first | exact (r_assign (v := iV _) rfl) | exact (r_assign rfl)) ?_
      refine l_nil (nrm_then ?_)
      refine c_ret (ret_block (ret_then ?_))
      show Fin _ _ _ _ _
      refine fin1 rfl ?_
      exact ⟨rfl, hs.below⟩
    · replace h2 := of_decide_eq_false h2
      refine c_rseq ?_
      refine l_v (r_eqli rfl rfl) ?_
      refine l_v (by first | exact (r_assign (v := bV _) rfl) | exact (r_assign rfl)) ?_
      refine l_nil (nrm_then ?_)
      refine c_cond rfl (fun h3 => ?_) (fun h3 => ?_)
      · replace h3 := of_decide_eq_true h3
        refine c_rseq ?_
        refine l_v (r_move (v := .pointer _) rfl) ?_
        refine l_v (by first | exact (r_fieldAddr0 (off := 2) (T := 3) (by kernel_rfl) rfl) | exact (r_fieldAddr (off := 2) (T := 3) (by kernel_rfl) rfl)) ?_
        refine l_v (r_load_at (i := 0) hs rfl Try.underlying3 rfl rfl) ?_
        rw [if_pos (by omega)]
        refine l_call (r_call Try.func17 rfl rfl) ?_
        refine Calls.mono (sync_nil o.file _) ?_
        rintro e w_ ⟨rfl, hww⟩
        refine ⟨_, rfl, ?_⟩
        rw [hww]
        refine l_v (by first | exact (r_assign (v := iV _) rfl) | exact (r_assign rfl)) ?_
        refine l_nil (nrm_then ?_)
        refine c_ret (ret_block (ret_then ?_))
        show Fin _ _ _ _ _
        refine fin1 rfl ?_
        exact ⟨rfl, hs.below⟩
      · replace h3 := of_decide_eq_false h3
        refine c_rseq ?_
        refine l_v (r_eqli rfl rfl) ?_
        refine l_v (by first | exact (r_assign (v := bV _) rfl) | exact (r_assign rfl)) ?_
        refine l_nil (nrm_then ?_)
        refine c_cond rfl (fun h4 => ?_) (fun h4 => ?_)
        · replace h4 := of_decide_eq_true h4
          refine c_rseq ?_
          refine l_v (r_move (v := .pointer _) rfl) ?_
          refine l_v (by first | exact (r_fieldAddr0 (off := 2) (T := 3) (by kernel_rfl) rfl) | exact (r_fieldAddr (off := 2) (T := 3) (by kernel_rfl) rfl)) ?_
          refine l_v (r_load_at (i := 0) hs rfl Try.underlying3 rfl rfl) ?_
          rw [if_pos (by omega)]
          refine l_call (r_call Try.func20 rfl rfl) ?_
          refine Calls.mono (drop_nil o.file _) ?_
          rintro e w_ ⟨rfl, hww⟩
          refine ⟨_, rfl, ?_⟩
          rw [hww]
          refine l_v (by first | exact (r_assign (v := iV _) rfl) | exact (r_assign rfl)) ?_
          refine l_nil (nrm_then ?_)
          refine c_ret (ret_block (ret_then ?_))
          show Fin _ _ _ _ _
          refine fin1 rfl ?_
          exact ⟨rfl, hs.below⟩
        · replace h4 := of_decide_eq_false h4
          refine c_rseq ?_
          refine l_v (r_eqli rfl rfl) ?_
          refine l_v (by first | exact (r_assign (v := bV _) rfl) | exact (r_assign rfl)) ?_
          refine l_nil (nrm_then ?_)
          refine c_cond rfl (fun h5 => ?_) (fun h5 => ?_)
          · replace h5 := of_decide_eq_true h5
            refine c_rseq ?_
            refine l_v (r_move (v := .pointer _) rfl) ?_
            refine l_v (by first | exact (r_fieldAddr0 (off := 2) (T := 3) (by kernel_rfl) rfl) | exact (r_fieldAddr (off := 2) (T := 3) (by kernel_rfl) rfl)) ?_
            refine l_v (r_load_at (i := 0) hs rfl Try.underlying3 rfl rfl) ?_
            rw [if_pos (by omega)]
            refine l_call (r_call Try.func27 rfl rfl) ?_
            refine Calls.mono (point_nil o.file _) ?_
            rintro e w_ ⟨rfl, hww⟩
            refine ⟨_, rfl, ?_⟩
            rw [hww]
            refine l_v (by first | exact (r_assign (v := iV _) rfl) | exact (r_assign rfl)) ?_
            refine l_nil (nrm_then ?_)
            refine c_ret (ret_block (ret_then ?_))
            show Fin _ _ _ _ _
            refine fin1 rfl ?_
            exact ⟨rfl, hs.below⟩
          · replace h5 := of_decide_eq_false h5
            refine c_rseq ?_
            refine l_v (r_eqli rfl rfl) ?_
            refine l_v (by first | exact (r_assign (v := bV _) rfl) | exact (r_assign rfl)) ?_
            refine l_nil (nrm_then ?_)
            have hno : ¬ (1 ≤ o.kind ∧ o.kind ≤ 5) := by
              have h1 : ¬ o.kind = 1 := h1
              have h2 : ¬ o.kind = 2 := h2
              have h3 : ¬ o.kind = 3 := h3
              have h4 : ¬ o.kind = 4 := h4
              have h5 : ¬ o.kind = 5 := h5
              omega
            rw [if_neg hno]
            refine c_cond rfl (fun h8 => ?_) (fun h8 => ?_)
            · replace h8 := of_decide_eq_true h8
              refine c_region ?_
              refine l_v (r_move (v := .pointer _) rfl) ?_
              refine l_v (by first | exact (r_fieldAddr0 (off := 6) (T := 23) (by kernel_rfl) rfl) | exact (r_fieldAddr (off := 6) (T := 23) (by kernel_rfl) rfl)) ?_
              refine l_v (r_load_at (i := 0) hs rfl Try.underlying23 rfl rfl) ?_
              refine l_call (r_call Try.func12 rfl rfl) ?_
              refine Calls.mono (back_nil _ _) ?_
              rintro e w_ ⟨⟨v, rfl⟩, hww⟩
              refine ⟨_, rfl, ?_⟩
              rw [hww]
              refine l_nil (nrm_block (nrm_then ?_))
              refine c_rseq ?_
              refine l_v (by first | exact (r_assign (v := iV _) rfl) | exact (r_assign rfl)) ?_
              refine l_nil (nrm_then ?_)
              refine c_ret ?_
              show Fin _ _ _ _ _
              refine fin1 rfl ?_
              exact ⟨rfl, hs.below⟩
            · replace h8 := of_decide_eq_false h8
              refine c_skip (nrm_block (nrm_then ?_))
              refine c_rseq ?_
              refine l_v (by first | exact (r_assign (v := iV _) rfl) | exact (r_assign rfl)) ?_
              refine l_nil (nrm_then ?_)
              refine c_ret ?_
              show Fin _ _ _ _ _
              refine fin1 rfl ?_
              exact ⟨rfl, hs.below⟩
set_option maxHeartbeats 8000000 in
theorem diskNil_walk {w : World} (o : OpS) (ok : opok w o) (bd : True) :
    Calls Try.prog 7 #[opV o] w fun e w' => e = .returned (bV true) ∧ Below w.heap.size w w' := by
  refine enter (P := Try.prog) Try.func7 rfl rfl ?_
  have hs := Sep.init w
  refine c_rseq ?_
  refine l_box hs rfl ?_
  intro b1 w1 hs hB1 hlt1
  refine l_v (by first | exact (r_assign (v := bV _) rfl) | exact (r_assign rfl)) ?_
  refine l_nil (nrm_then ?_)
  refine c_rseq ?_
  refine l_v (r_assign (v := .pointer _) rfl) ?_
  refine l_nil (nrm_then ?_)
  refine c_rseq ?_
  refine l_v (r_move (v := .pointer _) rfl) ?_
  refine l_v (by first | exact (r_fieldAddr0 (off := 3) (T := 3) (by kernel_rfl) rfl) | exact (r_fieldAddr (off := 3) (T := 3) (by kernel_rfl) rfl)) ?_
  refine l_v (by first | exact (r_load_at (i := 0) hs rfl Try.underlying3 rfl rfl) | exact (r_load_at (i := 1) hs rfl Try.underlying3 rfl rfl) | exact (r_load_at (i := 2) hs rfl Try.underlying3 rfl rfl) | exact (r_load_at (i := 3) hs rfl Try.underlying3 rfl rfl) | exact (r_load_at (i := 4) hs rfl Try.underlying3 rfl rfl) | exact (r_load_at (i := 5) hs rfl Try.underlying3 rfl rfl) | exact (r_load_at (i := 6) hs rfl Try.underlying3 rfl rfl)) ?_
  have hs : Eng.Sep w w1 (blk b1 (opC o) 32 :: []) := hs
  refine l_call (r_call Try.func21 rfl rfl) ?_
  refine Calls.mono (arm_nil o.pos _) ?_
  rintro e w_ ⟨⟨v13, rfl⟩, hww⟩
  refine ⟨_, rfl, ?_⟩
  rw [hww]
  refine l_nil (nrm_then ?_)
  refine c_rseq ?_
  refine l_v (r_move (v := .pointer _) rfl) ?_
  refine l_v (r_load_whole (i := 0) hs rfl Try.underlying32 I32 rfl rfl) ?_
  refine l_call (r_call Try.func11 rfl rfl) ?_
  refine Calls.mono (do_nil o _) ?_
  rintro e w_ ⟨rfl, hb⟩
  refine ⟨_, rfl, ?_⟩
  have hs := hs.below_ hb
  refine l_v (by first | exact (r_assign (v := iV _) rfl) | exact (r_assign rfl)) ?_
  refine l_nil (nrm_then ?_)
  refine c_rseq ?_
  refine l_v (r_move (v := .pointer _) rfl) ?_
  refine l_v (by first | exact (r_fieldAddr0 (off := 2) (T := 3) (by kernel_rfl) rfl) | exact (r_fieldAddr (off := 2) (T := 3) (by kernel_rfl) rfl)) ?_
  refine l_v (r_load_at (i := 0) hs rfl Try.underlying3 rfl rfl) ?_
  refine l_v (by first | exact (r_fieldAddr0 (off := 3) (T := 3) (by kernel_rfl) rfl) | exact (r_fieldAddr (off := 3) (T := 3) (by kernel_rfl) rfl)) ?_
  refine l_v (r_load_at (i := 0) hs rfl Try.underlying3 rfl rfl) ?_
  refine l_v (by first | exact (r_fieldAddr0 (off := 4) (T := 3) (by kernel_rfl) rfl) | exact (r_fieldAddr (off := 4) (T := 3) (by kernel_rfl) rfl)) ?_
  refine l_v (r_load_at (i := 0) hs rfl Try.underlying3 rfl rfl) ?_
  refine l_call (r_call Try.func15 rfl rfl) ?_
  refine Calls.mono (read_nil o.file o.pos o.size _) ?_
  rintro e w_ ⟨rfl, hww2⟩
  refine ⟨_, rfl, ?_⟩
  rw [hww2]
  refine l_v (r_move rfl) ?_
  refine l_v (r_extract rfl rfl) ?_
  refine l_v (r_extract rfl rfl) ?_
  refine l_v (by first | exact (r_assign (v := sV _) rfl) | exact (r_assign rfl)) ?_
  refine l_v (by first | exact (r_assign (v := iV _) rfl) | exact (r_assign rfl)) ?_
  refine l_nil (nrm_then ?_)
  refine c_rseq ?_
  refine l_v (r_move (v := .pointer _) rfl) ?_
  refine l_v (by first | exact (r_fieldAddr0 (off := 2) (T := 3) (by kernel_rfl) rfl) | exact (r_fieldAddr (off := 2) (T := 3) (by kernel_rfl) rfl)) ?_
  refine l_v (r_load_at (i := 0) hs rfl Try.underlying3 rfl rfl) ?_
  refine l_call (r_call Try.func14 rfl rfl) ?_
  refine Calls.mono (size_nil o.file _) ?_
  rintro e w_ ⟨rfl, hww3⟩
  refine ⟨_, rfl, ?_⟩
  rw [hww3]
  refine l_v (r_move rfl) ?_
  refine l_v (r_extract rfl rfl) ?_
  refine l_v (r_extract rfl rfl) ?_
  refine l_v (r_extract rfl rfl) ?_
  refine l_v (by first | exact (r_assign (v := iV _) rfl) | exact (r_assign rfl)) ?_
  refine l_v (by first | exact (r_assign (v := iV _) rfl) | exact (r_assign rfl)) ?_
  refine l_v (by first | exact (r_assign (v := iV _) rfl) | exact (r_assign rfl)) ?_
  refine l_nil (nrm_then ?_)
  refine c_rseq ?_
  refine l_call (r_call Try.func8 rfl rfl) ?_
  refine Calls.mono (awake_c _) ?_
  rintro e w_ ⟨rfl, hb⟩
  refine ⟨_, rfl, ?_⟩
  have hs := hs.below_ hb
  by_cases hk : 1 ≤ o.kind ∧ o.kind ≤ 5
  · rw [if_pos hk]
    have f42 : decide (o.kind ≥ 1) = true := decide_eq_true hk.1
    have f46 : decide (o.kind ≤ 5) = true := decide_eq_true hk.2
    have f48 : (decide ((8 : Int) = 8) == decide (o.kind ≤ 5)) = true := by rw [f46]; rfl
    refine l_v (by first | exact (r_move (v := bV _) rfl) | exact (r_move rfl)) ?_
    refine l_vg (by first | exact (r_move (v := iV _) rfl) | exact (r_move rfl)) rfl (rfl) ?_
    refine l_vg (r_eqli rfl rfl) rfl (rfl) ?_
    refine l_vg (by first | exact (r_fieldAddr0 (off := 0) (T := 3) (by kernel_rfl) rfl) | exact (r_fieldAddr (off := 0) (T := 3) (by kernel_rfl) rfl)) rfl (rfl) ?_
    refine l_vg (r_load_at (i := 0) hs rfl Try.underlying3 rfl rfl) rfl (rfl) ?_
    refine l_vg (r_geqi rfl rfl) rfl (rfl) ?_
    refine l_vg (by first | exact (r_move (v := bV _) rfl) | exact (r_move rfl)) rfl (rfl) ?_
    refine l_vg (by first | exact (r_fieldAddr0 (off := 0) (T := 3) (by kernel_rfl) rfl) | exact (r_fieldAddr (off := 0) (T := 3) (by kernel_rfl) rfl)) rfl (f42) ?_
    refine l_vg (r_load_at (i := 0) hs rfl Try.underlying3 rfl rfl) rfl (f42) ?_
    refine l_vg (r_leqi rfl rfl) rfl (f42) ?_
    refine l_vg (r_pick_t rfl f42 rfl) rfl (rfl) ?_
    refine l_vg (r_eqlb Try.underlying4 rfl rfl) rfl (rfl) ?_
    refine l_v (r_pick_t rfl rfl rfl) ?_
    refine l_v (by first | exact (r_move (v := bV _) rfl) | exact (r_move rfl)) ?_
    refine l_vg (by first | exact (r_move (v := sV _) rfl) | exact (r_move rfl)) rfl (f48) ?_
    refine l_vg (r_eqls rfl rfl) rfl (f48) ?_
    refine l_v (r_pick_t rfl f48 rfl) ?_
    refine l_v (by first | exact (r_move (v := bV _) rfl) | exact (r_move rfl)) ?_
    refine l_vg (by first | exact (r_move (v := iV _) rfl) | exact (r_move rfl)) rfl (rfl) ?_
    refine l_vg (r_eqli rfl rfl) rfl (rfl) ?_
    refine l_v (r_pick_t rfl rfl rfl) ?_
    refine l_v (by first | exact (r_move (v := bV _) rfl) | exact (r_move rfl)) ?_
    refine l_vg (by first | exact (r_move (v := iV _) rfl) | exact (r_move rfl)) rfl (rfl) ?_
    refine l_vg (r_eqli rfl rfl) rfl (rfl) ?_
    refine l_v (r_pick_t rfl rfl rfl) ?_
    refine l_v (by first | exact (r_move (v := bV _) rfl) | exact (r_move rfl)) ?_
    refine l_vg (by first | exact (r_move (v := iV _) rfl) | exact (r_move rfl)) rfl (rfl) ?_
    refine l_vg (r_eqli rfl rfl) rfl (rfl) ?_
    refine l_v (r_pick_t rfl rfl rfl) ?_
    refine l_v (by first | exact (r_move (v := bV _) rfl) | exact (r_move rfl)) ?_
    refine l_vg (by first | exact (r_move (v := iV _) rfl) | exact (r_move rfl)) rfl (rfl) ?_
    refine l_vg (r_eqli rfl rfl) rfl (rfl) ?_
    refine l_v (r_pick_t rfl rfl rfl) ?_
    refine l_v (by first | exact (r_move (v := bV _) rfl) | exact (r_move rfl)) ?_
    refine l_vg (r_move (v := .pointer _) rfl) rfl (rfl) ?_
    refine l_callg (r_call Try.func24 rfl rfl) rfl (rfl) ?_
    refine Calls.mono (files_nil _) ?_
    rintro e w_ ⟨rfl, hw1⟩
    refine ⟨_, rfl, ?_⟩
    rw [hw1]
    refine l_vg (r_len_l Try.underlying47 rfl) rfl (rfl) ?_
    refine l_vg (r_eqli rfl rfl) rfl (rfl) ?_
    refine l_v (r_pick_t rfl rfl rfl) ?_
    refine l_v (by first | exact (r_move (v := bV _) rfl) | exact (r_move rfl)) ?_
    refine l_vg (r_move (v := .pointer _) rfl) rfl (rfl) ?_
    refine l_callg (r_call Try.func19 rfl rfl) rfl (rfl) ?_
    refine Calls.mono (root_nil _) ?_
    rintro e w_ ⟨rfl, hw2⟩
    refine ⟨_, rfl, ?_⟩
    rw [hw2]
    refine l_vg (r_move (v := .pointer _) rfl) rfl (rfl) ?_
    refine l_callg (r_call Try.func22 rfl rfl) rfl (rfl) ?_
    refine Calls.mono (steps_nil _) ?_
    rintro e w_ ⟨rfl, hw3⟩
    refine ⟨_, rfl, ?_⟩
    rw [hw3]
    refine l_vg (r_addi rfl rfl (by omega)) rfl (rfl) ?_
    refine l_vg (r_move (v := .pointer _) rfl) rfl (rfl) ?_
    refine l_callg (r_call Try.func23 rfl rfl) rfl (rfl) ?_
    refine Calls.mono (used_nil 0 _) ?_
    rintro e w_ ⟨rfl, hw4⟩
    refine ⟨_, rfl, ?_⟩
    rw [hw4]
    refine l_vg (r_addi rfl rfl (by omega)) rfl (rfl) ?_
    refine l_vg (r_move (v := .pointer _) rfl) rfl (rfl) ?_
    refine l_callg (r_call Try.func23 rfl rfl) rfl (rfl) ?_
    refine Calls.mono (used_nil 1 _) ?_
    rintro e w_ ⟨rfl, hw5⟩
    refine ⟨_, rfl, ?_⟩
    rw [hw5]
    refine l_vg (r_addi rfl rfl (by omega)) rfl (rfl) ?_
    refine l_vg (r_move (v := .pointer _) rfl) rfl (rfl) ?_
    refine l_callg (r_call Try.func26 rfl rfl) rfl (rfl) ?_
    refine Calls.mono (room_nil 0 _) ?_
    rintro e w_ ⟨rfl, hw6⟩
    refine ⟨_, rfl, ?_⟩
    rw [hw6]
    refine l_vg (r_addi rfl rfl (by omega)) rfl (rfl) ?_
    refine l_vg (r_eqli rfl rfl) rfl (rfl) ?_
    refine l_v (r_pick_t rfl rfl rfl) ?_
    refine l_v (by first | exact (r_move (v := bV _) rfl) | exact (r_move rfl)) ?_
    refine l_vg (r_move (v := .pointer _) rfl) rfl (rfl) ?_
    refine l_callg (r_call Try.func18 rfl rfl) rfl (rfl) ?_
    refine Calls.mono (down_nil _) ?_
    rintro e w_ ⟨rfl, hw7⟩
    refine ⟨_, rfl, ?_⟩
    rw [hw7]
    refine l_v (r_pick_t rfl rfl rfl) ?_
    refine l_v (by first | exact (r_assign (v := bV _) rfl) | exact (r_assign rfl)) ?_
    refine l_nil (nrm_then ?_)
    refine c_ret ?_
    show Fin _ _ _ _ _
    refine fin1 rfl ?_
    exact ⟨rfl, hs.below⟩
  · rw [if_neg hk]
    by_cases hk1 : o.kind ≥ 1
    · have f42 : decide (o.kind ≥ 1) = true := decide_eq_true hk1
      have f46 : decide (o.kind ≤ 5) = false := decide_eq_false (fun h => hk ⟨hk1, h⟩)
      have f48 : (decide ((0 : Int) = 8) == decide (o.kind ≤ 5)) = true := by rw [f46]; rfl
      refine l_v (by first | exact (r_move (v := bV _) rfl) | exact (r_move rfl)) ?_
      refine l_vg (by first | exact (r_move (v := iV _) rfl) | exact (r_move rfl)) rfl (rfl) ?_
      refine l_vg (r_eqli rfl rfl) rfl (rfl) ?_
      refine l_vg (by first | exact (r_fieldAddr0 (off := 0) (T := 3) (by kernel_rfl) rfl) | exact (r_fieldAddr (off := 0) (T := 3) (by kernel_rfl) rfl)) rfl (rfl) ?_
      refine l_vg (r_load_at (i := 0) hs rfl Try.underlying3 rfl rfl) rfl (rfl) ?_
      refine l_vg (r_geqi rfl rfl) rfl (rfl) ?_
      refine l_vg (by first | exact (r_move (v := bV _) rfl) | exact (r_move rfl)) rfl (rfl) ?_
      refine l_vg (by first | exact (r_fieldAddr0 (off := 0) (T := 3) (by kernel_rfl) rfl) | exact (r_fieldAddr (off := 0) (T := 3) (by kernel_rfl) rfl)) rfl (f42) ?_
      refine l_vg (r_load_at (i := 0) hs rfl Try.underlying3 rfl rfl) rfl (f42) ?_
      refine l_vg (r_leqi rfl rfl) rfl (f42) ?_
      refine l_vg (r_pick_t rfl f42 rfl) rfl (rfl) ?_
      refine l_vg (r_eqlb Try.underlying4 rfl rfl) rfl (rfl) ?_
      refine l_v (r_pick_t rfl rfl rfl) ?_
      refine l_v (by first | exact (r_move (v := bV _) rfl) | exact (r_move rfl)) ?_
      refine l_vg (by first | exact (r_move (v := sV _) rfl) | exact (r_move rfl)) rfl (f48) ?_
      refine l_vg (r_eqls rfl rfl) rfl (f48) ?_
      refine l_v (r_pick_t rfl f48 rfl) ?_
      refine l_v (by first | exact (r_move (v := bV _) rfl) | exact (r_move rfl)) ?_
      refine l_vg (by first | exact (r_move (v := iV _) rfl) | exact (r_move rfl)) rfl (rfl) ?_
      refine l_vg (r_eqli rfl rfl) rfl (rfl) ?_
      refine l_v (r_pick_t rfl rfl rfl) ?_
      refine l_v (by first | exact (r_move (v := bV _) rfl) | exact (r_move rfl)) ?_
      refine l_vg (by first | exact (r_move (v := iV _) rfl) | exact (r_move rfl)) rfl (rfl) ?_
      refine l_vg (r_eqli rfl rfl) rfl (rfl) ?_
      refine l_v (r_pick_t rfl rfl rfl) ?_
      refine l_v (by first | exact (r_move (v := bV _) rfl) | exact (r_move rfl)) ?_
      refine l_vg (by first | exact (r_move (v := iV _) rfl) | exact (r_move rfl)) rfl (rfl) ?_
      refine l_vg (r_eqli rfl rfl) rfl (rfl) ?_
      refine l_v (r_pick_t rfl rfl rfl) ?_
      refine l_v (by first | exact (r_move (v := bV _) rfl) | exact (r_move rfl)) ?_
      refine l_vg (by first | exact (r_move (v := iV _) rfl) | exact (r_move rfl)) rfl (rfl) ?_
      refine l_vg (r_eqli rfl rfl) rfl (rfl) ?_
      refine l_v (r_pick_t rfl rfl rfl) ?_
      refine l_v (by first | exact (r_move (v := bV _) rfl) | exact (r_move rfl)) ?_
      refine l_vg (r_move (v := .pointer _) rfl) rfl (rfl) ?_
      refine l_callg (r_call Try.func24 rfl rfl) rfl (rfl) ?_
      refine Calls.mono (files_nil _) ?_
      rintro e w_ ⟨rfl, hw1⟩
      refine ⟨_, rfl, ?_⟩
      rw [hw1]
      refine l_vg (r_len_l Try.underlying47 rfl) rfl (rfl) ?_
      refine l_vg (r_eqli rfl rfl) rfl (rfl) ?_
      refine l_v (r_pick_t rfl rfl rfl) ?_
      refine l_v (by first | exact (r_move (v := bV _) rfl) | exact (r_move rfl)) ?_
      refine l_vg (r_move (v := .pointer _) rfl) rfl (rfl) ?_
      refine l_callg (r_call Try.func19 rfl rfl) rfl (rfl) ?_
      refine Calls.mono (root_nil _) ?_
      rintro e w_ ⟨rfl, hw2⟩
      refine ⟨_, rfl, ?_⟩
      rw [hw2]
      refine l_vg (r_move (v := .pointer _) rfl) rfl (rfl) ?_
      refine l_callg (r_call Try.func22 rfl rfl) rfl (rfl) ?_
      refine Calls.mono (steps_nil _) ?_
      rintro e w_ ⟨rfl, hw3⟩
      refine ⟨_, rfl, ?_⟩
      rw [hw3]
      refine l_vg (r_addi rfl rfl (by omega)) rfl (rfl) ?_
      refine l_vg (r_move (v := .pointer _) rfl) rfl (rfl) ?_
      refine l_callg (r_call Try.func23 rfl rfl) rfl (rfl) ?_
      refine Calls.mono (used_nil 0 _) ?_
      rintro e w_ ⟨rfl, hw4⟩
      refine ⟨_, rfl, ?_⟩
      rw [hw4]
      refine l_vg (r_addi rfl rfl (by omega)) rfl (rfl) ?_
      refine l_vg (r_move (v := .pointer _) rfl) rfl (rfl) ?_
      refine l_callg (r_call Try.func23 rfl rfl) rfl (rfl) ?_
      refine Calls.mono (used_nil 1 _) ?_
      rintro e w_ ⟨rfl, hw5⟩
      refine ⟨_, rfl, ?_⟩
      rw [hw5]
      refine l_vg (r_addi rfl rfl (by omega)) rfl (rfl) ?_
      refine l_vg (r_move (v := .pointer _) rfl) rfl (rfl) ?_
      refine l_callg (r_call Try.func26 rfl rfl) rfl (rfl) ?_
      refine Calls.mono (room_nil 0 _) ?_
      rintro e w_ ⟨rfl, hw6⟩
      refine ⟨_, rfl, ?_⟩
      rw [hw6]
      refine l_vg (r_addi rfl rfl (by omega)) rfl (rfl) ?_
      refine l_vg (r_eqli rfl rfl) rfl (rfl) ?_
      refine l_v (r_pick_t rfl rfl rfl) ?_
      refine l_v (by first | exact (r_move (v := bV _) rfl) | exact (r_move rfl)) ?_
      refine l_vg (r_move (v := .pointer _) rfl) rfl (rfl) ?_
      refine l_callg (r_call Try.func18 rfl rfl) rfl (rfl) ?_
      refine Calls.mono (down_nil _) ?_
      rintro e w_ ⟨rfl, hw7⟩
      refine ⟨_, rfl, ?_⟩
      rw [hw7]
      refine l_v (r_pick_t rfl rfl rfl) ?_
      refine l_v (by first | exact (r_assign (v := bV _) rfl) | exact (r_assign rfl)) ?_
      refine l_nil (nrm_then ?_)
      refine c_ret ?_
      show Fin _ _ _ _ _
      refine fin1 rfl ?_
      exact ⟨rfl, hs.below⟩
    · have f42 : decide (o.kind ≥ 1) = false := decide_eq_false hk1
      have f48 : (decide ((0 : Int) = 8) == false) = true := rfl
      refine l_v (by first | exact (r_move (v := bV _) rfl) | exact (r_move rfl)) ?_
      refine l_vg (by first | exact (r_move (v := iV _) rfl) | exact (r_move rfl)) rfl (rfl) ?_
      refine l_vg (r_eqli rfl rfl) rfl (rfl) ?_
      refine l_vg (by first | exact (r_fieldAddr0 (off := 0) (T := 3) (by kernel_rfl) rfl) | exact (r_fieldAddr (off := 0) (T := 3) (by kernel_rfl) rfl)) rfl (rfl) ?_
      refine l_vg (r_load_at (i := 0) hs rfl Try.underlying3 rfl rfl) rfl (rfl) ?_
      refine l_vg (r_geqi rfl rfl) rfl (rfl) ?_
      refine l_vg (by first | exact (r_move (v := bV _) rfl) | exact (r_move rfl)) rfl (rfl) ?_
      refine l_no rfl (f42) ?_
      refine l_no rfl (f42) ?_
      refine l_no rfl (f42) ?_
      refine l_vg (r_pick_f rfl f42 rfl) rfl (rfl) ?_
      refine l_vg (r_eqlb Try.underlying4 rfl rfl) rfl (rfl) ?_
      refine l_v (r_pick_t rfl rfl rfl) ?_
      refine l_v (by first | exact (r_move (v := bV _) rfl) | exact (r_move rfl)) ?_
      refine l_vg (by first | exact (r_move (v := sV _) rfl) | exact (r_move rfl)) rfl (f48) ?_
      refine l_vg (r_eqls rfl rfl) rfl (f48) ?_
      refine l_v (r_pick_t rfl f48 rfl) ?_
      refine l_v (by first | exact (r_move (v := bV _) rfl) | exact (r_move rfl)) ?_
      refine l_vg (by first | exact (r_move (v := iV _) rfl) | exact (r_move rfl)) rfl (rfl) ?_
      refine l_vg (r_eqli rfl rfl) rfl (rfl) ?_
      refine l_v (r_pick_t rfl rfl rfl) ?_
      refine l_v (by first | exact (r_move (v := bV _) rfl) | exact (r_move rfl)) ?_
      refine l_vg (by first | exact (r_move (v := iV _) rfl) | exact (r_move rfl)) rfl (rfl) ?_
      refine l_vg (r_eqli rfl rfl) rfl (rfl) ?_
      refine l_v (r_pick_t rfl rfl rfl) ?_
      refine l_v (by first | exact (r_move (v := bV _) rfl) | exact (r_move rfl)) ?_
      refine l_vg (by first | exact (r_move (v := iV _) rfl) | exact (r_move rfl)) rfl (rfl) ?_
      refine l_vg (r_eqli rfl rfl) rfl (rfl) ?_
      refine l_v (r_pick_t rfl rfl rfl) ?_
      refine l_v (by first | exact (r_move (v := bV _) rfl) | exact (r_move rfl)) ?_
      refine l_vg (by first | exact (r_move (v := iV _) rfl) | exact (r_move rfl)) rfl (rfl) ?_
      refine l_vg (r_eqli rfl rfl) rfl (rfl) ?_
      refine l_v (r_pick_t rfl rfl rfl) ?_
      refine l_v (by first | exact (r_move (v := bV _) rfl) | exact (r_move rfl)) ?_
      refine l_vg (r_move (v := .pointer _) rfl) rfl (rfl) ?_
      refine l_callg (r_call Try.func24 rfl rfl) rfl (rfl) ?_
      refine Calls.mono (files_nil _) ?_
      rintro e w_ ⟨rfl, hw1⟩
      refine ⟨_, rfl, ?_⟩
      rw [hw1]
      refine l_vg (r_len_l Try.underlying47 rfl) rfl (rfl) ?_
      refine l_vg (r_eqli rfl rfl) rfl (rfl) ?_
      refine l_v (r_pick_t rfl rfl rfl) ?_
      refine l_v (by first | exact (r_move (v := bV _) rfl) | exact (r_move rfl)) ?_
      refine l_vg (r_move (v := .pointer _) rfl) rfl (rfl) ?_
      refine l_callg (r_call Try.func19 rfl rfl) rfl (rfl) ?_
      refine Calls.mono (root_nil _) ?_
      rintro e w_ ⟨rfl, hw2⟩
      refine ⟨_, rfl, ?_⟩
      rw [hw2]
      refine l_vg (r_move (v := .pointer _) rfl) rfl (rfl) ?_
      refine l_callg (r_call Try.func22 rfl rfl) rfl (rfl) ?_
      refine Calls.mono (steps_nil _) ?_
      rintro e w_ ⟨rfl, hw3⟩
      refine ⟨_, rfl, ?_⟩
      rw [hw3]
      refine l_vg (r_addi rfl rfl (by omega)) rfl (rfl) ?_
      refine l_vg (r_move (v := .pointer _) rfl) rfl (rfl) ?_
      refine l_callg (r_call Try.func23 rfl rfl) rfl (rfl) ?_
      refine Calls.mono (used_nil 0 _) ?_
      rintro e w_ ⟨rfl, hw4⟩
      refine ⟨_, rfl, ?_⟩
      rw [hw4]
      refine l_vg (r_addi rfl rfl (by omega)) rfl (rfl) ?_
      refine l_vg (r_move (v := .pointer _) rfl) rfl (rfl) ?_
      refine l_callg (r_call Try.func23 rfl rfl) rfl (rfl) ?_
      refine Calls.mono (used_nil 1 _) ?_
      rintro e w_ ⟨rfl, hw5⟩
      refine ⟨_, rfl, ?_⟩
      rw [hw5]
      refine l_vg (r_addi rfl rfl (by omega)) rfl (rfl) ?_
      refine l_vg (r_move (v := .pointer _) rfl) rfl (rfl) ?_
      refine l_callg (r_call Try.func26 rfl rfl) rfl (rfl) ?_
      refine Calls.mono (room_nil 0 _) ?_
      rintro e w_ ⟨rfl, hw6⟩
      refine ⟨_, rfl, ?_⟩
      rw [hw6]
      refine l_vg (r_addi rfl rfl (by omega)) rfl (rfl) ?_
      refine l_vg (r_eqli rfl rfl) rfl (rfl) ?_
      refine l_v (r_pick_t rfl rfl rfl) ?_
      refine l_v (by first | exact (r_move (v := bV _) rfl) | exact (r_move rfl)) ?_
      refine l_vg (r_move (v := .pointer _) rfl) rfl (rfl) ?_
      refine l_callg (r_call Try.func18 rfl rfl) rfl (rfl) ?_
      refine Calls.mono (down_nil _) ?_
      rintro e w_ ⟨rfl, hw7⟩
      refine ⟨_, rfl, ?_⟩
      rw [hw7]
      refine l_v (r_pick_t rfl rfl rfl) ?_
      refine l_v (by first | exact (r_assign (v := bV _) rfl) | exact (r_assign rfl)) ?_
      refine l_nil (nrm_then ?_)
      refine c_ret ?_
      show Fin _ _ _ _ _
      refine fin1 rfl ?_
      exact ⟨rfl, hs.below⟩
end Go.Proofs.Ytnneoipoaoefkaa.Dsk
