/- Clear and File of a log that is there. -/
import Derived.Test.YtlkljeghhahedaaWalLog
namespace Go.Proofs.Ytlkljeghhahedaa.Wal
open Go Go.RowKit Go.Proofs.Ytlkljeghhahedaa.Eng Go.Proofs.Ytlkljeghhahedaa.Six Go.Proofs.Ytlkljeghhahedaa.CrcFn Go.Proofs.Ytlkljeghhahedaa.Dsk
set_option linter.unusedVariables false
set_option maxRecDepth 100000
theorem lclear_c (bl b : Nat) (file : Int) (ts : List (List UInt8)) (wr su : Int) (w0 w : World) (R : List HP) (hs : Eng.Sep w0 w (logH bl b file ts wr su :: R)) :
    Calls Try.prog 29 #[dp bl] w fun e w' => (∃ v, e = .returned v) ∧ Eng.Sep w0 w' (logH bl b file [] wr su :: R) := by
  obtain ⟨v, hs⟩ := log_open hs
  obtain ⟨A, c, rfl, hc⟩ := (hs.pull 1).rowForm
  refine enter (P := Try.prog) Try.func29 rfl rfl ?_
  refine c_rseq ?_
  refine l_v (r_move (v := .pointer _) rfl) ?_
  refine l_v (by first | exact (r_neqp_some Try.underlying46 rfl rfl) | exact (r_neqp_none Try.underlying46 rfl rfl)) ?_
  refine l_nil (nrm_then ?_)
  refine c_true rfl (rfl) ?_
  refine c_region ?_
  refine l_v (r_move (v := .pointer _) rfl) ?_
  refine l_v (by first | exact (r_nilCheck_p rfl) | exact (r_nilCheck_f rfl)) ?_
  refine l_v (by first | exact (r_fieldAddr0 (off := 2) (T := 22) (by kernel_rfl) rfl) | exact (r_fieldAddr (off := 2) (T := 22) (by kernel_rfl) rfl)) ?_
  first | refine l_store (i := 0) (v := .slice _ _ _) hs rfl I22 rfl rfl (by first | (simp; done) | (simp; omega) | omega) ?_ | refine l_store (i := 1) (v := .slice _ _ _) hs rfl I22 rfl rfl (by first | (simp; done) | (simp; omega) | omega) ?_ | refine l_store (i := 2) (v := .slice _ _ _) hs rfl I22 rfl rfl (by first | (simp; done) | (simp; omega) | omega) ?_ | refine l_store (i := 3) (v := .slice _ _ _) hs rfl I22 rfl rfl (by first | (simp; done) | (simp; omega) | omega) ?_ | refine l_store (i := 4) (v := .slice _ _ _) hs rfl I22 rfl rfl (by first | (simp; done) | (simp; omega) | omega) ?_ | refine l_store (i := 5) (v := .slice _ _ _) hs rfl I22 rfl rfl (by first | (simp; done) | (simp; omega) | omega) ?_ | refine l_store (i := 6) (v := .slice _ _ _) hs rfl I22 rfl rfl (by first | (simp; done) | (simp; omega) | omega) ?_
  intro w_ hs
  refine l_nil ?_
  show Fin _ _ _ _ _
  refine fin0 rfl ?_
  exact ⟨⟨_, rfl⟩, log_shut (ts := []) ((Eng.Sep.rowNil (hs.pull 1).drop 9 1).pull 1)⟩
theorem lfile_c (bl b : Nat) (file : Int) (ts : List (List UInt8)) (wr su : Int) (w0 w : World) (R : List HP) (hs : Eng.Sep w0 w (logH bl b file ts wr su :: R)) :
    Calls Try.prog 30 #[dp bl] w fun e w' => e = .returned (iV file) ∧ w' = w := by
  obtain ⟨v, hs⟩ := log_open hs
  refine enter (P := Try.prog) Try.func30 rfl rfl ?_
  refine c_rseq ?_
  refine l_v (by first | exact (r_assign (v := iV _) rfl) | exact (r_assign rfl)) ?_
  refine l_nil (nrm_then ?_)
  refine c_seq ?_
  refine c_rseq ?_
  refine l_v (r_move (v := .pointer _) rfl) ?_
  refine l_v (by first | exact (r_eqlp_some Try.underlying46 rfl rfl) | exact (r_eqlp_none Try.underlying46 rfl rfl)) ?_
  refine l_nil (nrm_then ?_)
  refine c_false rfl (rfl) ?_
  refine c_skip (nrm_then ?_)
  refine c_rseq ?_
  refine l_v (r_move (v := .pointer _) rfl) ?_
  refine l_v (by first | exact (r_nilCheck_p rfl) | exact (r_nilCheck_f rfl)) ?_
  refine l_v (by first | exact (r_fieldAddr0 (off := 1) (T := 3) (by kernel_rfl) rfl) | exact (r_fieldAddr (off := 1) (T := 3) (by kernel_rfl) rfl)) ?_
  refine l_v (by first | exact (r_load_at (i := 0) hs rfl Try.underlying3 rfl rfl) | exact (r_load_at (i := 1) hs rfl Try.underlying3 rfl rfl) | exact (r_load_at (i := 2) hs rfl Try.underlying3 rfl rfl) | exact (r_load_at (i := 3) hs rfl Try.underlying3 rfl rfl) | exact (r_load_at (i := 4) hs rfl Try.underlying3 rfl rfl) | exact (r_load_at (i := 5) hs rfl Try.underlying3 rfl rfl) | exact (r_load_at (i := 6) hs rfl Try.underlying3 rfl rfl)) ?_
  refine l_v (by first | exact (r_assign (v := iV _) rfl) | exact (r_assign rfl)) ?_
  refine l_nil (nrm_then ?_)
  refine c_ret ?_
  show Fin _ _ _ _ _
  refine fin1 rfl ?_
  exact ⟨rfl, rfl⟩
end Go.Proofs.Ytlkljeghhahedaa.Wal
