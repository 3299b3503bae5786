/- The walks of Drop, Point, Arm, Root, Steps, Down, Used. -/
import Derived.Test.YtlkljeghhahedaaDskAdd
import Derived.Test.YtlkljeghhahedaaIter
namespace Go.Proofs.Ytlkljeghhahedaa.Dsk
open Go Go.RowKit Go.Proofs.Ytlkljeghhahedaa.Eng
set_option linter.unusedVariables false
set_option maxRecDepth 100000
def dropS (S : DiskS) (n : Int) : DiskS × Int :=
  match S.get n with
  | none => (S, findE S n)
  | some x => if findE S n ≠ 0 then (S, findE S n) else if n = S.root then (S, 11) else
    if stepOk S = true then (setUsed (setFiles (stepS S) (fdel S.files n)) x.tier (S.used x.tier - (blocksN x.data.length : Int)), 0) else (stepS S, 8)
def setRoot (S : DiskS) (n : Int) : DiskS := { S with root := n }
def pointS (S : DiskS) (n : Int) : DiskS × Int :=
  match S.get n with
  | none => (S, findE S n)
  | some x => if findE S n ≠ 0 then (S, findE S n) else if x.sure < (x.data.length : Int) then (S, 11) else
    if stepOk S = true then (setRoot (stepS S) n, 0) else (stepS S, 8)
def armS (S : DiskS) (n : Int) : DiskS := { S with fuse := if n < -1 then -1 else n }
theorem drop_no {S : DiskS} {n : Int} (h : findE S n ≠ 0) : dropS S n = (S, findE S n) := by unfold dropS; cases S.get n with
  | none => rfl
  | some x => exact if_pos h
theorem drop_yes {S : DiskS} {n : Int} {x : FileS} (h : findE S n = 0) (hx : S.get n = some x) : dropS S n = if n = S.root then (S, 11) else
    if stepOk S = true then (setUsed (setFiles (stepS S) (fdel S.files n)) x.tier (S.used x.tier - (blocksN x.data.length : Int)), 0) else (stepS S, 8) := by unfold dropS; rw [hx]; exact if_neg (fun h' => h' h)
theorem point_no {S : DiskS} {n : Int} (h : findE S n ≠ 0) : pointS S n = (S, findE S n) := by unfold pointS; cases S.get n with
  | none => rfl
  | some x => exact if_pos h
theorem point_yes {S : DiskS} {n : Int} {x : FileS} (h : findE S n = 0) (hx : S.get n = some x) : pointS S n = if x.sure < (x.data.length : Int) then (S, 11) else
    if stepOk S = true then (setRoot (stepS S) n, 0) else (stepS S, 8) := by unfold pointS; rw [hx]; exact if_neg (fun h' => h' h)
theorem mapF_del {l : List (Int × FileS)} {p : Int → Nat} {n : Int} : mapF (fdel l n) p = mdel (mapF l p) (iV n) := by
  funext k
  by_cases hk : k = iV n
  · rw [hk, mdel_same]
    show (if (fget (fdel l n) n).isSome = true then _ else none) = _
    rw [fget_del, if_pos rfl]; rfl
  · rw [mdel_other _ _ hk]
    unfold mapF
    split
    · rename_i m
      have e : m ≠ n := fun e => hk (by rw [e])
      rw [fget_del, if_neg e]
    · rfl
theorem arm_c (b : Nat) (S : DiskS) (n : Int) (w0 w : World) (R : List HP) (hs : Eng.Sep w0 w (diskH b S :: R)) :
    Calls Try.prog 51 #[dp b, iV n] w fun e w' => (∃ v, e = .returned v) ∧ Eng.Sep w0 w' (diskH b (armS S n) :: R) := by
  obtain ⟨bm, p, hs⟩ := disk_open hs
  have hs : Eng.Sep w0 w (blk b [.map (some bm), iV (S.room 0), iV (S.room 1), iV (S.used 0), iV (S.used 1), iV S.root, iV S.steps, iV S.fuse, bV S.down] 83 :: mapD bm S.files p :: (filesH S.files p ++ R)) := hs
  refine enter (P := Try.prog) Try.func51 rfl rfl ?_
  refine c_rseq ?_
  refine l_v (r_move (v := .pointer _) rfl) ?_
  refine l_v (by first | exact (r_neqp_some Try.underlying36 rfl rfl) | exact (r_neqp_none Try.underlying36 rfl rfl)) ?_
  refine l_nil (nrm_then ?_)
  refine c_true rfl (rfl) ?_
  refine c_region ?_
  refine l_v (r_move (v := .pointer _) rfl) ?_
  refine l_v (by first | exact (r_move (v := iV _) rfl) | exact (r_move rfl)) ?_
  refine l_v (r_max rfl rfl) ?_
  refine l_v (by first | exact (r_nilCheck_p rfl) | exact (r_nilCheck_f rfl)) ?_
  refine l_v (by first | exact (r_fieldAddr0 (off := 7) (T := 3) (by kernel_rfl) rfl) | exact (r_fieldAddr (off := 7) (T := 3) (by kernel_rfl) rfl)) ?_
  first | refine l_store (i := 0) (v := iV _) hs rfl I3 rfl rfl (by first | (simp; done) | (simp; omega) | omega) ?_ | refine l_store (i := 1) (v := iV _) hs rfl I3 rfl rfl (by first | (simp; done) | (simp; omega) | omega) ?_ | refine l_store (i := 2) (v := iV _) hs rfl I3 rfl rfl (by first | (simp; done) | (simp; omega) | omega) ?_ | refine l_store (i := 3) (v := iV _) hs rfl I3 rfl rfl (by first | (simp; done) | (simp; omega) | omega) ?_ | refine l_store (i := 4) (v := iV _) hs rfl I3 rfl rfl (by first | (simp; done) | (simp; omega) | omega) ?_ | refine l_store (i := 5) (v := iV _) hs rfl I3 rfl rfl (by first | (simp; done) | (simp; omega) | omega) ?_ | refine l_store (i := 6) (v := iV _) hs rfl I3 rfl rfl (by first | (simp; done) | (simp; omega) | omega) ?_
  intro w_ hs
  refine l_nil ?_
  show Fin _ _ _ _ _
  refine fin0 rfl ?_
  exact ⟨⟨_, rfl⟩, disk_shut (S := armS S n) (bm := bm) (p := p) hs⟩
theorem steps_c (b : Nat) (S : DiskS) (w0 w : World) (R : List HP) (hs : Eng.Sep w0 w (diskH b S :: R)) :
    Calls Try.prog 49 #[dp b] w fun e w' => e = .returned (iV S.steps) ∧ w' = w := by
  obtain ⟨bm, p, hs⟩ := disk_open hs
  have hs : Eng.Sep w0 w (blk b [.map (some bm), iV (S.room 0), iV (S.room 1), iV (S.used 0), iV (S.used 1), iV S.root, iV S.steps, iV S.fuse, bV S.down] 83 :: mapD bm S.files p :: (filesH S.files p ++ R)) := hs
  refine enter (P := Try.prog) Try.func49 rfl rfl ?_
  refine c_rseq ?_
  refine l_v (by first | exact (r_assign (v := iV _) rfl) | exact (r_assign rfl)) ?_
  refine l_nil (nrm_then ?_)
  refine c_seq ?_
  refine c_rseq ?_
  refine l_v (r_move (v := .pointer _) rfl) ?_
  refine l_v (by first | exact (r_eqlp_some Try.underlying36 rfl rfl) | exact (r_eqlp_none Try.underlying36 rfl rfl)) ?_
  refine l_nil (nrm_then ?_)
  refine c_false rfl (rfl) ?_
  refine c_skip (nrm_then ?_)
  refine c_rseq ?_
  refine l_v (r_move (v := .pointer _) rfl) ?_
  refine l_v (by first | exact (r_nilCheck_p rfl) | exact (r_nilCheck_f rfl)) ?_
  refine l_v (by first | exact (r_fieldAddr0 (off := 6) (T := 3) (by kernel_rfl) rfl) | exact (r_fieldAddr (off := 6) (T := 3) (by kernel_rfl) rfl)) ?_
  refine l_v (by first | exact (r_load_at (i := 0) hs rfl Try.underlying3 rfl rfl) | exact (r_load_at (i := 1) hs rfl Try.underlying3 rfl rfl) | exact (r_load_at (i := 2) hs rfl Try.underlying3 rfl rfl) | exact (r_load_at (i := 3) hs rfl Try.underlying3 rfl rfl) | exact (r_load_at (i := 4) hs rfl Try.underlying3 rfl rfl) | exact (r_load_at (i := 5) hs rfl Try.underlying3 rfl rfl) | exact (r_load_at (i := 6) hs rfl Try.underlying3 rfl rfl)) ?_
  refine l_v (by first | exact (r_assign (v := iV _) rfl) | exact (r_assign rfl)) ?_
  refine l_nil (nrm_then ?_)
  refine c_ret ?_
  show Fin _ _ _ _ _
  refine fin1 rfl ?_
  exact ⟨rfl, rfl⟩
theorem down_c (b : Nat) (S : DiskS) (w0 w : World) (R : List HP) (hs : Eng.Sep w0 w (diskH b S :: R)) :
    Calls Try.prog 50 #[dp b] w fun e w' => e = .returned (bV S.down) ∧ w' = w := by
  obtain ⟨bm, p, hs⟩ := disk_open hs
  have hs : Eng.Sep w0 w (blk b [.map (some bm), iV (S.room 0), iV (S.room 1), iV (S.used 0), iV (S.used 1), iV S.root, iV S.steps, iV S.fuse, bV S.down] 83 :: mapD bm S.files p :: (filesH S.files p ++ R)) := hs
  refine enter (P := Try.prog) Try.func50 rfl rfl ?_
  refine c_rseq ?_
  refine l_v (by first | exact (r_assign (v := bV _) rfl) | exact (r_assign rfl)) ?_
  refine l_nil (nrm_then ?_)
  refine c_rseq ?_
  refine l_v (r_move (v := .pointer _) rfl) ?_
  refine l_v (by first | exact (r_eqlp_some Try.underlying36 rfl rfl) | exact (r_eqlp_none Try.underlying36 rfl rfl)) ?_
  refine l_v (by first | exact (r_move (v := bV _) rfl) | exact (r_move rfl)) ?_
  refine l_vg (r_move (v := .pointer _) rfl) rfl (rfl) ?_
  refine l_vg (by first | exact (r_nilCheck_p rfl) | exact (r_nilCheck_f rfl)) rfl (rfl) ?_
  refine l_vg (by first | exact (r_fieldAddr0 (off := 8) (T := 4) (by kernel_rfl) rfl) | exact (r_fieldAddr (off := 8) (T := 4) (by kernel_rfl) rfl)) rfl (rfl) ?_
  refine l_vg (by first | exact (r_load_at (i := 0) hs rfl Try.underlying4 rfl rfl) | exact (r_load_at (i := 1) hs rfl Try.underlying4 rfl rfl) | exact (r_load_at (i := 2) hs rfl Try.underlying4 rfl rfl) | exact (r_load_at (i := 3) hs rfl Try.underlying4 rfl rfl) | exact (r_load_at (i := 4) hs rfl Try.underlying4 rfl rfl) | exact (r_load_at (i := 5) hs rfl Try.underlying4 rfl rfl) | exact (r_load_at (i := 6) hs rfl Try.underlying4 rfl rfl)) rfl (rfl) ?_
  refine l_v (r_pick_f rfl rfl rfl) ?_
  refine l_v (by first | exact (r_assign (v := bV _) rfl) | exact (r_assign rfl)) ?_
  refine l_nil (nrm_then ?_)
  refine c_ret ?_
  show Fin _ _ _ _ _
  refine fin1 rfl ?_
  exact ⟨rfl, rfl⟩
end Go.Proofs.Ytlkljeghhahedaa.Dsk
