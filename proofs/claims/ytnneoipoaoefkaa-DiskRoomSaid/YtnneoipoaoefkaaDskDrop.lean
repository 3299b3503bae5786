/- The walks of Drop, Point, Arm, Root, Steps, Down, Used. -/
import Derived.Test.YtnneoipoaoefkaaDskAdd
import Derived.Test.YtnneoipoaoefkaaIter
namespace Go.Proofs.Ytnneoipoaoefkaa.Dsk
open Go Go.RowKit Go.Proofs.Ytnneoipoaoefkaa.Eng
set_option linter.unusedVariables false
set_option maxRecDepth 100000
def dropS (S : DiskS) (n : Int) : DiskS × Int :=
  match S.get n with
  | none => (S, findE S n)
  | some x => if findE S n ≠ 0 then (S, findE S n) else if n = S.root then (S, 11) else
    if stepOk S = true then (setUsed (setFiles (stepS S) (fdel S.files n)) x.tier (S.used x.tier - (blocksN x.data.length : Int)), 0) else (stepS S, 8)
def setRoot (S : DiskS) (n : Int) : DiskS := { S with root := n }
def pointS (S : DiskS) (n : Int) : DiskS × Int :=
  match S.get n with
  | none => (S, findE S n)
  | some x => if findE S n ≠ 0 then (S, findE S n) else if x.sure < (x.data.length : Int) then (S, 11) else
    if stepOk S = true then (setRoot (stepS S) n, 0) else (stepS S, 8)
def armS (S : DiskS) (n : Int) : DiskS := { S with fuse := if n < -1 then -1 else n }
theorem drop_no {S : DiskS} {n : Int} (h : findE S n ≠ 0) : dropS S n = (S, findE S n) := by unfold dropS; cases S.get n with
  | none => rfl
  | some x => exact if_pos h
theorem drop_yes {S : DiskS} {n : Int} {x : FileS} (h : findE S n = 0) (hx : S.get n = some x) : dropS S n = if n = S.root then (S, 11) else
    if stepOk S = true then (setUsed (setFiles (stepS S) (fdel S.files n)) x.tier (S.used x.tier - (blocksN x.data.length : Int)), 0) else (stepS S, 8) := by unfold dropS; rw [hx]; exact if_neg (fun h' => h' h)
theorem point_no {S : DiskS} {n : Int} (h : findE S n ≠ 0) : pointS S n = (S, findE S n) := by unfold pointS; cases S.get n with
  | none => rfl
  | some x => exact if_pos h
theorem point_yes {S : DiskS} {n : Int} {x : FileS} (h : findE S n = 0) (hx : S.get n = some x) : pointS S n = if x.sure < (x.data.length : Int) then (S, 11) else
    if stepOk S = true then (setRoot (stepS S) n, 0) else (stepS S, 8) := by unfold pointS; rw [hx]; exact if_neg (fun h' => h' h)
theorem mapF_del {l : List (Int × FileS)} {p : Int → Nat} {n : Int} : mapF (fdel l n) p = mdel (mapF l p) (iV n) := by
  funext k
  by_cases hk : k = iV n
  · rw [hk, mdel_same]
    show (if (fget (fdel l n) n).isSome = true then _ else none) = _
    rw [fget_del, if_pos rfl]; rfl
  · rw [mdel_other _ _ hk]
    unfold mapF
    split
    · rename_i m
      have e : m ≠ n := fun e => hk (by rw [e])
      rw [fget_del, if_neg e]
    · rfl
set_option maxHeartbeats 8000000 in
theorem drop_c (b : Nat) (S : DiskS) (hg : GoodS S) (hst : S.steps ≤ 4611686018427387904) (n : Int) (w0 w : World) (R : List HP) (hs : Eng.Sep w0 w (diskH b S :: R)) :
    Calls Try.prog 20 #[dp b, iV n] w fun e w' => e = .returned (iV (dropS S n).2) ∧ Eng.Sep w0 w' (diskH b (dropS S n).1 :: R) := by
  obtain ⟨bm, p, hs⟩ := disk_open hs
  refine enter (P := Try.prog) Try.func20 rfl rfl ?_
  refine c_rseq ?_
  refine l_v (by first | exact (r_assign (v := iV _) rfl) | exact (r_assign rfl)) ?_
  refine l_nil (nrm_then ?_)
  refine c_rseq ?_
  refine l_v (r_move (v := .pointer _) rfl) ?_
  refine l_v (by first | exact (r_move (v := iV _) rfl) | exact (r_move rfl)) ?_
  refine l_call (r_call Try.func29 rfl rfl) ?_
  refine Calls.mono (find_c b bm S p n w0 _ _ hs) ?_
  rintro e w_ ⟨rfl, hbw⟩
  refine ⟨_, rfl, ?_⟩
  have hs := hs.below_ hbw
  refine l_v (r_move rfl) ?_
  refine l_v (r_extract rfl rfl) ?_
  refine l_v (r_extract rfl rfl) ?_
  refine l_v (r_assign (v := .pointer _) rfl) ?_
  refine l_v (by first | exact (r_assign (v := iV _) rfl) | exact (r_assign rfl)) ?_
  refine l_nil (nrm_then ?_)
  refine c_seq ?_
  refine c_block ?_
  refine c_rseq ?_
  refine l_v (by first | exact (r_move (v := iV _) rfl) | exact (r_move rfl)) ?_
  refine l_v (r_neqi rfl rfl) ?_
  refine l_v (by first | exact (r_assign (v := bV _) rfl) | exact (r_assign rfl)) ?_
  refine l_nil (nrm_then ?_)
  refine c_cond rfl (fun h1 => ?_) (fun h1 => ?_)
  · replace h1 := of_decide_eq_true h1
    refine c_rseq ?_
    refine l_v (by first | exact (r_move (v := iV _) rfl) | exact (r_move rfl)) ?_
    refine l_v (by first | exact (r_assign (v := iV _) rfl) | exact (r_assign rfl)) ?_
    refine l_nil (nrm_then ?_)
    refine c_ret (ret_block (ret_then ?_))
    show Fin _ _ _ _ _
    refine fin1 rfl ?_
    rw [drop_no h1]
    exact ⟨rfl, disk_shut hs⟩
  · have h1' : findE S n = 0 := Decidable.of_not_not (of_decide_eq_false h1)
    obtain ⟨hd, x, hx⟩ := find_zero h1'
    have hp := fptr_zero (p := p) h1'
    obtain ⟨z1, z2, z3, z4, z5, z6⟩ := hg.size hx
    rw [drop_yes h1' hx, hp]
    have hle := hg.le x.tier z2
    replace h1 := of_decide_eq_false h1
    refine c_rseq ?_
    refine l_v (by first | exact (r_move (v := iV _) rfl) | exact (r_move rfl)) ?_
    refine l_v (r_move (v := .pointer _) rfl) ?_
    refine l_v (by first | exact (r_nilCheck_p rfl) | exact (r_nilCheck_f rfl)) ?_
    refine l_v (by first | exact (r_fieldAddr0 (off := 5) (T := 3) (by kernel_rfl) rfl) | exact (r_fieldAddr (off := 5) (T := 3) (by kernel_rfl) rfl)) ?_
    refine l_v (by first | exact (r_load_at (i := 0) hs rfl Try.underlying3 rfl rfl) | exact (r_load_at (i := 1) hs rfl Try.underlying3 rfl rfl) | exact (r_load_at (i := 2) hs rfl Try.underlying3 rfl rfl) | exact (r_load_at (i := 3) hs rfl Try.underlying3 rfl rfl) | exact (r_load_at (i := 4) hs rfl Try.underlying3 rfl rfl) | exact (r_load_at (i := 5) hs rfl Try.underlying3 rfl rfl) | exact (r_load_at (i := 6) hs rfl Try.underlying3 rfl rfl)) ?_
    refine l_v (r_eqli rfl rfl) ?_
    refine l_v (by first | exact (r_assign (v := bV _) rfl) | exact (r_assign rfl)) ?_
    refine l_nil (nrm_then ?_)
    refine c_cond rfl (fun h2 => ?_) (fun h2 => ?_)
    · replace h2 := of_decide_eq_true h2
      refine c_rseq ?_
      refine l_v (by first | exact (r_assign (v := iV _) rfl) | exact (r_assign rfl)) ?_
      refine l_nil (nrm_then ?_)
      refine c_ret (ret_block (ret_then ?_))
      show Fin _ _ _ _ _
      refine fin1 rfl ?_
      rw [if_pos h2]
      exact ⟨rfl, disk_shut hs⟩
    · rw [if_neg (of_decide_eq_false h2)]
      replace h2 := of_decide_eq_false h2
      refine c_rseq ?_
      refine l_v (r_move (v := .pointer _) rfl) ?_
      refine l_call (r_call Try.func30 rfl rfl) ?_
      refine Calls.mono (step_c b bm S ⟨hg.steps, hst⟩ hg.fuse w0 _ _ hs) ?_
      rintro e w_ ⟨rfl, hs⟩
      refine ⟨_, rfl, ?_⟩
      refine l_v (r_not rfl) ?_
      refine l_v (by first | exact (r_assign (v := bV _) rfl) | exact (r_assign rfl)) ?_
      refine l_nil (nrm_then ?_)
      rcases Bool.eq_false_or_eq_true (stepOk S) with hq | hq
      · have f : (!stepOk S) = false := by rw [hq]; rfl
        rw [if_pos hq]
        obtain ⟨hsf, hsr, hsu, hst2⟩ := step_files S
        have hs := disk_file hg.nd hx hs
        obtain ⟨v, hs⟩ := file_open hs
        obtain ⟨A, c, rfl, hc⟩ := (hs.pull 1).rowForm
        refine c_false rfl (f) ?_
        refine c_skip (nrm_block (nrm_then ?_))
        refine c_seq ?_
        refine c_float [14] 18 (by kernel_rfl) (by kernel_rfl) ?_
        intro hbF
        show OkF _ _ _ _ _ _ (_ :: _) 0 _ _
        refine f_v (fun wl hbl => by have hs := hs.below_ hbl; exact (r_move (v := .pointer _) rfl)) ?_
        refine f_v (fun wl hbl => by have hs := hs.below_ hbl; exact (r_move (v := .pointer _) rfl)) ?_
        refine f_v (fun wl hbl => by have hs := hs.below_ hbl; first | exact (r_nilCheck_p rfl) | exact (r_nilCheck_f rfl)) ?_
        refine f_v (fun wl hbl => by have hs := hs.below_ hbl; first | exact (r_fieldAddr0 (off := 0) (T := 35) (by kernel_rfl) rfl) | exact (r_fieldAddr (off := 0) (T := 35) (by kernel_rfl) rfl)) ?_
        refine f_v (fun wl hbl => by have hs := hs.below_ hbl; first | exact (r_load_at (i := 0) hs rfl Try.underlying35 rfl rfl) | exact (r_load_at (i := 1) hs rfl Try.underlying35 rfl rfl) | exact (r_load_at (i := 2) hs rfl Try.underlying35 rfl rfl) | exact (r_load_at (i := 3) hs rfl Try.underlying35 rfl rfl) | exact (r_load_at (i := 4) hs rfl Try.underlying35 rfl rfl) | exact (r_load_at (i := 5) hs rfl Try.underlying35 rfl rfl) | exact (r_load_at (i := 6) hs rfl Try.underlying35 rfl rfl)) ?_
        refine f_v (fun wl hbl => by have hs := hs.below_ hbl; first | exact (r_nilCheck_p rfl) | exact (r_nilCheck_f rfl)) ?_
        refine f_v (fun wl hbl => by have hs := hs.below_ hbl; first | exact (r_fieldAddr0 (off := 3) (T := 55) (by kernel_rfl) rfl) | exact (r_fieldAddr (off := 3) (T := 55) (by kernel_rfl) rfl)) ?_
        refine f_v (fun wl hbl => by have hs := hs.below_ hbl; exact (r_indexAddr_a (k := x.tier) Try.underlying55 I3 rfl rfl z2)) ?_
        refine f_v (fun wl hbl => by have hs := hs.below_ hbl; exact (r_load_at (i := 2) hs rfl Try.underlying3 rfl (cells_used1 z2))) ?_
        refine f_v (fun wl hbl => by have hs := hs.below_ hbl; exact (r_move (v := .pointer _) rfl)) ?_
        refine f_v (fun wl hbl => by have hs := hs.below_ hbl; first | exact (r_nilCheck_p rfl) | exact (r_nilCheck_f rfl)) ?_
        refine f_v (fun wl hbl => by have hs := hs.below_ hbl; first | exact (r_fieldAddr0 (off := 1) (T := 61) (by kernel_rfl) rfl) | exact (r_fieldAddr (off := 1) (T := 61) (by kernel_rfl) rfl)) ?_
        refine f_v (fun wl hbl => by have hs := hs.below_ hbl; first | exact (r_load_at (i := 0) hs rfl Try.underlying61 rfl rfl) | exact (r_load_at (i := 1) hs rfl Try.underlying61 rfl rfl) | exact (r_load_at (i := 2) hs rfl Try.underlying61 rfl rfl) | exact (r_load_at (i := 3) hs rfl Try.underlying61 rfl rfl) | exact (r_load_at (i := 4) hs rfl Try.underlying61 rfl rfl) | exact (r_load_at (i := 5) hs rfl Try.underlying61 rfl rfl) | exact (r_load_at (i := 6) hs rfl Try.underlying61 rfl rfl)) ?_
        refine f_v (fun wl hbl => by have hs := hs.below_ hbl; exact (r_len_l Try.underlying61 rfl)) ?_
        refine f_call (r_call Try.func28 rfl rfl) ?_
        refine Calls.mono (blocks_c x.data.length (by omega) _) ?_
        rintro e w_ ⟨rfl, hb⟩
        have hbF := hbF.trans (Below.mono hb hbF.size)
        refine ⟨_, rfl, hb, ?_⟩
        refine f_v (fun wl hbl => by have hs := hs.below_ hbl; exact (r_subi rfl rfl (by rw [hsu]; omega))) ?_
        refine f_v (fun wl hbl => by have hs := hs.below_ hbl; first | exact (r_nilCheck_p rfl) | exact (r_nilCheck_f rfl)) ?_
        refine f_v (fun wl hbl => by have hs := hs.below_ hbl; first | exact (r_fieldAddr0 (off := 3) (T := 55) (by kernel_rfl) rfl) | exact (r_fieldAddr (off := 3) (T := 55) (by kernel_rfl) rfl)) ?_
        refine f_nil ?_
        have hs := hs.below_ hbF
        show OkL _ _ _ _ (_ :: _) _ _
        refine l_v (r_indexAddr_a (k := x.tier) Try.underlying55 I3 rfl rfl z2) ?_
        refine l_store (i := 2) hs rfl I3 rfl rfl (by show 3 + x.tier * 1 < 9; omega) ?_
        intro w46 hs
        have hs : Eng.Sep w0 w46 (blk (p n) [iV (x.tier : Int), .slice A x.data.length c, iV x.sure] 63 :: RowC 5 1 (.slice A x.data.length c) x.data.length (x.data.map u8V) :: blk b (cellsD (setUsed (stepS S) x.tier ((stepS S).used x.tier - (blocksN x.data.length : Int))) bm) 57 :: mapD bm S.files p :: (filesH (fdel S.files n) p ++ R)) := by
          rw [← cells_set1 z2]; exact hs
        have hs := hs.drop.drop
        have hs : Eng.Sep w0 w46 (blk b [.map (some bm), iV ((setUsed (stepS S) x.tier ((stepS S).used x.tier - (blocksN x.data.length : Int))).room 0), iV ((setUsed (stepS S) x.tier ((stepS S).used x.tier - (blocksN x.data.length : Int))).room 1), iV ((setUsed (stepS S) x.tier ((stepS S).used x.tier - (blocksN x.data.length : Int))).used 0), iV ((setUsed (stepS S) x.tier ((stepS S).used x.tier - (blocksN x.data.length : Int))).used 1), iV (setUsed (stepS S) x.tier ((stepS S).used x.tier - (blocksN x.data.length : Int))).root, iV (setUsed (stepS S) x.tier ((stepS S).used x.tier - (blocksN x.data.length : Int))).steps, iV (setUsed (stepS S) x.tier ((stepS S).used x.tier - (blocksN x.data.length : Int))).fuse, bV (setUsed (stepS S) x.tier ((stepS S).used x.tier - (blocksN x.data.length : Int))).down] 57 :: mapD bm S.files p :: (filesH (fdel S.files n) p ++ R)) := hs
        refine l_nil (nrm_then ?_)
        refine c_rseq ?_
        refine l_v (r_move (v := .pointer _) rfl) ?_
        refine l_v (by first | exact (r_nilCheck_p rfl) | exact (r_nilCheck_f rfl)) ?_
        refine l_v (by first | exact (r_fieldAddr0 (off := 0) (T := 54) (by kernel_rfl) rfl) | exact (r_fieldAddr (off := 0) (T := 54) (by kernel_rfl) rfl)) ?_
        refine l_v (by first | exact (r_load_at (i := 0) hs rfl Try.underlying54 rfl rfl) | exact (r_load_at (i := 1) hs rfl Try.underlying54 rfl rfl) | exact (r_load_at (i := 2) hs rfl Try.underlying54 rfl rfl) | exact (r_load_at (i := 3) hs rfl Try.underlying54 rfl rfl) | exact (r_load_at (i := 4) hs rfl Try.underlying54 rfl rfl) | exact (r_load_at (i := 5) hs rfl Try.underlying54 rfl rfl) | exact (r_load_at (i := 6) hs rfl Try.underlying54 rfl rfl)) ?_
        refine l_v (by first | exact (r_move (v := iV _) rfl) | exact (r_move rfl)) ?_
        have hs := hs.pull 1
        refine l_del (k := iV n) hs Try.underlying54 Try.underlying3 rfl rfl rfl ?_
        intro w47 hs
        refine l_nil (nrm_then ?_)
        refine c_rseq ?_
        refine l_v (by first | exact (r_assign (v := iV _) rfl) | exact (r_assign rfl)) ?_
        refine l_nil (nrm_then ?_)
        refine c_ret ?_
        show Fin _ _ _ _ _
        refine fin1 rfl ?_
        refine ⟨rfl, disk_shut (bm := bm) (p := p) ?_⟩
        have hs := hs.pull 1
        show Eng.Sep w0 w47 (blkD b (setUsed (stepS S) x.tier (S.used x.tier - (blocksN x.data.length : Int))) bm :: mapD bm (fdel S.files n) p :: (filesH (fdel S.files n) p ++ R))
        rw [mapD, mapF_del, ← hsu]
        exact hs
      · have f : (!stepOk S) = true := by rw [hq]; rfl
        rw [if_neg (by rw [hq]; decide)]
        refine c_true rfl (f) ?_
        refine c_rseq ?_
        refine l_v (by first | exact (r_assign (v := iV _) rfl) | exact (r_assign rfl)) ?_
        refine l_nil (nrm_then ?_)
        refine c_ret (ret_block (ret_then ?_))
        show Fin _ _ _ _ _
        refine fin1 rfl ?_
        refine ⟨rfl, disk_shut (bm := bm) (p := p) ?_⟩
        rw [(step_files S).1]
        exact hs
set_option maxHeartbeats 8000000 in
theorem point_c (b : Nat) (S : DiskS) (hg : GoodS S) (hst : S.steps ≤ 4611686018427387904) (n : Int) (w0 w : World) (R : List HP) (hs : Eng.Sep w0 w (diskH b S :: R)) :
    Calls Try.prog 27 #[dp b, iV n] w fun e w' => e = .returned (iV (pointS S n).2) ∧ Eng.Sep w0 w' (diskH b (pointS S n).1 :: R) := by
  obtain ⟨bm, p, hs⟩ := disk_open hs
  refine enter (P := Try.prog) Try.func27 rfl rfl ?_
  refine c_rseq ?_
  refine l_v (by first | exact (r_assign (v := iV _) rfl) | exact (r_assign rfl)) ?_
  refine l_nil (nrm_then ?_)
  refine c_rseq ?_
  refine l_v (r_move (v := .pointer _) rfl) ?_
  refine l_v (by first | exact (r_move (v := iV _) rfl) | exact (r_move rfl)) ?_
  refine l_call (r_call Try.func29 rfl rfl) ?_
  refine Calls.mono (find_c b bm S p n w0 _ _ hs) ?_
  rintro e w_ ⟨rfl, hbw⟩
  refine ⟨_, rfl, ?_⟩
  have hs := hs.below_ hbw
  refine l_v (r_move rfl) ?_
  refine l_v (r_extract rfl rfl) ?_
  refine l_v (r_extract rfl rfl) ?_
  refine l_v (r_assign (v := .pointer _) rfl) ?_
  refine l_v (by first | exact (r_assign (v := iV _) rfl) | exact (r_assign rfl)) ?_
  refine l_nil (nrm_then ?_)
  refine c_seq ?_
  refine c_block ?_
  refine c_rseq ?_
  refine l_v (by first | exact (r_move (v := iV _) rfl) | exact (r_move rfl)) ?_
  refine l_v (r_neqi rfl rfl) ?_
  refine l_v (by first | exact (r_assign (v := bV _) rfl) | exact (r_assign rfl)) ?_
  refine l_nil (nrm_then ?_)
  refine c_cond rfl (fun h1 => ?_) (fun h1 => ?_)
  · replace h1 := of_decide_eq_true h1
    refine c_rseq ?_
    refine l_v (by first | exact (r_move (v := iV _) rfl) | exact (r_move rfl)) ?_
    refine l_v (by first | exact (r_assign (v := iV _) rfl) | exact (r_assign rfl)) ?_
    refine l_nil (nrm_then ?_)
    refine c_ret (ret_block (ret_then ?_))
    show Fin _ _ _ _ _
    refine fin1 rfl ?_
    rw [point_no h1]
    exact ⟨rfl, disk_shut hs⟩
  · have h1' : findE S n = 0 := Decidable.of_not_not (of_decide_eq_false h1)
    obtain ⟨hd, x, hx⟩ := find_zero h1'
    have hp := fptr_zero (p := p) h1'
    obtain ⟨z1, z2, z3, z4, z5, z6⟩ := hg.size hx
    rw [point_yes h1' hx, hp]
    have hs := disk_file hg.nd hx hs
    obtain ⟨v, hs⟩ := file_open hs
    obtain ⟨A, c, rfl, hc⟩ := (hs.pull 1).rowForm
    replace h1 := of_decide_eq_false h1
    refine c_seq ?_
    refine c_still (by kernel_rfl) (by kernel_rfl) ?_
    have hs := hs.drew
    refine s_v (r_move (v := .pointer _) rfl) ?_
    refine s_v (by first | exact (r_nilCheck_p rfl) | exact (r_nilCheck_f rfl)) ?_
    refine s_v (by first | exact (r_fieldAddr0 (off := 2) (T := 3) (by kernel_rfl) rfl) | exact (r_fieldAddr (off := 2) (T := 3) (by kernel_rfl) rfl)) ?_
    refine s_v (by first | exact (r_load_at (i := 0) hs rfl Try.underlying3 rfl rfl) | exact (r_load_at (i := 1) hs rfl Try.underlying3 rfl rfl) | exact (r_load_at (i := 2) hs rfl Try.underlying3 rfl rfl) | exact (r_load_at (i := 3) hs rfl Try.underlying3 rfl rfl) | exact (r_load_at (i := 4) hs rfl Try.underlying3 rfl rfl) | exact (r_load_at (i := 5) hs rfl Try.underlying3 rfl rfl) | exact (r_load_at (i := 6) hs rfl Try.underlying3 rfl rfl)) ?_
    refine s_v (r_move (v := .pointer _) rfl) ?_
    refine s_v (by first | exact (r_nilCheck_p rfl) | exact (r_nilCheck_f rfl)) ?_
    refine s_v (by first | exact (r_fieldAddr0 (off := 1) (T := 61) (by kernel_rfl) rfl) | exact (r_fieldAddr (off := 1) (T := 61) (by kernel_rfl) rfl)) ?_
    refine s_v (by first | exact (r_load_at (i := 0) hs rfl Try.underlying61 rfl rfl) | exact (r_load_at (i := 1) hs rfl Try.underlying61 rfl rfl) | exact (r_load_at (i := 2) hs rfl Try.underlying61 rfl rfl) | exact (r_load_at (i := 3) hs rfl Try.underlying61 rfl rfl) | exact (r_load_at (i := 4) hs rfl Try.underlying61 rfl rfl) | exact (r_load_at (i := 5) hs rfl Try.underlying61 rfl rfl) | exact (r_load_at (i := 6) hs rfl Try.underlying61 rfl rfl)) ?_
    refine s_v (r_len_l Try.underlying61 rfl) ?_
    refine s_v (r_lssi rfl rfl) ?_
    refine s_v (by first | exact (r_assign (v := bV _) rfl) | exact (r_assign rfl)) ?_
    refine s_nil (nrm_then ?_)
    have hs := disk_same hg.nd hx (file_shut hs)
    refine c_cond rfl (fun h2 => ?_) (fun h2 => ?_)
    · replace h2 := of_decide_eq_true h2
      refine c_rseq ?_
      refine l_v (by first | exact (r_assign (v := iV _) rfl) | exact (r_assign rfl)) ?_
      refine l_nil (nrm_then ?_)
      refine c_ret (ret_block (ret_then ?_))
      show Fin _ _ _ _ _
      refine fin1 rfl ?_
      rw [if_pos h2]
      exact ⟨rfl, hs⟩
    · rw [if_neg (of_decide_eq_false h2)]
      obtain ⟨bm, p, hs⟩ := disk_open hs
      replace h2 := of_decide_eq_false h2
      refine c_rseq ?_
      refine l_v (r_move (v := .pointer _) rfl) ?_
      refine l_call (r_call Try.func30 rfl rfl) ?_
      refine Calls.mono (step_c b bm S ⟨hg.steps, hst⟩ hg.fuse w0 _ _ hs) ?_
      rintro e w_ ⟨rfl, hs⟩
      refine ⟨_, rfl, ?_⟩
      refine l_v (r_not rfl) ?_
      refine l_v (by first | exact (r_assign (v := bV _) rfl) | exact (r_assign rfl)) ?_
      refine l_nil (nrm_then ?_)
      rcases Bool.eq_false_or_eq_true (stepOk S) with hq | hq
      · have f : (!stepOk S) = false := by rw [hq]; rfl
        rw [if_pos hq]
        have hs : Eng.Sep w0 w_ (blk b [.map (some bm), iV ((stepS S).room 0), iV ((stepS S).room 1), iV ((stepS S).used 0), iV ((stepS S).used 1), iV (stepS S).root, iV (stepS S).steps, iV (stepS S).fuse, bV (stepS S).down] 57 :: mapD bm S.files p :: (filesH S.files p ++ R)) := hs
        refine c_false rfl (f) ?_
        refine c_skip (nrm_block (nrm_then ?_))
        refine c_rseq ?_
        refine l_v (r_move (v := .pointer _) rfl) ?_
        refine l_v (by first | exact (r_move (v := iV _) rfl) | exact (r_move rfl)) ?_
        refine l_v (by first | exact (r_nilCheck_p rfl) | exact (r_nilCheck_f rfl)) ?_
        refine l_v (by first | exact (r_fieldAddr0 (off := 5) (T := 3) (by kernel_rfl) rfl) | exact (r_fieldAddr (off := 5) (T := 3) (by kernel_rfl) rfl)) ?_
        first | refine l_store (i := 0) (v := iV _) hs rfl I3 rfl rfl (by first | (simp; done) | (simp; omega) | omega) ?_ | refine l_store (i := 1) (v := iV _) hs rfl I3 rfl rfl (by first | (simp; done) | (simp; omega) | omega) ?_ | refine l_store (i := 2) (v := iV _) hs rfl I3 rfl rfl (by first | (simp; done) | (simp; omega) | omega) ?_ | refine l_store (i := 3) (v := iV _) hs rfl I3 rfl rfl (by first | (simp; done) | (simp; omega) | omega) ?_ | refine l_store (i := 4) (v := iV _) hs rfl I3 rfl rfl (by first | (simp; done) | (simp; omega) | omega) ?_ | refine l_store (i := 5) (v := iV _) hs rfl I3 rfl rfl (by first | (simp; done) | (simp; omega) | omega) ?_ | refine l_store (i := 6) (v := iV _) hs rfl I3 rfl rfl (by first | (simp; done) | (simp; omega) | omega) ?_
        intro w_ hs
        refine l_nil (nrm_then ?_)
        refine c_rseq ?_
        refine l_v (by first | exact (r_assign (v := iV _) rfl) | exact (r_assign rfl)) ?_
        refine l_nil (nrm_then ?_)
        refine c_ret ?_
        show Fin _ _ _ _ _
        refine fin1 rfl ?_
        refine ⟨rfl, disk_shut (bm := bm) (p := p) ?_⟩
        show Eng.Sep w0 w_ (blkD b (setRoot (stepS S) n) bm :: mapD bm (stepS S).files p :: (filesH (stepS S).files p ++ R))
        rw [(step_files S).1]
        exact hs
      · have f : (!stepOk S) = true := by rw [hq]; rfl
        rw [if_neg (by rw [hq]; decide)]
        refine c_true rfl (f) ?_
        refine c_rseq ?_
        refine l_v (by first | exact (r_assign (v := iV _) rfl) | exact (r_assign rfl)) ?_
        refine l_nil (nrm_then ?_)
        refine c_ret (ret_block (ret_then ?_))
        show Fin _ _ _ _ _
        refine fin1 rfl ?_
        refine ⟨rfl, disk_shut (bm := bm) (p := p) ?_⟩
        rw [(step_files S).1]
        exact hs
theorem arm_c (b : Nat) (S : DiskS) (n : Int) (w0 w : World) (R : List HP) (hs : Eng.Sep w0 w (diskH b S :: R)) :
    Calls Try.prog 21 #[dp b, iV n] w fun e w' => (∃ v, e = .returned v) ∧ Eng.Sep w0 w' (diskH b (armS S n) :: R) := by
  obtain ⟨bm, p, hs⟩ := disk_open hs
  have hs : Eng.Sep w0 w (blk b [.map (some bm), iV (S.room 0), iV (S.room 1), iV (S.used 0), iV (S.used 1), iV S.root, iV S.steps, iV S.fuse, bV S.down] 57 :: mapD bm S.files p :: (filesH S.files p ++ R)) := hs
  refine enter (P := Try.prog) Try.func21 rfl rfl ?_
  refine c_rseq ?_
  refine l_v (r_move (v := .pointer _) rfl) ?_
  refine l_v (by first | exact (r_neqp_some Try.underlying26 rfl rfl) | exact (r_neqp_none Try.underlying26 rfl rfl)) ?_
  refine l_nil (nrm_then ?_)
  refine c_true rfl (rfl) ?_
  refine c_region ?_
  refine l_v (r_move (v := .pointer _) rfl) ?_
  refine l_v (by first | exact (r_move (v := iV _) rfl) | exact (r_move rfl)) ?_
  refine l_v (r_max rfl rfl) ?_
  refine l_v (by first | exact (r_nilCheck_p rfl) | exact (r_nilCheck_f rfl)) ?_
  refine l_v (by first | exact (r_fieldAddr0 (off := 7) (T := 3) (by kernel_rfl) rfl) | exact (r_fieldAddr (off := 7) (T := 3) (by kernel_rfl) rfl)) ?_
  first | refine l_store (i := 0) (v := iV _) hs rfl I3 rfl rfl (by first | (simp; done) | (simp; omega) | omega) ?_ | refine l_store (i := 1) (v := iV _) hs rfl I3 rfl rfl (by first | (simp; done) | (simp; omega) | omega) ?_ | refine l_store (i := 2) (v := iV _) hs rfl I3 rfl rfl (by first | (simp; done) | (simp; omega) | omega) ?_ | refine l_store (i := 3) (v := iV _) hs rfl I3 rfl rfl (by first | (simp; done) | (simp; omega) | omega) ?_ | refine l_store (i := 4) (v := iV _) hs rfl I3 rfl rfl (by first | (simp; done) | (simp; omega) | omega) ?_ | refine l_store (i := 5) (v := iV _) hs rfl I3 rfl rfl (by first | (simp; done) | (simp; omega) | omega) ?_ | refine l_store (i := 6) (v := iV _) hs rfl I3 rfl rfl (by first | (simp; done) | (simp; omega) | omega) ?_
  intro w_ hs
  refine l_nil ?_
  show Fin _ _ _ _ _
  refine fin0 rfl ?_
  exact ⟨⟨_, rfl⟩, disk_shut (S := armS S n) (bm := bm) (p := p) hs⟩
theorem root_c (b : Nat) (S : DiskS) (w0 w : World) (R : List HP) (hs : Eng.Sep w0 w (diskH b S :: R)) :
    Calls Try.prog 19 #[dp b] w fun e w' => e = .returned (iV S.root) ∧ w' = w := by
  obtain ⟨bm, p, hs⟩ := disk_open hs
  have hs : Eng.Sep w0 w (blk b [.map (some bm), iV (S.room 0), iV (S.room 1), iV (S.used 0), iV (S.used 1), iV S.root, iV S.steps, iV S.fuse, bV S.down] 57 :: mapD bm S.files p :: (filesH S.files p ++ R)) := hs
  refine enter (P := Try.prog) Try.func19 rfl rfl ?_
  refine c_rseq ?_
  refine l_v (by first | exact (r_assign (v := iV _) rfl) | exact (r_assign rfl)) ?_
  refine l_nil (nrm_then ?_)
  refine c_seq ?_
  refine c_rseq ?_
  refine l_v (r_move (v := .pointer _) rfl) ?_
  refine l_v (by first | exact (r_eqlp_some Try.underlying26 rfl rfl) | exact (r_eqlp_none Try.underlying26 rfl rfl)) ?_
  refine l_nil (nrm_then ?_)
  refine c_false rfl (rfl) ?_
  refine c_skip (nrm_then ?_)
  refine c_rseq ?_
  refine l_v (r_move (v := .pointer _) rfl) ?_
  refine l_v (by first | exact (r_nilCheck_p rfl) | exact (r_nilCheck_f rfl)) ?_
  refine l_v (by first | exact (r_fieldAddr0 (off := 5) (T := 3) (by kernel_rfl) rfl) | exact (r_fieldAddr (off := 5) (T := 3) (by kernel_rfl) rfl)) ?_
  refine l_v (by first | exact (r_load_at (i := 0) hs rfl Try.underlying3 rfl rfl) | exact (r_load_at (i := 1) hs rfl Try.underlying3 rfl rfl) | exact (r_load_at (i := 2) hs rfl Try.underlying3 rfl rfl) | exact (r_load_at (i := 3) hs rfl Try.underlying3 rfl rfl) | exact (r_load_at (i := 4) hs rfl Try.underlying3 rfl rfl) | exact (r_load_at (i := 5) hs rfl Try.underlying3 rfl rfl) | exact (r_load_at (i := 6) hs rfl Try.underlying3 rfl rfl)) ?_
  refine l_v (by first | exact (r_assign (v := iV _) rfl) | exact (r_assign rfl)) ?_
  refine l_nil (nrm_then ?_)
  refine c_ret ?_
  show Fin _ _ _ _ _
  refine fin1 rfl ?_
  exact ⟨rfl, rfl⟩
theorem steps_c (b : Nat) (S : DiskS) (w0 w : World) (R : List HP) (hs : Eng.Sep w0 w (diskH b S :: R)) :
    Calls Try.prog 22 #[dp b] w fun e w' => e = .returned (iV S.steps) ∧ w' = w := by
  obtain ⟨bm, p, hs⟩ := disk_open hs
  have hs : Eng.Sep w0 w (blk b [.map (some bm), iV (S.room 0), iV (S.room 1), iV (S.used 0), iV (S.used 1), iV S.root, iV S.steps, iV S.fuse, bV S.down] 57 :: mapD bm S.files p :: (filesH S.files p ++ R)) := hs
  refine enter (P := Try.prog) Try.func22 rfl rfl ?_
  refine c_rseq ?_
  refine l_v (by first | exact (r_assign (v := iV _) rfl) | exact (r_assign rfl)) ?_
  refine l_nil (nrm_then ?_)
  refine c_seq ?_
  refine c_rseq ?_
  refine l_v (r_move (v := .pointer _) rfl) ?_
  refine l_v (by first | exact (r_eqlp_some Try.underlying26 rfl rfl) | exact (r_eqlp_none Try.underlying26 rfl rfl)) ?_
  refine l_nil (nrm_then ?_)
  refine c_false rfl (rfl) ?_
  refine c_skip (nrm_then ?_)
  refine c_rseq ?_
  refine l_v (r_move (v := .pointer _) rfl) ?_
  refine l_v (by first | exact (r_nilCheck_p rfl) | exact (r_nilCheck_f rfl)) ?_
  refine l_v (by first | exact (r_fieldAddr0 (off := 6) (T := 3) (by kernel_rfl) rfl) | exact (r_fieldAddr (off := 6) (T := 3) (by kernel_rfl) rfl)) ?_
  refine l_v (by first | exact (r_load_at (i := 0) hs rfl Try.underlying3 rfl rfl) | exact (r_load_at (i := 1) hs rfl Try.underlying3 rfl rfl) | exact (r_load_at (i := 2) hs rfl Try.underlying3 rfl rfl) | exact (r_load_at (i := 3) hs rfl Try.underlying3 rfl rfl) | exact (r_load_at (i := 4) hs rfl Try.underlying3 rfl rfl) | exact (r_load_at (i := 5) hs rfl Try.underlying3 rfl rfl) | exact (r_load_at (i := 6) hs rfl Try.underlying3 rfl rfl)) ?_
  refine l_v (by first | exact (r_assign (v := iV _) rfl) | exact (r_assign rfl)) ?_
  refine l_nil (nrm_then ?_)
  refine c_ret ?_
  show Fin _ _ _ _ _
  refine fin1 rfl ?_
  exact ⟨rfl, rfl⟩
theorem down_c (b : Nat) (S : DiskS) (w0 w : World) (R : List HP) (hs : Eng.Sep w0 w (diskH b S :: R)) :
    Calls Try.prog 18 #[dp b] w fun e w' => e = .returned (bV S.down) ∧ w' = w := by
  obtain ⟨bm, p, hs⟩ := disk_open hs
  have hs : Eng.Sep w0 w (blk b [.map (some bm), iV (S.room 0), iV (S.room 1), iV (S.used 0), iV (S.used 1), iV S.root, iV S.steps, iV S.fuse, bV S.down] 57 :: mapD bm S.files p :: (filesH S.files p ++ R)) := hs
  refine enter (P := Try.prog) Try.func18 rfl rfl ?_
  refine c_rseq ?_
  refine l_v (by first | exact (r_assign (v := bV _) rfl) | exact (r_assign rfl)) ?_
  refine l_nil (nrm_then ?_)
  refine c_rseq ?_
  refine l_v (r_move (v := .pointer _) rfl) ?_
  refine l_v (by first | exact (r_eqlp_some Try.underlying26 rfl rfl) | exact (r_eqlp_none Try.underlying26 rfl rfl)) ?_
  refine l_v (by first | exact (r_move (v := bV _) rfl) | exact (r_move rfl)) ?_
  refine l_vg (r_move (v := .pointer _) rfl) rfl (rfl) ?_
  refine l_vg (by first | exact (r_nilCheck_p rfl) | exact (r_nilCheck_f rfl)) rfl (rfl) ?_
  refine l_vg (by first | exact (r_fieldAddr0 (off := 8) (T := 4) (by kernel_rfl) rfl) | exact (r_fieldAddr (off := 8) (T := 4) (by kernel_rfl) rfl)) rfl (rfl) ?_
  refine l_vg (by first | exact (r_load_at (i := 0) hs rfl Try.underlying4 rfl rfl) | exact (r_load_at (i := 1) hs rfl Try.underlying4 rfl rfl) | exact (r_load_at (i := 2) hs rfl Try.underlying4 rfl rfl) | exact (r_load_at (i := 3) hs rfl Try.underlying4 rfl rfl) | exact (r_load_at (i := 4) hs rfl Try.underlying4 rfl rfl) | exact (r_load_at (i := 5) hs rfl Try.underlying4 rfl rfl) | exact (r_load_at (i := 6) hs rfl Try.underlying4 rfl rfl)) rfl (rfl) ?_
  refine l_v (r_pick_f rfl rfl rfl) ?_
  refine l_v (by first | exact (r_assign (v := bV _) rfl) | exact (r_assign rfl)) ?_
  refine l_nil (nrm_then ?_)
  refine c_ret ?_
  show Fin _ _ _ _ _
  refine fin1 rfl ?_
  exact ⟨rfl, rfl⟩
theorem used_c (b : Nat) (S : DiskS) (t : Nat) (ht : t < 2) (w0 w : World) (R : List HP) (hs : Eng.Sep w0 w (diskH b S :: R)) :
    Calls Try.prog 23 #[dp b, iV (t : Int)] w fun e w' => e = .returned (iV (S.used t)) ∧ w' = w := by
  obtain ⟨bm, p, hs⟩ := disk_open hs
  have h01 : t = 0 ∨ t = 1 := by omega
  rcases h01 with rfl | rfl
  · refine enter (P := Try.prog) Try.func23 rfl rfl ?_
    refine c_rseq ?_
    refine l_v (by first | exact (r_assign (v := iV _) rfl) | exact (r_assign rfl)) ?_
    refine l_nil (nrm_then ?_)
    refine c_seq ?_
    refine c_rseq ?_
    refine l_v (r_move (v := .pointer _) rfl) ?_
    refine l_v (by first | exact (r_eqlp_some Try.underlying26 rfl rfl) | exact (r_eqlp_none Try.underlying26 rfl rfl)) ?_
    refine l_v (by first | exact (r_move (v := bV _) rfl) | exact (r_move rfl)) ?_
    refine l_vg (by first | exact (r_move (v := iV _) rfl) | exact (r_move rfl)) rfl (rfl) ?_
    refine l_vg (r_neqi rfl rfl) rfl (rfl) ?_
    refine l_vg (by first | exact (r_move (v := bV _) rfl) | exact (r_move rfl)) rfl (rfl) ?_
    refine l_no rfl (rfl) ?_
    refine l_no rfl (rfl) ?_
    refine l_vg (r_pick_f rfl rfl rfl) rfl (rfl) ?_
    refine l_v (r_pick_f rfl rfl rfl) ?_
    refine l_nil (nrm_then ?_)
    refine c_false rfl (rfl) ?_
    refine c_skip (nrm_then ?_)
    refine c_rseq ?_
    refine l_v (r_move (v := .pointer _) rfl) ?_
    refine l_v (by first | exact (r_move (v := iV _) rfl) | exact (r_move rfl)) ?_
    refine l_v (by first | exact (r_nilCheck_p rfl) | exact (r_nilCheck_f rfl)) ?_
    refine l_v (by first | exact (r_fieldAddr0 (off := 3) (T := 55) (by kernel_rfl) rfl) | exact (r_fieldAddr (off := 3) (T := 55) (by kernel_rfl) rfl)) ?_
    refine l_v (r_indexAddr_a (k := 0) Try.underlying55 I3 rfl rfl (by decide)) ?_
    refine l_v (r_load_at (i := 0) hs rfl Try.underlying3 rfl rfl) ?_
    refine l_v (by first | exact (r_assign (v := iV _) rfl) | exact (r_assign rfl)) ?_
    refine l_nil (nrm_then ?_)
    refine c_ret ?_
    show Fin _ _ _ _ _
    refine fin1 rfl ?_
    exact ⟨rfl, rfl⟩
  · refine enter (P := Try.prog) Try.func23 rfl rfl ?_
    refine c_rseq ?_
    refine l_v (by first | exact (r_assign (v := iV _) rfl) | exact (r_assign rfl)) ?_
    refine l_nil (nrm_then ?_)
    refine c_seq ?_
    refine c_rseq ?_
    refine l_v (r_move (v := .pointer _) rfl) ?_
    refine l_v (by first | exact (r_eqlp_some Try.underlying26 rfl rfl) | exact (r_eqlp_none Try.underlying26 rfl rfl)) ?_
    refine l_v (by first | exact (r_move (v := bV _) rfl) | exact (r_move rfl)) ?_
    refine l_vg (by first | exact (r_move (v := iV _) rfl) | exact (r_move rfl)) rfl (rfl) ?_
    refine l_vg (r_neqi rfl rfl) rfl (rfl) ?_
    refine l_vg (by first | exact (r_move (v := bV _) rfl) | exact (r_move rfl)) rfl (rfl) ?_
    refine l_vg (by first | exact (r_move (v := iV _) rfl) | exact (r_move rfl)) rfl (rfl) ?_
    refine l_vg (r_neqi rfl rfl) rfl (rfl) ?_
    refine l_vg (r_pick_t rfl rfl rfl) rfl (rfl) ?_
    refine l_v (r_pick_f rfl rfl rfl) ?_
    refine l_nil (nrm_then ?_)
    refine c_false rfl (rfl) ?_
    refine c_skip (nrm_then ?_)
    refine c_rseq ?_
    refine l_v (r_move (v := .pointer _) rfl) ?_
    refine l_v (by first | exact (r_move (v := iV _) rfl) | exact (r_move rfl)) ?_
    refine l_v (by first | exact (r_nilCheck_p rfl) | exact (r_nilCheck_f rfl)) ?_
    refine l_v (by first | exact (r_fieldAddr0 (off := 3) (T := 55) (by kernel_rfl) rfl) | exact (r_fieldAddr (off := 3) (T := 55) (by kernel_rfl) rfl)) ?_
    refine l_v (r_indexAddr_a (k := 1) Try.underlying55 I3 rfl rfl (by decide)) ?_
    refine l_v (r_load_at (i := 0) hs rfl Try.underlying3 rfl rfl) ?_
    refine l_v (by first | exact (r_assign (v := iV _) rfl) | exact (r_assign rfl)) ?_
    refine l_nil (nrm_then ?_)
    refine c_ret ?_
    show Fin _ _ _ _ _
    refine fin1 rfl ?_
    exact ⟨rfl, rfl⟩
end Go.Proofs.Ytnneoipoaoefkaa.Dsk
