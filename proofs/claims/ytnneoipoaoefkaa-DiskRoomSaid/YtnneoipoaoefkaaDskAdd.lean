/- The walks of Add, Sync, Read. -/
import Derived.Test.YtnneoipoaoefkaaDskMake
import Derived.Test.YtnneoipoaoefkaaCutMid
namespace Go.Proofs.Ytnneoipoaoefkaa.Dsk
open Go Go.RowKit Go.Proofs.Ytnneoipoaoefkaa.Eng
set_option linter.unusedVariables false
set_option maxRecDepth 100000
theorem disk_shut_put {w0 w : World} {b bm : Nat} {S S' : DiskS} {p : Int → Nat} {n : Int} {x x' : FileS} {R : List HP} (hf : S'.files = fput S.files n x') (hx : S.get n = some x) (hs : Eng.Sep w0 w (fileH (p n) x' :: blkD b S' bm :: mapD bm S.files p :: (filesH (fdel S.files n) p ++ R))) : Eng.Sep w0 w (diskH b S' :: R) := by
  have h1 := disk_back hs
  refine disk_shut (bm := bm) (p := p) ?_
  rw [hf, mapD, mapF_put hx]
  exact h1
theorem row_apps {w0 w : World} {v : Value} {l : List UInt8} {s : ByteArray} {L : List HP} (hs : Eng.Sep w0 w (RowC 5 1 v (l.length + s.size) (l.map u8V ++ sCells s) :: L)) : Eng.Sep w0 w (RowC 5 1 v (l ++ toL s).length ((l ++ toL s).map u8V) :: L) := by
  rw [List.length_append, toL_size, List.map_append]
  exact hs
theorem disk_same {w0 w : World} {b bm : Nat} {S : DiskS} {p : Int → Nat} {n : Int} {x : FileS} {R : List HP} (hn : keysNd S.files) (hx : S.get n = some x) (hs : Eng.Sep w0 w (fileH (p n) x :: blkD b S bm :: mapD bm S.files p :: (filesH (fdel S.files n) p ++ R))) : Eng.Sep w0 w (diskH b S :: R) := by
  refine disk_shut (bm := bm) (p := p) ?_
  exact (hs.pull 1).pull 2 |>.perm (by
    have := (files_perm (p := p) (fget_perm hn hx)).symm
    refine (List.Perm.swap _ _ _).trans (List.Perm.cons _ (List.Perm.cons _ ?_))
    exact List.Perm.append_right R this)
set_option maxHeartbeats 8000000 in
theorem add_c (b : Nat) (S : DiskS) (hg : GoodS S) (hst : S.steps ≤ 4611686018427387904) (n : Int) (s : ByteArray) (hz : s.size ≤ 1099511627776) (w0 w : World) (R : List HP) (hs : Eng.Sep w0 w (diskH b S :: R)) :
    Calls Try.prog 16 #[dp b, iV n, sV s] w fun e w' => e = .returned (iV (addS S n (toL s)).2) ∧ Eng.Sep w0 w' (diskH b (addS S n (toL s)).1 :: R) := by
  obtain ⟨bm, p, hs⟩ := disk_open hs
  have hsl := toL_size s
  refine enter (P := Try.prog) Try.func16 rfl rfl ?_
  refine c_rseq ?_
  refine l_v (by first | exact (r_assign (v := iV _) rfl) | exact (r_assign rfl)) ?_
  refine l_nil (nrm_then ?_)
  refine c_rseq ?_
  refine l_v (r_move (v := .pointer _) rfl) ?_
  refine l_v (by first | exact (r_move (v := iV _) rfl) | exact (r_move rfl)) ?_
  refine l_call (r_call Try.func29 rfl rfl) ?_
  refine Calls.mono (find_c b bm S p n w0 _ _ hs) ?_
  rintro e w_ ⟨rfl, hbw⟩
  refine ⟨_, rfl, ?_⟩
  have hs := hs.below_ hbw
  refine l_v (r_move rfl) ?_
  refine l_v (r_extract rfl rfl) ?_
  refine l_v (r_extract rfl rfl) ?_
  refine l_v (r_assign (v := .pointer _) rfl) ?_
  refine l_v (by first | exact (r_assign (v := iV _) rfl) | exact (r_assign rfl)) ?_
  refine l_nil (nrm_then ?_)
  refine c_seq ?_
  refine c_rseq ?_
  refine l_v (by first | exact (r_move (v := iV _) rfl) | exact (r_move rfl)) ?_
  refine l_v (r_neqi rfl rfl) ?_
  refine l_nil (nrm_then ?_)
  refine c_cond rfl (fun h1 => ?_) (fun h1 => ?_)
  · replace h1 := of_decide_eq_true h1
    refine c_rseq ?_
    refine l_v (by first | exact (r_move (v := iV _) rfl) | exact (r_move rfl)) ?_
    refine l_v (by first | exact (r_assign (v := iV _) rfl) | exact (r_assign rfl)) ?_
    refine l_nil (nrm_then ?_)
    refine c_ret (ret_then ?_)
    show Fin _ _ _ _ _
    refine fin1 rfl ?_
    rw [add_no h1]
    exact ⟨rfl, disk_shut hs⟩
  · have h1' : findE S n = 0 := Decidable.of_not_not (of_decide_eq_false h1)
    obtain ⟨hd, x, hx⟩ := find_zero h1'
    have hp := fptr_zero (p := p) h1'
    obtain ⟨z1, z2, z3, z4, z5, z6⟩ := hg.size hx
    rw [add_yes h1' hx, hp, hsl]
    have hs := disk_file hg.nd hx hs
    obtain ⟨v, hs⟩ := file_open hs
    obtain ⟨A, c, rfl, hc⟩ := (hs.pull 1).rowForm
    have e26 : (x.data.length : Int) + (s.size : Int) = ((x.data.length + s.size : Nat) : Int) := by omega
    have hbl : (blocksN (x.data.length + s.size) : Int) ≤ 1099511627776 := by unfold blocksN; omega
    have hle := hg.le x.tier z2
    have hsu := hg.sum x.tier z2
    replace h1 := of_decide_eq_false h1
    refine c_skip (nrm_then ?_)
    refine c_seq ?_
    refine c_float [8] 14 (by kernel_rfl) (by kernel_rfl) ?_
    intro hbF
    show OkF _ _ _ _ _ _ (_ :: _) 0 _ _
    refine f_v (fun wl hbl => by have hs := hs.below_ hbl; exact (r_move (v := .pointer _) rfl)) ?_
    refine f_v (fun wl hbl => by have hs := hs.below_ hbl; first | exact (r_nilCheck_p rfl) | exact (r_nilCheck_f rfl)) ?_
    refine f_v (fun wl hbl => by have hs := hs.below_ hbl; first | exact (r_fieldAddr0 (off := 1) (T := 61) (by kernel_rfl) rfl) | exact (r_fieldAddr (off := 1) (T := 61) (by kernel_rfl) rfl)) ?_
    refine f_v (fun wl hbl => by have hs := hs.below_ hbl; first | exact (r_load_at (i := 0) hs rfl Try.underlying61 rfl rfl) | exact (r_load_at (i := 1) hs rfl Try.underlying61 rfl rfl) | exact (r_load_at (i := 2) hs rfl Try.underlying61 rfl rfl) | exact (r_load_at (i := 3) hs rfl Try.underlying61 rfl rfl) | exact (r_load_at (i := 4) hs rfl Try.underlying61 rfl rfl) | exact (r_load_at (i := 5) hs rfl Try.underlying61 rfl rfl) | exact (r_load_at (i := 6) hs rfl Try.underlying61 rfl rfl)) ?_
    refine f_v (fun wl hbl => by have hs := hs.below_ hbl; exact (r_len_l Try.underlying61 rfl)) ?_
    refine f_v (fun wl hbl => by have hs := hs.below_ hbl; first | exact (r_move (v := sV _) rfl) | exact (r_move rfl)) ?_
    refine f_v (fun wl hbl => by have hs := hs.below_ hbl; exact (r_len_s Try.underlying9 rfl)) ?_
    refine f_v (fun wl hbl => by have hs := hs.below_ hbl; exact (r_addi rfl rfl (by omega))) ?_
    rw [e26]
    refine f_call (r_call Try.func28 rfl rfl) ?_
    refine Calls.mono (blocks_c (x.data.length + s.size) (by omega) _) ?_
    rintro e w_ ⟨rfl, hb⟩
    have hbF := hbF.trans (Below.mono hb hbF.size)
    refine ⟨_, rfl, hb, ?_⟩
    refine f_v (fun wl hbl => by have hs := hs.below_ hbl; exact (r_move (v := .pointer _) rfl)) ?_
    refine f_v (fun wl hbl => by have hs := hs.below_ hbl; first | exact (r_nilCheck_p rfl) | exact (r_nilCheck_f rfl)) ?_
    refine f_v (fun wl hbl => by have hs := hs.below_ hbl; first | exact (r_fieldAddr0 (off := 1) (T := 61) (by kernel_rfl) rfl) | exact (r_fieldAddr (off := 1) (T := 61) (by kernel_rfl) rfl)) ?_
    refine f_v (fun wl hbl => by have hs := hs.below_ hbl; first | exact (r_load_at (i := 0) hs rfl Try.underlying61 rfl rfl) | exact (r_load_at (i := 1) hs rfl Try.underlying61 rfl rfl) | exact (r_load_at (i := 2) hs rfl Try.underlying61 rfl rfl) | exact (r_load_at (i := 3) hs rfl Try.underlying61 rfl rfl) | exact (r_load_at (i := 4) hs rfl Try.underlying61 rfl rfl) | exact (r_load_at (i := 5) hs rfl Try.underlying61 rfl rfl) | exact (r_load_at (i := 6) hs rfl Try.underlying61 rfl rfl)) ?_
    refine f_v (fun wl hbl => by have hs := hs.below_ hbl; exact (r_len_l Try.underlying61 rfl)) ?_
    refine f_nil ?_
    have hs := hs.below_ hbF
    show OkL _ _ _ _ (_ :: _) _ _
    refine l_call (r_call Try.func28 rfl rfl) ?_
    refine Calls.mono (blocks_c x.data.length (by omega) _) ?_
    rintro e w_ ⟨rfl, hb⟩
    refine ⟨_, rfl, ?_⟩
    have hs := hs.below_ hb
    refine l_v (r_subi rfl rfl (by omega)) ?_
    refine l_v (by first | exact (r_assign (v := iV _) rfl) | exact (r_assign rfl)) ?_
    refine l_nil (nrm_then ?_)
    refine c_seq ?_
    refine c_seq ?_
    refine c_still (by kernel_rfl) (by kernel_rfl) ?_
    have hs := hs.drew
    refine s_v (by first | exact (r_move (v := iV _) rfl) | exact (r_move rfl)) ?_
    refine s_v (r_move (v := .pointer _) rfl) ?_
    refine s_v (r_move (v := .pointer _) rfl) ?_
    refine s_v (by first | exact (r_nilCheck_p rfl) | exact (r_nilCheck_f rfl)) ?_
    refine s_v (by first | exact (r_fieldAddr0 (off := 0) (T := 35) (by kernel_rfl) rfl) | exact (r_fieldAddr (off := 0) (T := 35) (by kernel_rfl) rfl)) ?_
    refine s_v (by first | exact (r_load_at (i := 0) hs rfl Try.underlying35 rfl rfl) | exact (r_load_at (i := 1) hs rfl Try.underlying35 rfl rfl) | exact (r_load_at (i := 2) hs rfl Try.underlying35 rfl rfl) | exact (r_load_at (i := 3) hs rfl Try.underlying35 rfl rfl) | exact (r_load_at (i := 4) hs rfl Try.underlying35 rfl rfl) | exact (r_load_at (i := 5) hs rfl Try.underlying35 rfl rfl) | exact (r_load_at (i := 6) hs rfl Try.underlying35 rfl rfl)) ?_
    refine s_v (by first | exact (r_nilCheck_p rfl) | exact (r_nilCheck_f rfl)) ?_
    refine s_v (by first | exact (r_fieldAddr0 (off := 1) (T := 55) (by kernel_rfl) rfl) | exact (r_fieldAddr (off := 1) (T := 55) (by kernel_rfl) rfl)) ?_
    refine s_v (r_indexAddr_a (k := x.tier) Try.underlying55 I3 rfl rfl z2) ?_
    refine s_v (r_load_at (i := 2) hs rfl Try.underlying3 rfl (cells_room1 z2)) ?_
    refine s_v (r_move (v := .pointer _) rfl) ?_
    refine s_v (r_move (v := .pointer _) rfl) ?_
    refine s_v (by first | exact (r_nilCheck_p rfl) | exact (r_nilCheck_f rfl)) ?_
    refine s_v (by first | exact (r_fieldAddr0 (off := 0) (T := 35) (by kernel_rfl) rfl) | exact (r_fieldAddr (off := 0) (T := 35) (by kernel_rfl) rfl)) ?_
    refine s_v (by first | exact (r_load_at (i := 0) hs rfl Try.underlying35 rfl rfl) | exact (r_load_at (i := 1) hs rfl Try.underlying35 rfl rfl) | exact (r_load_at (i := 2) hs rfl Try.underlying35 rfl rfl) | exact (r_load_at (i := 3) hs rfl Try.underlying35 rfl rfl) | exact (r_load_at (i := 4) hs rfl Try.underlying35 rfl rfl) | exact (r_load_at (i := 5) hs rfl Try.underlying35 rfl rfl) | exact (r_load_at (i := 6) hs rfl Try.underlying35 rfl rfl)) ?_
    refine s_v (by first | exact (r_nilCheck_p rfl) | exact (r_nilCheck_f rfl)) ?_
    refine s_v (by first | exact (r_fieldAddr0 (off := 3) (T := 55) (by kernel_rfl) rfl) | exact (r_fieldAddr (off := 3) (T := 55) (by kernel_rfl) rfl)) ?_
    refine s_v (r_indexAddr_a (k := x.tier) Try.underlying55 I3 rfl rfl z2) ?_
    refine s_v (r_load_at (i := 2) hs rfl Try.underlying3 rfl (cells_used1 z2)) ?_
    refine s_v (r_subi rfl rfl (by omega)) ?_
    refine s_v (r_gtri rfl rfl) ?_
    refine s_nil (nrm_then ?_)
    refine c_cond rfl (fun h2 => ?_) (fun h2 => ?_)
    · replace h2 := of_decide_eq_true h2
      refine c_rseq ?_
      refine l_v (by first | exact (r_assign (v := iV _) rfl) | exact (r_assign rfl)) ?_
      refine l_nil (nrm_then ?_)
      refine c_ret (ret_then ?_)
      show Fin _ _ _ _ _
      refine fin1 rfl ?_
      rw [if_pos h2]
      exact ⟨rfl, disk_same hg.nd hx (file_shut hs)⟩
    · have h2' := of_decide_eq_false h2
      rw [if_neg h2']
      replace h2 := of_decide_eq_false h2
      refine c_skip (nrm_then ?_)
      refine c_seq ?_
      refine c_tail 13 (by kernel_rfl) (by kernel_rfl) ?_
      have hs := hs.drew
      show OkS _ _ _ _ _ (_ :: _) _
      refine s_v (r_move (v := .pointer _) rfl) ?_
      refine s_v (r_move (v := .pointer _) rfl) ?_
      refine s_v (by first | exact (r_nilCheck_p rfl) | exact (r_nilCheck_f rfl)) ?_
      refine s_v (by first | exact (r_fieldAddr0 (off := 0) (T := 35) (by kernel_rfl) rfl) | exact (r_fieldAddr (off := 0) (T := 35) (by kernel_rfl) rfl)) ?_
      refine s_v (by first | exact (r_load_at (i := 0) hs rfl Try.underlying35 rfl rfl) | exact (r_load_at (i := 1) hs rfl Try.underlying35 rfl rfl) | exact (r_load_at (i := 2) hs rfl Try.underlying35 rfl rfl) | exact (r_load_at (i := 3) hs rfl Try.underlying35 rfl rfl) | exact (r_load_at (i := 4) hs rfl Try.underlying35 rfl rfl) | exact (r_load_at (i := 5) hs rfl Try.underlying35 rfl rfl) | exact (r_load_at (i := 6) hs rfl Try.underlying35 rfl rfl)) ?_
      refine s_v (by first | exact (r_nilCheck_p rfl) | exact (r_nilCheck_f rfl)) ?_
      refine s_v (by first | exact (r_fieldAddr0 (off := 3) (T := 55) (by kernel_rfl) rfl) | exact (r_fieldAddr (off := 3) (T := 55) (by kernel_rfl) rfl)) ?_
      refine s_v (r_indexAddr_a (k := x.tier) Try.underlying55 I3 rfl rfl z2) ?_
      refine s_v (r_load_at (i := 2) hs rfl Try.underlying3 rfl (cells_used1 z2)) ?_
      refine s_v (by first | exact (r_move (v := iV _) rfl) | exact (r_move rfl)) ?_
      refine s_v (r_addi rfl rfl (by omega)) ?_
      refine s_v (by first | exact (r_nilCheck_p rfl) | exact (r_nilCheck_f rfl)) ?_
      refine s_v (by first | exact (r_fieldAddr0 (off := 3) (T := 55) (by kernel_rfl) rfl) | exact (r_fieldAddr (off := 3) (T := 55) (by kernel_rfl) rfl)) ?_
      refine s_nil ?_
      show OkL _ _ _ _ (_ :: _) _ _
      refine l_v (r_indexAddr_a (k := x.tier) Try.underlying55 I3 rfl rfl z2) ?_
      refine l_store (i := 2) hs rfl I3 rfl rfl (by show 3 + x.tier * 1 < 9; omega) ?_
      intro w69 hs
      have hs : Eng.Sep w0 w69 (blk (p n) [iV (x.tier : Int), .slice A x.data.length c, iV x.sure] 63 :: RowC 5 1 (.slice A x.data.length c) x.data.length (x.data.map u8V) :: blkD b (setUsed S x.tier (S.used x.tier + ((blocksN (x.data.length + s.size) : Int) - (blocksN x.data.length : Int)))) bm :: mapD bm S.files p :: (filesH (fdel S.files n) p ++ R)) := by
        rw [show blkD b (setUsed S x.tier (S.used x.tier + ((blocksN (x.data.length + s.size) : Int) - (blocksN x.data.length : Int)))) bm = blk b (cellsD (setUsed S x.tier (S.used x.tier + ((blocksN (x.data.length + s.size) : Int) - (blocksN x.data.length : Int)))) bm) 57 from rfl, ← cells_set1 z2]; exact hs
      have hs := hs.pull 1
      refine l_nil (nrm_then ?_)
      refine c_rseq ?_
      refine l_v (r_move (v := .pointer _) rfl) ?_
      refine l_v (r_move (v := .pointer _) rfl) ?_
      refine l_v (by first | exact (r_nilCheck_p rfl) | exact (r_nilCheck_f rfl)) ?_
      refine l_v (by first | exact (r_fieldAddr0 (off := 1) (T := 61) (by kernel_rfl) rfl) | exact (r_fieldAddr (off := 1) (T := 61) (by kernel_rfl) rfl)) ?_
      refine l_v (by first | exact (r_load_at (i := 0) hs rfl Try.underlying61 rfl rfl) | exact (r_load_at (i := 1) hs rfl Try.underlying61 rfl rfl) | exact (r_load_at (i := 2) hs rfl Try.underlying61 rfl rfl) | exact (r_load_at (i := 3) hs rfl Try.underlying61 rfl rfl) | exact (r_load_at (i := 4) hs rfl Try.underlying61 rfl rfl) | exact (r_load_at (i := 5) hs rfl Try.underlying61 rfl rfl) | exact (r_load_at (i := 6) hs rfl Try.underlying61 rfl rfl)) ?_
      refine l_v (by first | exact (r_move (v := sV _) rfl) | exact (r_move rfl)) ?_
      refine l_append_s Try.underlying61 Try.underlying9 I5 rfl rfl hs (by omega) ?_
      intro v76 w76 hs
      obtain ⟨A2, c2, rfl, hc2⟩ := hs.rowForm
      refine l_v (by first | exact (r_nilCheck_p rfl) | exact (r_nilCheck_f rfl)) ?_
      refine l_v (by first | exact (r_fieldAddr0 (off := 1) (T := 61) (by kernel_rfl) rfl) | exact (r_fieldAddr (off := 1) (T := 61) (by kernel_rfl) rfl)) ?_
      first | refine l_store (i := 0) (v := .slice _ _ _) hs rfl I61 rfl rfl (by first | (simp; done) | (simp; omega) | omega) ?_ | refine l_store (i := 1) (v := .slice _ _ _) hs rfl I61 rfl rfl (by first | (simp; done) | (simp; omega) | omega) ?_ | refine l_store (i := 2) (v := .slice _ _ _) hs rfl I61 rfl rfl (by first | (simp; done) | (simp; omega) | omega) ?_ | refine l_store (i := 3) (v := .slice _ _ _) hs rfl I61 rfl rfl (by first | (simp; done) | (simp; omega) | omega) ?_ | refine l_store (i := 4) (v := .slice _ _ _) hs rfl I61 rfl rfl (by first | (simp; done) | (simp; omega) | omega) ?_ | refine l_store (i := 5) (v := .slice _ _ _) hs rfl I61 rfl rfl (by first | (simp; done) | (simp; omega) | omega) ?_ | refine l_store (i := 6) (v := .slice _ _ _) hs rfl I61 rfl rfl (by first | (simp; done) | (simp; omega) | omega) ?_
      intro w_ hs
      refine l_nil (nrm_then ?_)
      refine c_seq ?_
      refine c_rseq ?_
      refine l_v (r_move (v := .pointer _) rfl) ?_
      have hs : Eng.Sep w0 w_ (RowC 5 1 (.slice A2 (x.data.length + s.size) c2) (x.data.length + s.size) (x.data.map u8V ++ sCells s) :: blk (p n) [iV (x.tier : Int), .slice A2 (x.data.length + s.size) c2, iV x.sure] 63 :: blkD b (addF S n x (toL s)) bm :: mapD bm S.files p :: (filesH (fdel S.files n) p ++ R)) := hs
      have hs := (row_apps hs).pull 2
      refine l_call (r_call Try.func30 rfl rfl) ?_
      refine Calls.mono (step_c b bm (addF S n x (toL s)) ⟨hg.steps, hst⟩ hg.fuse w0 _ _ hs) ?_
      rintro e w_ ⟨rfl, hs⟩
      refine ⟨_, rfl, ?_⟩
      have hfin : Eng.Sep w0 w_ (diskH b (stepS (addF S n x (toL s))) :: R) := by
        have hs : Eng.Sep w0 w_ (blkD b (stepS (addF S n x (toL s))) bm :: RowC 5 1 (.slice A2 (x.data.length + s.size) c2) (x.data ++ toL s).length ((x.data ++ toL s).map u8V) :: blk (p n) [iV (x.tier : Int), .slice A2 (x.data.length + s.size) c2, iV x.sure] 63 :: mapD bm S.files p :: (filesH (fdel S.files n) p ++ R)) := hs
        have hs := ((hs.pull 2).pull 2).pull 1
        exact disk_shut_put (x' := ⟨x.tier, x.data ++ toL s, x.sure⟩) ((step_files _).1) hx (file_shut hs)
      rw [show stepOk (addF S n x (toL s)) = stepOk S from rfl]
      refine l_v (r_not rfl) ?_
      refine l_nil (nrm_then ?_)
      rcases Bool.eq_false_or_eq_true (stepOk S) with hq | hq
      · have f : (!stepOk S) = false := by rw [hq]; rfl
        rw [if_pos hq]
        refine c_false rfl (f) ?_
        refine c_skip (nrm_then ?_)
        refine c_rseq ?_
        refine l_v (by first | exact (r_assign (v := iV _) rfl) | exact (r_assign rfl)) ?_
        refine l_nil (nrm_then ?_)
        refine c_ret ?_
        show Fin _ _ _ _ _
        refine fin1 rfl ?_
        exact ⟨rfl, hfin⟩
      · have f : (!stepOk S) = true := by rw [hq]; rfl
        rw [if_neg (by rw [hq]; decide)]
        refine c_true rfl (f) ?_
        refine c_rseq ?_
        refine l_v (by first | exact (r_assign (v := iV _) rfl) | exact (r_assign rfl)) ?_
        refine l_nil (nrm_then ?_)
        refine c_ret (ret_then ?_)
        show Fin _ _ _ _ _
        refine fin1 rfl ?_
        exact ⟨rfl, hfin⟩
set_option maxHeartbeats 8000000 in
theorem sync_c (b : Nat) (S : DiskS) (hg : GoodS S) (hst : S.steps ≤ 4611686018427387904) (n : Int) (w0 w : World) (R : List HP) (hs : Eng.Sep w0 w (diskH b S :: R)) :
    Calls Try.prog 17 #[dp b, iV n] w fun e w' => e = .returned (iV (syncS S n).2) ∧ Eng.Sep w0 w' (diskH b (syncS S n).1 :: R) := by
  obtain ⟨bm, p, hs⟩ := disk_open hs
  refine enter (P := Try.prog) Try.func17 rfl rfl ?_
  refine c_rseq ?_
  refine l_v (by first | exact (r_assign (v := iV _) rfl) | exact (r_assign rfl)) ?_
  refine l_nil (nrm_then ?_)
  refine c_rseq ?_
  refine l_v (r_move (v := .pointer _) rfl) ?_
  refine l_v (by first | exact (r_move (v := iV _) rfl) | exact (r_move rfl)) ?_
  refine l_call (r_call Try.func29 rfl rfl) ?_
  refine Calls.mono (find_c b bm S p n w0 _ _ hs) ?_
  rintro e w_ ⟨rfl, hbw⟩
  refine ⟨_, rfl, ?_⟩
  have hs := hs.below_ hbw
  refine l_v (r_move rfl) ?_
  refine l_v (r_extract rfl rfl) ?_
  refine l_v (r_extract rfl rfl) ?_
  refine l_v (r_assign (v := .pointer _) rfl) ?_
  refine l_v (by first | exact (r_assign (v := iV _) rfl) | exact (r_assign rfl)) ?_
  refine l_nil (nrm_then ?_)
  refine c_seq ?_
  refine c_block ?_
  refine c_rseq ?_
  refine l_v (by first | exact (r_move (v := iV _) rfl) | exact (r_move rfl)) ?_
  refine l_v (r_neqi rfl rfl) ?_
  refine l_v (by first | exact (r_assign (v := bV _) rfl) | exact (r_assign rfl)) ?_
  refine l_nil (nrm_then ?_)
  refine c_cond rfl (fun h1 => ?_) (fun h1 => ?_)
  · replace h1 := of_decide_eq_true h1
    refine c_rseq ?_
    refine l_v (by first | exact (r_move (v := iV _) rfl) | exact (r_move rfl)) ?_
    refine l_v (by first | exact (r_assign (v := iV _) rfl) | exact (r_assign rfl)) ?_
    refine l_nil (nrm_then ?_)
    refine c_ret (ret_block (ret_then ?_))
    show Fin _ _ _ _ _
    refine fin1 rfl ?_
    rw [sync_no h1]
    exact ⟨rfl, disk_shut hs⟩
  · have h1' : findE S n = 0 := Decidable.of_not_not (of_decide_eq_false h1)
    obtain ⟨hd, x, hx⟩ := find_zero h1'
    have hp := fptr_zero (p := p) h1'
    rw [sync_yes h1' hx, hp]
    replace h1 := of_decide_eq_false h1
    refine c_rseq ?_
    refine l_v (r_move (v := .pointer _) rfl) ?_
    refine l_call (r_call Try.func30 rfl rfl) ?_
    refine Calls.mono (step_c b bm S ⟨hg.steps, hst⟩ hg.fuse w0 _ _ hs) ?_
    rintro e w_ ⟨rfl, hs⟩
    refine ⟨_, rfl, ?_⟩
    refine l_v (r_not rfl) ?_
    refine l_v (by first | exact (r_assign (v := bV _) rfl) | exact (r_assign rfl)) ?_
    refine l_nil (nrm_then ?_)
    rcases Bool.eq_false_or_eq_true (stepOk S) with hq | hq
    · have f : (!stepOk S) = false := by rw [hq]; rfl
      rw [if_pos hq]
      have hs := disk_file hg.nd hx hs
      obtain ⟨v, hs⟩ := file_open hs
      obtain ⟨A, c, rfl, hc⟩ := (hs.pull 1).rowForm
      refine c_false rfl (f) ?_
      refine c_skip (nrm_block (nrm_then ?_))
      refine c_rseq ?_
      refine l_v (r_move (v := .pointer _) rfl) ?_
      refine l_v (r_move (v := .pointer _) rfl) ?_
      refine l_v (by first | exact (r_nilCheck_p rfl) | exact (r_nilCheck_f rfl)) ?_
      refine l_v (by first | exact (r_fieldAddr0 (off := 1) (T := 61) (by kernel_rfl) rfl) | exact (r_fieldAddr (off := 1) (T := 61) (by kernel_rfl) rfl)) ?_
      refine l_v (by first | exact (r_load_at (i := 0) hs rfl Try.underlying61 rfl rfl) | exact (r_load_at (i := 1) hs rfl Try.underlying61 rfl rfl) | exact (r_load_at (i := 2) hs rfl Try.underlying61 rfl rfl) | exact (r_load_at (i := 3) hs rfl Try.underlying61 rfl rfl) | exact (r_load_at (i := 4) hs rfl Try.underlying61 rfl rfl) | exact (r_load_at (i := 5) hs rfl Try.underlying61 rfl rfl) | exact (r_load_at (i := 6) hs rfl Try.underlying61 rfl rfl)) ?_
      refine l_v (r_len_l Try.underlying61 rfl) ?_
      refine l_v (by first | exact (r_nilCheck_p rfl) | exact (r_nilCheck_f rfl)) ?_
      refine l_v (by first | exact (r_fieldAddr0 (off := 2) (T := 3) (by kernel_rfl) rfl) | exact (r_fieldAddr (off := 2) (T := 3) (by kernel_rfl) rfl)) ?_
      first | refine l_store (i := 0) (v := iV _) hs rfl I3 rfl rfl (by first | (simp; done) | (simp; omega) | omega) ?_ | refine l_store (i := 1) (v := iV _) hs rfl I3 rfl rfl (by first | (simp; done) | (simp; omega) | omega) ?_ | refine l_store (i := 2) (v := iV _) hs rfl I3 rfl rfl (by first | (simp; done) | (simp; omega) | omega) ?_ | refine l_store (i := 3) (v := iV _) hs rfl I3 rfl rfl (by first | (simp; done) | (simp; omega) | omega) ?_ | refine l_store (i := 4) (v := iV _) hs rfl I3 rfl rfl (by first | (simp; done) | (simp; omega) | omega) ?_ | refine l_store (i := 5) (v := iV _) hs rfl I3 rfl rfl (by first | (simp; done) | (simp; omega) | omega) ?_ | refine l_store (i := 6) (v := iV _) hs rfl I3 rfl rfl (by first | (simp; done) | (simp; omega) | omega) ?_
      intro w_ hs
      refine l_nil (nrm_then ?_)
      refine c_rseq ?_
      refine l_v (by first | exact (r_assign (v := iV _) rfl) | exact (r_assign rfl)) ?_
      refine l_nil (nrm_then ?_)
      refine c_ret ?_
      show Fin _ _ _ _ _
      refine fin1 rfl ?_
      exact ⟨rfl, disk_shut_put (S := S) (x' := ⟨x.tier, x.data, x.data.length⟩) rfl hx (file_shut hs)⟩
    · have f : (!stepOk S) = true := by rw [hq]; rfl
      rw [if_neg (by rw [hq]; decide)]
      refine c_true rfl (f) ?_
      refine c_rseq ?_
      refine l_v (by first | exact (r_assign (v := iV _) rfl) | exact (r_assign rfl)) ?_
      refine l_nil (nrm_then ?_)
      refine c_ret (ret_block (ret_then ?_))
      show Fin _ _ _ _ _
      refine fin1 rfl ?_
      refine ⟨rfl, disk_shut (bm := bm) (p := p) ?_⟩
      rw [(step_files S).1]
      exact hs
set_option maxHeartbeats 8000000 in
theorem read_c (b : Nat) (S : DiskS) (hg : GoodS S) (n a z : Int) (ha : -9223372036854775808 ≤ a ∧ a ≤ 9223372036854775807) (hz : -9223372036854775808 ≤ z ∧ z ≤ 9223372036854775807) (w0 w : World) (R : List HP) (hs : Eng.Sep w0 w (diskH b S :: R)) :
    Calls Try.prog 15 #[dp b, iV n, iV a, iV z] w fun e w' => e = .returned (.tuple #[sV (ofL (readS S n a z).1), iV (readS S n a z).2]) ∧ Below w.heap.size w w' := by
  obtain ⟨bm, p, hs⟩ := disk_open hs
  refine enter (P := Try.prog) Try.func15 rfl rfl ?_
  have hb0 : Below w.heap.size w w := Below.refl _ _
  refine c_rseq ?_
  refine l_v (by first | exact (r_assign (v := sV _) rfl) | exact (r_assign rfl)) ?_
  refine l_v (by first | exact (r_assign (v := iV _) rfl) | exact (r_assign rfl)) ?_
  refine l_nil (nrm_then ?_)
  refine c_rseq ?_
  refine l_v (r_move (v := .pointer _) rfl) ?_
  refine l_v (by first | exact (r_move (v := iV _) rfl) | exact (r_move rfl)) ?_
  refine l_call (r_call Try.func29 rfl rfl) ?_
  refine Calls.mono (find_c b bm S p n w0 _ _ hs) ?_
  rintro e w_ ⟨rfl, hbw⟩
  refine ⟨_, rfl, ?_⟩
  have hs := hs.below_ hbw
  have hb0 := hb0.trans hbw
  refine l_v (r_move rfl) ?_
  refine l_v (r_extract rfl rfl) ?_
  refine l_v (r_extract rfl rfl) ?_
  refine l_v (r_assign (v := .pointer _) rfl) ?_
  refine l_v (by first | exact (r_assign (v := iV _) rfl) | exact (r_assign rfl)) ?_
  refine l_nil (nrm_then ?_)
  refine c_seq ?_
  refine c_block ?_
  refine c_rseq ?_
  refine l_v (by first | exact (r_move (v := iV _) rfl) | exact (r_move rfl)) ?_
  refine l_v (r_neqi rfl rfl) ?_
  refine l_v (by first | exact (r_assign (v := bV _) rfl) | exact (r_assign rfl)) ?_
  refine l_nil (nrm_then ?_)
  refine c_cond rfl (fun h1 => ?_) (fun h1 => ?_)
  · replace h1 := of_decide_eq_true h1
    refine c_rseq ?_
    refine l_v (by first | exact (r_move (v := iV _) rfl) | exact (r_move rfl)) ?_
    refine l_v (by first | exact (r_assign (v := sV _) rfl) | exact (r_assign rfl)) ?_
    refine l_v (by first | exact (r_assign (v := iV _) rfl) | exact (r_assign rfl)) ?_
    refine l_nil (nrm_then ?_)
    refine c_ret (ret_block (ret_then ?_))
    show Fin _ _ _ _ _
    refine fin2 rfl ?_
    rw [read_no h1]
    exact ⟨rfl, hb0⟩
  · have h1' : findE S n = 0 := Decidable.of_not_not (of_decide_eq_false h1)
    obtain ⟨hd, x, hx⟩ := find_zero h1'
    have hp := fptr_zero (p := p) h1'
    obtain ⟨z1, z2, z3, z4, z5, z6⟩ := hg.size hx
    rw [read_yes h1' hx, hp]
    have hs := disk_file hg.nd hx hs
    obtain ⟨v, hs⟩ := file_open hs
    obtain ⟨A, c, rfl, hc⟩ := (hs.pull 1).rowForm
    have hrd := (hs.pull 1).rd
    replace h1 := of_decide_eq_false h1
    refine c_seq ?_
    refine c_mid [2, 3, 8, 9, 10] (fun f' w' => w' = w_ ∧ f' 22 = bV (decide (a < 0 ∨ z < 0 ∨ (x.data.length : Int) < a ∨ (x.data.length : Int) - a < z))) ?_ ?_
    · refine c_region ?_
      refine l_v (by first | exact (r_move (v := iV _) rfl) | exact (r_move rfl)) ?_
      refine l_v (r_lssi rfl rfl) ?_
      by_cases c1 : a < 0
      · have f1 : decide (a < 0) = true := decide_eq_true c1
        refine l_v (by first | exact (r_move (v := bV _) rfl) | exact (r_move rfl)) ?_
        refine l_no rfl (f1) ?_
        refine l_no rfl (f1) ?_
        refine l_v (r_pick_t rfl f1 rfl) ?_
        refine l_v (by first | exact (r_move (v := bV _) rfl) | exact (r_move rfl)) ?_
        refine l_no rfl (rfl) ?_
        refine l_no rfl (rfl) ?_
        refine l_no rfl (rfl) ?_
        refine l_no rfl (rfl) ?_
        refine l_no rfl (rfl) ?_
        refine l_no rfl (rfl) ?_
        refine l_no rfl (rfl) ?_
        refine l_v (r_pick_t rfl rfl rfl) ?_
        refine l_v (by first | exact (r_move (v := bV _) rfl) | exact (r_move rfl)) ?_
        refine l_no rfl (rfl) ?_
        refine l_no rfl (rfl) ?_
        refine l_no rfl (rfl) ?_
        refine l_no rfl (rfl) ?_
        refine l_no rfl (rfl) ?_
        refine l_no rfl (rfl) ?_
        refine l_no rfl (rfl) ?_
        refine l_no rfl (rfl) ?_
        refine l_no rfl (rfl) ?_
        refine l_v (r_pick_t rfl rfl rfl) ?_
        refine l_v (by first | exact (r_assign (v := bV _) rfl) | exact (r_assign rfl)) ?_
        refine l_nil (nrm_then ?_)
        refine And.intro (by refine ⟨?_, ?_, ?_, ?_, ?_, trivial⟩ <;> ((conv => lhs; whnf); (try conv => rhs; whnf))) ?_
        exact ⟨rfl, congrArg bV (decide_eq_true (Or.inl c1)).symm⟩
      · have f1 : decide (a < 0) = false := decide_eq_false c1
        refine l_v (by first | exact (r_move (v := bV _) rfl) | exact (r_move rfl)) ?_
        refine l_vg (by first | exact (r_move (v := iV _) rfl) | exact (r_move rfl)) rfl (f1) ?_
        refine l_vg (r_lssi rfl rfl) rfl (f1) ?_
        refine l_v (r_pick_f rfl f1 rfl) ?_
        by_cases c2 : z < 0
        · have f2 : decide (z < 0) = true := decide_eq_true c2
          refine l_v (by first | exact (r_move (v := bV _) rfl) | exact (r_move rfl)) ?_
          refine l_no rfl (f2) ?_
          refine l_no rfl (f2) ?_
          refine l_no rfl (f2) ?_
          refine l_no rfl (f2) ?_
          refine l_no rfl (f2) ?_
          refine l_no rfl (f2) ?_
          refine l_no rfl (f2) ?_
          refine l_v (r_pick_t rfl f2 rfl) ?_
          refine l_v (by first | exact (r_move (v := bV _) rfl) | exact (r_move rfl)) ?_
          refine l_no rfl (rfl) ?_
          refine l_no rfl (rfl) ?_
          refine l_no rfl (rfl) ?_
          refine l_no rfl (rfl) ?_
          refine l_no rfl (rfl) ?_
          refine l_no rfl (rfl) ?_
          refine l_no rfl (rfl) ?_
          refine l_no rfl (rfl) ?_
          refine l_no rfl (rfl) ?_
          refine l_v (r_pick_t rfl rfl rfl) ?_
          refine l_v (by first | exact (r_assign (v := bV _) rfl) | exact (r_assign rfl)) ?_
          refine l_nil (nrm_then ?_)
          refine And.intro (by refine ⟨?_, ?_, ?_, ?_, ?_, trivial⟩ <;> ((conv => lhs; whnf); (try conv => rhs; whnf))) ?_
          exact ⟨rfl, congrArg bV (decide_eq_true (Or.inr (Or.inl c2))).symm⟩
        · have f2 : decide (z < 0) = false := decide_eq_false c2
          refine l_v (by first | exact (r_move (v := bV _) rfl) | exact (r_move rfl)) ?_
          refine l_vg (by first | exact (r_move (v := iV _) rfl) | exact (r_move rfl)) rfl (f2) ?_
          refine l_vg (r_move (v := .pointer _) rfl) rfl (f2) ?_
          refine l_vg (by first | exact (r_nilCheck_p rfl) | exact (r_nilCheck_f rfl)) rfl (f2) ?_
          refine l_vg (by first | exact (r_fieldAddr0 (off := 1) (T := 61) (by kernel_rfl) rfl) | exact (r_fieldAddr (off := 1) (T := 61) (by kernel_rfl) rfl)) rfl (f2) ?_
          refine l_vg (by first | exact (r_load_at (i := 0) hs rfl Try.underlying61 rfl rfl) | exact (r_load_at (i := 1) hs rfl Try.underlying61 rfl rfl) | exact (r_load_at (i := 2) hs rfl Try.underlying61 rfl rfl) | exact (r_load_at (i := 3) hs rfl Try.underlying61 rfl rfl) | exact (r_load_at (i := 4) hs rfl Try.underlying61 rfl rfl) | exact (r_load_at (i := 5) hs rfl Try.underlying61 rfl rfl) | exact (r_load_at (i := 6) hs rfl Try.underlying61 rfl rfl)) rfl (f2) ?_
          refine l_vg (r_len_l Try.underlying61 rfl) rfl (f2) ?_
          refine l_vg (r_gtri rfl rfl) rfl (f2) ?_
          refine l_v (r_pick_f rfl f2 rfl) ?_
          by_cases c3 : a > (x.data.length : Int)
          · have f3 : decide (a > (x.data.length : Int)) = true := decide_eq_true c3
            refine l_v (by first | exact (r_move (v := bV _) rfl) | exact (r_move rfl)) ?_
            refine l_no rfl (f3) ?_
            refine l_no rfl (f3) ?_
            refine l_no rfl (f3) ?_
            refine l_no rfl (f3) ?_
            refine l_no rfl (f3) ?_
            refine l_no rfl (f3) ?_
            refine l_no rfl (f3) ?_
            refine l_no rfl (f3) ?_
            refine l_no rfl (f3) ?_
            refine l_v (r_pick_t rfl f3 rfl) ?_
            refine l_v (by first | exact (r_assign (v := bV _) rfl) | exact (r_assign rfl)) ?_
            refine l_nil (nrm_then ?_)
            refine And.intro (by refine ⟨?_, ?_, ?_, ?_, ?_, trivial⟩ <;> ((conv => lhs; whnf); (try conv => rhs; whnf))) ?_
            exact ⟨rfl, congrArg bV (decide_eq_true (by omega)).symm⟩
          · have f3 : decide (a > (x.data.length : Int)) = false := decide_eq_false c3
            refine l_v (by first | exact (r_move (v := bV _) rfl) | exact (r_move rfl)) ?_
            refine l_vg (by first | exact (r_move (v := iV _) rfl) | exact (r_move rfl)) rfl (f3) ?_
            refine l_vg (r_move (v := .pointer _) rfl) rfl (f3) ?_
            refine l_vg (by first | exact (r_nilCheck_p rfl) | exact (r_nilCheck_f rfl)) rfl (f3) ?_
            refine l_vg (by first | exact (r_fieldAddr0 (off := 1) (T := 61) (by kernel_rfl) rfl) | exact (r_fieldAddr (off := 1) (T := 61) (by kernel_rfl) rfl)) rfl (f3) ?_
            refine l_vg (by first | exact (r_load_at (i := 0) hs rfl Try.underlying61 rfl rfl) | exact (r_load_at (i := 1) hs rfl Try.underlying61 rfl rfl) | exact (r_load_at (i := 2) hs rfl Try.underlying61 rfl rfl) | exact (r_load_at (i := 3) hs rfl Try.underlying61 rfl rfl) | exact (r_load_at (i := 4) hs rfl Try.underlying61 rfl rfl) | exact (r_load_at (i := 5) hs rfl Try.underlying61 rfl rfl) | exact (r_load_at (i := 6) hs rfl Try.underlying61 rfl rfl)) rfl (f3) ?_
            refine l_vg (r_len_l Try.underlying61 rfl) rfl (f3) ?_
            refine l_vg (by first | exact (r_move (v := iV _) rfl) | exact (r_move rfl)) rfl (f3) ?_
            refine l_vg (r_subi rfl rfl (by omega)) rfl (f3) ?_
            refine l_vg (r_gtri rfl rfl) rfl (f3) ?_
            refine l_v (r_pick_f rfl f3 rfl) ?_
            refine l_v (by first | exact (r_assign (v := bV _) rfl) | exact (r_assign rfl)) ?_
            refine l_nil (nrm_then ?_)
            refine And.intro (by refine ⟨?_, ?_, ?_, ?_, ?_, trivial⟩ <;> ((conv => lhs; whnf); (try conv => rhs; whnf))) ?_
            exact ⟨rfl, congrArg bV (decide_eq_decide.2 (by omega))⟩
    · rintro g w_ ⟨rfl, h22⟩
      show OkC _ _ _ _ _ _
      refine OkC.env ?_ (fixH (L := [(22, _)]) ⟨h22, trivial⟩)
      clear h22
      refine c_cond rfl (fun h2 => ?_) (fun h2 => ?_)
      · replace h2 := of_decide_eq_true h2
        refine c_rseq ?_
        refine l_v (by first | exact (r_assign (v := sV _) rfl) | exact (r_assign rfl)) ?_
        refine l_v (by first | exact (r_assign (v := iV _) rfl) | exact (r_assign rfl)) ?_
        refine l_nil (nrm_then ?_)
        refine c_ret (ret_block (ret_then ?_))
        show Fin _ _ _ _ _
        refine fin2 rfl ?_
        rw [if_pos h2]
        exact ⟨rfl, hb0⟩
      · have h2' := of_decide_eq_false h2
        rw [if_neg h2']
        obtain ⟨k, rfl⟩ : ∃ k : Nat, a = (k : Int) := ⟨a.toNat, by omega⟩
        obtain ⟨q, rfl⟩ : ∃ q : Nat, z = (q : Int) := ⟨z.toNat, by omega⟩
        rw [Int.toNat_natCast, Int.toNat_natCast]
        have hmid := rd_mid (l := k) (h := k + q) hrd (by omega) (by omega) hc
        rw [Nat.add_sub_cancel_left] at hmid
        replace h2 := of_decide_eq_false h2
        refine c_skip (nrm_block (nrm_then ?_))
        refine c_rseq ?_
        refine l_v (r_move (v := .pointer _) rfl) ?_
        refine l_v (by first | exact (r_nilCheck_p rfl) | exact (r_nilCheck_f rfl)) ?_
        refine l_v (by first | exact (r_fieldAddr0 (off := 1) (T := 61) (by kernel_rfl) rfl) | exact (r_fieldAddr (off := 1) (T := 61) (by kernel_rfl) rfl)) ?_
        refine l_v (by first | exact (r_load_at (i := 0) hs rfl Try.underlying61 rfl rfl) | exact (r_load_at (i := 1) hs rfl Try.underlying61 rfl rfl) | exact (r_load_at (i := 2) hs rfl Try.underlying61 rfl rfl) | exact (r_load_at (i := 3) hs rfl Try.underlying61 rfl rfl) | exact (r_load_at (i := 4) hs rfl Try.underlying61 rfl rfl) | exact (r_load_at (i := 5) hs rfl Try.underlying61 rfl rfl) | exact (r_load_at (i := 6) hs rfl Try.underlying61 rfl rfl)) ?_
        refine l_v (by first | exact (r_move (v := iV _) rfl) | exact (r_move rfl)) ?_
        refine l_v (by first | exact (r_move (v := iV _) rfl) | exact (r_move rfl)) ?_
        refine l_v (by first | exact (r_move (v := iV _) rfl) | exact (r_move rfl)) ?_
        refine l_v (r_addi rfl rfl (by omega)) ?_
        refine l_v (r_slice_plh k (k + q) Try.underlying61 I5 rfl rfl rfl (by omega)) ?_
        refine l_v (r_cv_bs (l := (x.data.drop k).take q) Try.underlying61 Try.underlying5 Try.underlying9 rfl (by rw [Nat.add_sub_cancel_left]; exact hmid)) ?_
        refine l_v (by first | exact (r_assign (v := sV _) rfl) | exact (r_assign rfl)) ?_
        refine l_v (by first | exact (r_assign (v := iV _) rfl) | exact (r_assign rfl)) ?_
        refine l_nil (nrm_then ?_)
        refine c_ret ?_
        show Fin _ _ _ _ _
        refine fin2 rfl ?_
        exact ⟨rfl, hb0⟩
end Go.Proofs.Ytnneoipoaoefkaa.Dsk
