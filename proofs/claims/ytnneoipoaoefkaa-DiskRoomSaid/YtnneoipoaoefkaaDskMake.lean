/- The walk of Make. -/
import Derived.Test.YtnneoipoaoefkaaDskOps
namespace Go.Proofs.Ytnneoipoaoefkaa.Dsk
open Go Go.RowKit Go.Proofs.Ytnneoipoaoefkaa.Eng
set_option linter.unusedVariables false
set_option maxRecDepth 100000
theorem cells_used1 {S : DiskS} {bm t : Nat} (h : t < 2) : (cellsD S bm)[3 + t * 1]? = some (iV (S.used t)) := by rw [Nat.mul_one]; exact cells_used h
theorem cells_room1 {S : DiskS} {bm t : Nat} (h : t < 2) : (cellsD S bm)[1 + t * 1]? = some (iV (S.room t)) := by rw [Nat.mul_one]; exact cells_room h
theorem cells_set1 {S : DiskS} {bm t : Nat} {v : Int} (h : t < 2) : (cellsD S bm).set (3 + t * 1) (iV v) = cellsD (setUsed S t v) bm := by rw [Nat.mul_one]; exact cells_set_used h
theorem find_cases (S : DiskS) (n : Int) : findE S n = 8 ∨ findE S n = 0 ∨ (findE S n = 9 ∧ S.get n = none) := by
  unfold findE
  split
  · exact .inl rfl
  · split
    · exact .inr (.inl rfl)
    · rename_i h
      refine .inr (.inr ⟨rfl, ?_⟩)
      cases hx : S.get n with
      | none => rfl
      | some x => rw [hx] at h; exact absurd rfl h
set_option maxHeartbeats 8000000 in
theorem make_c (b : Nat) (S : DiskS) (hg : GoodS S) (hst : S.steps ≤ 4611686018427387904) (t n : Int) (w0 w : World) (R : List HP) (hs : Eng.Sep w0 w (diskH b S :: R)) :
    Calls Try.prog 13 #[dp b, iV t, iV n] w fun e w' => e = .returned (iV (makeS S t n).2) ∧ Eng.Sep w0 w' (diskH b (makeS S t n).1 :: R) := by
  obtain ⟨bm, p, hs⟩ := disk_open hs
  unfold makeS
  refine enter (P := Try.prog) Try.func13 rfl rfl ?_
  refine c_rseq ?_
  refine l_v (by first | exact (r_assign (v := iV _) rfl) | exact (r_assign rfl)) ?_
  refine l_nil (nrm_then ?_)
  refine c_rseq ?_
  refine l_v (r_move (v := .pointer _) rfl) ?_
  refine l_v (by first | exact (r_move (v := iV _) rfl) | exact (r_move rfl)) ?_
  refine l_call (r_call Try.func29 rfl rfl) ?_
  refine Calls.mono (find_c b bm S p n w0 _ _ hs) ?_
  rintro e w_ ⟨rfl, hbw⟩
  refine ⟨_, rfl, ?_⟩
  have hs := hs.below_ hbw
  have hfc := find_cases S n
  generalize hE : findE S n = E at *
  refine l_v (r_move rfl) ?_
  refine l_v (r_extract rfl rfl) ?_
  refine l_v (r_extract rfl rfl) ?_
  refine l_v (r_assign (v := .pointer _) rfl) ?_
  refine l_v (by first | exact (r_assign (v := iV _) rfl) | exact (r_assign rfl)) ?_
  refine l_nil (nrm_then ?_)
  refine c_seq ?_
  refine c_block ?_
  refine c_rseq ?_
  refine l_v (by first | exact (r_move (v := iV _) rfl) | exact (r_move rfl)) ?_
  refine l_v (r_eqli rfl rfl) ?_
  refine l_v (by first | exact (r_assign (v := bV _) rfl) | exact (r_assign rfl)) ?_
  refine l_nil (nrm_then ?_)
  refine c_cond rfl (fun h1 => ?_) (fun h1 => ?_)
  · replace h1 := of_decide_eq_true h1
    refine c_rseq ?_
    refine l_v (by first | exact (r_move (v := iV _) rfl) | exact (r_move rfl)) ?_
    refine l_v (by first | exact (r_assign (v := iV _) rfl) | exact (r_assign rfl)) ?_
    refine l_nil (nrm_then ?_)
    refine c_ret (ret_block (ret_then ?_))
    show Fin _ _ _ _ _
    refine fin1 rfl ?_
    rw [if_pos h1]
    exact ⟨congrArg Ending.returned (congrArg iV h1), disk_shut hs⟩
  · rw [if_neg (of_decide_eq_false h1)]
    replace h1 := of_decide_eq_false h1
    refine c_seq ?_
    refine c_mid [0, 1, 2, 6, 8] (fun f' w' => w' = w_ ∧ f' 19 = bV (decide ((t ≠ 0 ∧ t ≠ 1) ∨ n < 1))) ?_ ?_
    · refine c_region ?_
      refine l_v (by first | exact (r_move (v := iV _) rfl) | exact (r_move rfl)) ?_
      refine l_v (r_neqi rfl rfl) ?_
      by_cases c1 : t ≠ 0
      · have f1 : decide (t ≠ 0) = true := decide_eq_true c1
        refine l_v (by first | exact (r_move (v := bV _) rfl) | exact (r_move rfl)) ?_
        refine l_vg (by first | exact (r_move (v := iV _) rfl) | exact (r_move rfl)) rfl (f1) ?_
        refine l_vg (r_neqi rfl rfl) rfl (f1) ?_
        refine l_v (r_pick_t rfl f1 rfl) ?_
        by_cases c2 : t ≠ 1
        · have f2 : decide (t ≠ 1) = true := decide_eq_true c2
          refine l_v (by first | exact (r_move (v := bV _) rfl) | exact (r_move rfl)) ?_
          refine l_no rfl (f2) ?_
          refine l_no rfl (f2) ?_
          refine l_v (r_pick_t rfl f2 rfl) ?_
          refine l_v (by first | exact (r_assign (v := bV _) rfl) | exact (r_assign rfl)) ?_
          refine l_nil (nrm_then ?_)
          refine And.intro (by refine ⟨?_, ?_, ?_, ?_, ?_, trivial⟩ <;> ((conv => lhs; whnf); (try conv => rhs; whnf))) ?_
          exact ⟨rfl, congrArg bV (decide_eq_true (Or.inl ⟨c1, c2⟩)).symm⟩
        · have f2 : decide (t ≠ 1) = false := decide_eq_false c2
          refine l_v (by first | exact (r_move (v := bV _) rfl) | exact (r_move rfl)) ?_
          refine l_vg (by first | exact (r_move (v := iV _) rfl) | exact (r_move rfl)) rfl (f2) ?_
          refine l_vg (r_lssi rfl rfl) rfl (f2) ?_
          refine l_v (r_pick_f rfl f2 rfl) ?_
          refine l_v (by first | exact (r_assign (v := bV _) rfl) | exact (r_assign rfl)) ?_
          refine l_nil (nrm_then ?_)
          refine And.intro (by refine ⟨?_, ?_, ?_, ?_, ?_, trivial⟩ <;> ((conv => lhs; whnf); (try conv => rhs; whnf))) ?_
          exact ⟨rfl, congrArg bV (decide_eq_decide.2 ⟨fun h => .inr h, fun h => h.elim (fun h => absurd h.2 c2) id⟩)⟩
      · have f1 : decide (t ≠ 0) = false := decide_eq_false c1
        refine l_v (by first | exact (r_move (v := bV _) rfl) | exact (r_move rfl)) ?_
        refine l_no rfl (f1) ?_
        refine l_no rfl (f1) ?_
        refine l_v (r_pick_f rfl f1 rfl) ?_
        refine l_v (by first | exact (r_move (v := bV _) rfl) | exact (r_move rfl)) ?_
        refine l_vg (by first | exact (r_move (v := iV _) rfl) | exact (r_move rfl)) rfl (rfl) ?_
        refine l_vg (r_lssi rfl rfl) rfl (rfl) ?_
        refine l_v (r_pick_f rfl rfl rfl) ?_
        refine l_v (by first | exact (r_assign (v := bV _) rfl) | exact (r_assign rfl)) ?_
        refine l_nil (nrm_then ?_)
        refine And.intro (by refine ⟨?_, ?_, ?_, ?_, ?_, trivial⟩ <;> ((conv => lhs; whnf); (try conv => rhs; whnf))) ?_
        exact ⟨rfl, congrArg bV (decide_eq_decide.2 ⟨fun h => .inr h, fun h => h.elim (fun h => absurd h.1 c1) id⟩)⟩
    · rintro g w_ ⟨rfl, h19⟩
      show OkC _ _ _ _ _ _
      refine OkC.env ?_ (fixH (L := [(19, _)]) ⟨h19, trivial⟩)
      clear h19
      refine c_cond rfl (fun h2 => ?_) (fun h2 => ?_)
      · replace h2 := of_decide_eq_true h2
        refine c_rseq ?_
        refine l_v (by first | exact (r_assign (v := iV _) rfl) | exact (r_assign rfl)) ?_
        refine l_nil (nrm_then ?_)
        refine c_ret (ret_block (ret_then ?_))
        show Fin _ _ _ _ _
        refine fin1 rfl ?_
        rw [if_pos h2]
        exact ⟨rfl, disk_shut hs⟩
      · have h2' := of_decide_eq_false h2
        rw [if_neg h2']
        obtain ⟨h2a, h2b⟩ := not_or.1 h2'
        obtain ⟨k, rfl, hk⟩ := tier_nat h2a
        rw [Int.toNat_natCast]
        replace h2 := of_decide_eq_false h2
        refine c_rseq ?_
        refine l_v (by first | exact (r_move (v := iV _) rfl) | exact (r_move rfl)) ?_
        refine l_v (r_eqli rfl rfl) ?_
        refine l_v (by first | exact (r_assign (v := bV _) rfl) | exact (r_assign rfl)) ?_
        refine l_nil (nrm_then ?_)
        refine c_cond rfl (fun h3 => ?_) (fun h3 => ?_)
        · replace h3 := of_decide_eq_true h3
          refine c_rseq ?_
          refine l_v (by first | exact (r_assign (v := iV _) rfl) | exact (r_assign rfl)) ?_
          refine l_nil (nrm_then ?_)
          refine c_ret (ret_block (ret_then ?_))
          show Fin _ _ _ _ _
          refine fin1 rfl ?_
          rw [if_pos h3]
          exact ⟨rfl, disk_shut hs⟩
        · have h3' := of_decide_eq_false h3
          rw [if_neg h3']
          have hnone : S.get n = none := by
            rcases hfc with h | h | h
            · exact absurd h h1
            · exact absurd h h3'
            · exact h.2
          replace h3 := of_decide_eq_false h3
          refine c_seq ?_
          refine c_still (by kernel_rfl) (by kernel_rfl) ?_
          have hs := hs.drew
          refine s_v (r_move (v := .pointer _) rfl) ?_
          refine s_v (by first | exact (r_move (v := iV _) rfl) | exact (r_move rfl)) ?_
          refine s_v (by first | exact (r_nilCheck_p rfl) | exact (r_nilCheck_f rfl)) ?_
          refine s_v (by first | exact (r_fieldAddr0 (off := 3) (T := 55) (by kernel_rfl) rfl) | exact (r_fieldAddr (off := 3) (T := 55) (by kernel_rfl) rfl)) ?_
          refine s_v (r_indexAddr_a (k := k) Try.underlying55 I3 rfl rfl hk) ?_
          refine s_v (r_load_at (i := 0) hs rfl Try.underlying3 rfl (cells_used1 hk)) ?_
          refine s_v (r_move (v := .pointer _) rfl) ?_
          refine s_v (by first | exact (r_move (v := iV _) rfl) | exact (r_move rfl)) ?_
          refine s_v (by first | exact (r_nilCheck_p rfl) | exact (r_nilCheck_f rfl)) ?_
          refine s_v (by first | exact (r_fieldAddr0 (off := 1) (T := 55) (by kernel_rfl) rfl) | exact (r_fieldAddr (off := 1) (T := 55) (by kernel_rfl) rfl)) ?_
          refine s_v (r_indexAddr_a (k := k) Try.underlying55 I3 rfl rfl hk) ?_
          refine s_v (r_load_at (i := 0) hs rfl Try.underlying3 rfl (cells_room1 hk)) ?_
          refine s_v (r_eqli rfl rfl) ?_
          refine s_v (by first | exact (r_assign (v := bV _) rfl) | exact (r_assign rfl)) ?_
          refine s_nil (nrm_then ?_)
          refine c_cond rfl (fun h4 => ?_) (fun h4 => ?_)
          · replace h4 := of_decide_eq_true h4
            refine c_rseq ?_
            refine l_v (by first | exact (r_assign (v := iV _) rfl) | exact (r_assign rfl)) ?_
            refine l_nil (nrm_then ?_)
            refine c_ret (ret_block (ret_then ?_))
            show Fin _ _ _ _ _
            refine fin1 rfl ?_
            rw [if_pos h4]
            exact ⟨rfl, disk_shut hs⟩
          · rw [if_neg (of_decide_eq_false h4)]
            replace h4 := of_decide_eq_false h4
            refine c_rseq ?_
            refine l_v (r_move (v := .pointer _) rfl) ?_
            refine l_call (r_call Try.func30 rfl rfl) ?_
            refine Calls.mono (step_c b bm S ⟨hg.steps, hst⟩ hg.fuse w0 _ _ hs) ?_
            rintro e w_ ⟨rfl, hs⟩
            refine ⟨_, rfl, ?_⟩
            refine l_v (r_not rfl) ?_
            refine l_v (by first | exact (r_assign (v := bV _) rfl) | exact (r_assign rfl)) ?_
            refine l_nil (nrm_then ?_)
            rcases Bool.eq_false_or_eq_true (stepOk S) with hq | hq
            · have f : (!stepOk S) = false := by rw [hq]; rfl
              rw [if_pos hq]
              refine c_false rfl (f) ?_
              refine c_skip (nrm_block (nrm_then ?_))
              refine c_rseq ?_
              refine l_v (r_move (v := .pointer _) rfl) ?_
              refine l_v (by first | exact (r_nilCheck_p rfl) | exact (r_nilCheck_f rfl)) ?_
              refine l_v (by first | exact (r_fieldAddr0 (off := 0) (T := 54) (by kernel_rfl) rfl) | exact (r_fieldAddr (off := 0) (T := 54) (by kernel_rfl) rfl)) ?_
              refine l_v (by first | exact (r_load_at (i := 0) hs rfl Try.underlying54 rfl rfl) | exact (r_load_at (i := 1) hs rfl Try.underlying54 rfl rfl) | exact (r_load_at (i := 2) hs rfl Try.underlying54 rfl rfl) | exact (r_load_at (i := 3) hs rfl Try.underlying54 rfl rfl) | exact (r_load_at (i := 4) hs rfl Try.underlying54 rfl rfl) | exact (r_load_at (i := 5) hs rfl Try.underlying54 rfl rfl) | exact (r_load_at (i := 6) hs rfl Try.underlying54 rfl rfl)) ?_
              refine l_v (by first | exact (r_move (v := iV _) rfl) | exact (r_move rfl)) ?_
              refine l_v (by first | exact (r_move (v := iV _) rfl) | exact (r_move rfl)) ?_
              refine l_v (r_build (l := [(0, iV _), (2, iV _)]) rfl ((fun (x0 : Int) (x2 : Int) => (by kernel_rfl : Program.built Try.prog 63 [(0, iV x0), (2, iV x2)] = some #[iV x0, .slice none 0 0, iV x2])) _ _)) ?_
              refine l_box hs rfl ?_
              intro b58 w58 hs hB58 hlt58
              have hs := hs.pull 2
              obtain ⟨hsf, hsr, hsu, hst2⟩ := step_files S
              refine l_mapUpdate (k := iV n) (v := dp b58) hs Try.underlying54 Try.underlying3 rfl rfl rfl rfl ?_
              intro w58 hs
              refine l_nil (nrm_then ?_)
              refine c_seq ?_
              have hs := hs.pull 2
              refine c_tail 9 (by kernel_rfl) (by kernel_rfl) ?_
              have hs := hs.drew
              show OkS _ _ _ _ _ (_ :: _) _
              refine s_v (r_move (v := .pointer _) rfl) ?_
              refine s_v (by first | exact (r_move (v := iV _) rfl) | exact (r_move rfl)) ?_
              refine s_v (by first | exact (r_nilCheck_p rfl) | exact (r_nilCheck_f rfl)) ?_
              refine s_v (by first | exact (r_fieldAddr0 (off := 3) (T := 55) (by kernel_rfl) rfl) | exact (r_fieldAddr (off := 3) (T := 55) (by kernel_rfl) rfl)) ?_
              refine s_v (r_indexAddr_a (k := k) Try.underlying55 I3 rfl rfl hk) ?_
              refine s_v (r_load_at (i := 0) hs rfl Try.underlying3 rfl (cells_used1 hk)) ?_
              refine s_v (r_addi rfl rfl (by have := hg.le k hk; rw [hsu]; have := hg.sum k hk; omega)) ?_
              refine s_v (by first | exact (r_nilCheck_p rfl) | exact (r_nilCheck_f rfl)) ?_
              refine s_v (by first | exact (r_fieldAddr0 (off := 3) (T := 55) (by kernel_rfl) rfl) | exact (r_fieldAddr (off := 3) (T := 55) (by kernel_rfl) rfl)) ?_
              refine s_nil ?_
              show OkL _ _ _ _ (_ :: _) _ _
              refine l_v (r_indexAddr_a (k := k) Try.underlying55 I3 rfl rfl hk) ?_
              refine l_store (i := 0) hs rfl I3 rfl rfl (by show 3 + k * 1 < 9; omega) ?_
              intro w68 hs
              refine l_nil (nrm_then ?_)
              refine c_rseq ?_
              refine l_v (by first | exact (r_assign (v := iV _) rfl) | exact (r_assign rfl)) ?_
              refine l_nil (nrm_then ?_)
              refine c_ret ?_
              show Fin _ _ _ _ _
              refine fin1 rfl ?_
              refine ⟨rfl, disk_shut (bm := bm) (p := fun m => if m = n then b58 else p m) ?_⟩
              have hs : Eng.Sep w0 w68 (blkD b (setUsed (stepS S) k ((stepS S).used k + 1)) bm :: mapH (.int .i64) bm (mput (mapF S.files p) (iV n) (dp b58)) :: blk b58 [iV (k : Int), .slice none 0 0, iV (-1)] 63 :: (filesH S.files p ++ R)) := by
                rw [blkD, ← cells_set1 hk]; exact hs
              have hs := ((hs.pull 2).rowNil 5 1).pull 1
              have hs := file_shut (x := ⟨k, [], -1⟩) hs
              have hs := ((hs.pull 1).pull 2).pull 1
              have e1 : mapF (fput S.files n ⟨k, [], -1⟩) (fun m => if m = n then b58 else p m) = mput (mapF S.files p) (iV n) (dp b58) := mapF_new hnone
              have e2 : filesH (fput S.files n ⟨k, [], -1⟩) (fun m => if m = n then b58 else p m) = fileH b58 ⟨k, [], -1⟩ :: filesH S.files p := by
                unfold fput
                rw [fdel_same (fget_none hnone)]
                have e3 := filesH_new (p := p) (bf := b58) (fget_none hnone)
                unfold filesH at e3 ⊢
                rw [List.map_cons, e3]
                simp only [if_pos]
              show Eng.Sep w0 w68 (blkD b (setUsed (stepS S) k (S.used k + 1)) bm :: mapH (.int .i64) bm (mapF (fput S.files n ⟨k, [], -1⟩) (fun m => if m = n then b58 else p m)) :: (filesH (fput S.files n ⟨k, [], -1⟩) (fun m => if m = n then b58 else p m) ++ R))
              rw [e1, e2, ← hsu]
              exact hs
            · have f : (!stepOk S) = true := by rw [hq]; rfl
              rw [if_neg (by rw [hq]; decide)]
              refine c_true rfl (f) ?_
              refine c_rseq ?_
              refine l_v (by first | exact (r_assign (v := iV _) rfl) | exact (r_assign rfl)) ?_
              refine l_nil (nrm_then ?_)
              refine c_ret (ret_block (ret_then ?_))
              show Fin _ _ _ _ _
              refine fin1 rfl ?_
              refine ⟨rfl, disk_shut (bm := bm) (p := p) ?_⟩
              rw [(step_files S).1]
              exact hs
end Go.Proofs.Ytnneoipoaoefkaa.Dsk
