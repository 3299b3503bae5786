/- The walk of Replay, and of the law WalReplays. -/
import Derived.Test.YtlkljeghhahedaaWalRSplit
import Derived.Test.YtlkljeghhahedaaDskOne
import Derived.Test.YtlkljeghhahedaaDskAdd
import Derived.Test.YtlkljeghhahedaaSixSame
namespace Go.Proofs.Ytlkljeghhahedaa.Wal
open Go Go.RowKit Go.Proofs.Ytlkljeghhahedaa.Eng Go.Proofs.Ytlkljeghhahedaa.Six Go.Proofs.Ytlkljeghhahedaa.CrcFn Go.Proofs.Ytlkljeghhahedaa.Dsk
set_option linter.unusedVariables false
set_option maxRecDepth 100000
def replayS (S : DiskS) (n : Int) : List (List UInt8) × Bool × Int :=
  if (sizeS S n).2.2 ≠ 0 then ([], false, (sizeS S n).2.2) else
  if (readS S n 0 (sizeS S n).1).2 ≠ 0 then ([], false, (readS S n 0 (sizeS S n).1).2) else
  ((splitA ((readS S n 0 (sizeS S n).1).1.length + 1) [] 0 (readS S n 0 (sizeS S n).1).1).1, decide (((splitA ((readS S n 0 (sizeS S n).1).1.length + 1) [] 0 (readS S n 0 (sizeS S n).1).1).2 : Int) = (sizeS S n).1), 0)
set_option maxHeartbeats 4000000 in
theorem replay_c (b : Nat) (S : DiskS) (hg : GoodS S) (n : Int) (hz : ∀ x, S.get n = some x → x.data.length ≤ 16777216) (w0 w : World) (R : List HP) (hs : Eng.Sep w0 w (diskH b S :: R)) :
    Calls Try.prog 20 #[dp b, iV n] w fun e w' => ∃ v, e = .returned (.tuple #[v, bV (replayS S n).2.1, iV (replayS S n).2.2]) ∧ Eng.Sep w0 w' (rowS v (replayS S n).1 :: diskH b S :: R) := by
  unfold replayS
  have hsz : 0 ≤ (sizeS S n).1 ∧ (sizeS S n).1 ≤ 16777216 := by
    by_cases h : findE S n = 0
    · obtain ⟨_, x, hx⟩ := find_zero h
      have := hz x hx
      rw [size_yes h hx]; dsimp only; omega
    · rw [size_no h]; dsimp only; omega
  have hrl : (readS S n 0 (sizeS S n).1).1.length ≤ 16777216 := by
    by_cases h : findE S n = 0
    · obtain ⟨_, x, hx⟩ := find_zero h
      have := hz x hx
      rw [read_yes h hx]
      split
      · simp
      · dsimp only; rw [List.length_take, List.length_drop]; omega
    · rw [read_no h]; simp
  refine enter (P := Try.prog) Try.func20 rfl rfl ?_
  refine c_rseq ?_
  refine l_v (by first | exact (r_assign (v := .slice _ _ _) rfl) | exact (r_assign rfl)) ?_
  refine l_v (by first | exact (r_assign (v := bV _) rfl) | exact (r_assign rfl)) ?_
  refine l_v (by first | exact (r_assign (v := iV _) rfl) | exact (r_assign rfl)) ?_
  refine l_nil (nrm_then ?_)
  refine c_rseq ?_
  refine l_v (r_move (v := .pointer _) rfl) ?_
  refine l_v (by first | exact (r_move (v := iV _) rfl) | exact (r_move rfl)) ?_
  refine l_call (r_call Try.func26 rfl rfl) ?_
  refine Calls.mono (size_c b S hg n w0 _ _ hs) ?_
  rintro e w_ ⟨rfl, hb⟩
  refine ⟨_, rfl, ?_⟩
  have hs := hs.below_ hb
  generalize sizeS S n = Z at *
  refine l_v (r_move rfl) ?_
  refine l_v (r_extract rfl rfl) ?_
  refine l_v (r_extract rfl rfl) ?_
  refine l_v (r_extract rfl rfl) ?_
  refine l_v (by first | exact (r_assign (v := iV _) rfl) | exact (r_assign rfl)) ?_
  refine l_v (by first | exact (r_assign (v := iV _) rfl) | exact (r_assign rfl)) ?_
  refine l_v (by first | exact (r_assign (v := iV _) rfl) | exact (r_assign rfl)) ?_
  refine l_nil (nrm_then ?_)
  refine c_seq ?_
  refine c_rseq ?_
  refine l_v (by first | exact (r_move (v := iV _) rfl) | exact (r_move rfl)) ?_
  refine l_v (r_neqi rfl rfl) ?_
  refine l_nil (nrm_then ?_)
  refine c_cond rfl (fun h1 => ?_) (fun h1 => ?_)
  · replace h1 := of_decide_eq_true h1
    refine c_rseq ?_
    refine l_v (by first | exact (r_move (v := iV _) rfl) | exact (r_move rfl)) ?_
    refine l_v (by first | exact (r_assign (v := .slice _ _ _) rfl) | exact (r_assign rfl)) ?_
    refine l_v (by first | exact (r_assign (v := bV _) rfl) | exact (r_assign rfl)) ?_
    refine l_v (by first | exact (r_assign (v := iV _) rfl) | exact (r_assign rfl)) ?_
    refine l_nil (nrm_then ?_)
    refine c_ret (ret_then ?_)
    show Fin _ _ _ _ _
    refine fin3 rfl ?_
    rw [if_pos h1]
    exact ⟨_, rfl, hs.rowNil 9 1⟩
  · replace h1 := of_decide_eq_false h1
    refine c_skip (nrm_then ?_)
    refine c_rseq ?_
    refine l_v (r_move (v := .pointer _) rfl) ?_
    refine l_v (by first | exact (r_move (v := iV _) rfl) | exact (r_move rfl)) ?_
    refine l_v (by first | exact (r_move (v := iV _) rfl) | exact (r_move rfl)) ?_
    rw [if_neg h1]
    refine l_call (r_call Try.func27 rfl rfl) ?_
    refine Calls.mono (read_c b S hg n 0 Z.1 (by omega) (by omega) w0 _ _ hs) ?_
    rintro e w_ ⟨rfl, hb⟩
    refine ⟨_, rfl, ?_⟩
    have hs := hs.below_ hb
    generalize readS S n 0 Z.1 = Q at *
    have hqz : (ofL Q.1).size = Q.1.length := rfl
    refine l_v (r_move rfl) ?_
    refine l_v (r_extract rfl rfl) ?_
    refine l_v (r_extract rfl rfl) ?_
    refine l_v (by first | exact (r_assign (v := sV _) rfl) | exact (r_assign rfl)) ?_
    refine l_v (by first | exact (r_assign (v := iV _) rfl) | exact (r_assign rfl)) ?_
    refine l_nil (nrm_then ?_)
    refine c_seq ?_
    refine c_rseq ?_
    refine l_v (by first | exact (r_move (v := iV _) rfl) | exact (r_move rfl)) ?_
    refine l_v (r_neqi rfl rfl) ?_
    refine l_nil (nrm_then ?_)
    refine c_cond rfl (fun h2 => ?_) (fun h2 => ?_)
    · replace h2 := of_decide_eq_true h2
      refine c_rseq ?_
      refine l_v (by first | exact (r_move (v := iV _) rfl) | exact (r_move rfl)) ?_
      refine l_v (by first | exact (r_assign (v := .slice _ _ _) rfl) | exact (r_assign rfl)) ?_
      refine l_v (by first | exact (r_assign (v := bV _) rfl) | exact (r_assign rfl)) ?_
      refine l_v (by first | exact (r_assign (v := iV _) rfl) | exact (r_assign rfl)) ?_
      refine l_nil (nrm_then ?_)
      refine c_ret (ret_then ?_)
      show Fin _ _ _ _ _
      refine fin3 rfl ?_
      rw [if_pos h2]
      exact ⟨_, rfl, hs.rowNil 9 1⟩
    · replace h2 := of_decide_eq_false h2
      refine c_skip (nrm_then ?_)
      refine c_rseq ?_
      refine l_v (by first | exact (r_move (v := sV _) rfl) | exact (r_move rfl)) ?_
      rw [if_neg h2]
      refine l_call (r_call Try.func12 rfl rfl) ?_
      refine Calls.mono (split_c (ofL Q.1) (by omega) w0 _ _ hs) ?_
      rintro e w_ ⟨v, rfl, hs⟩
      refine ⟨_, rfl, ?_⟩
      rw [hqz, Eng.toL_ofL] at hs ⊢
      refine l_v (r_move rfl) ?_
      refine l_v (r_extract rfl rfl) ?_
      refine l_v (r_extract rfl rfl) ?_
      refine l_v (by first | exact (r_assign (v := .slice _ _ _) rfl) | exact (r_assign rfl)) ?_
      refine l_v (by first | exact (r_assign (v := iV _) rfl) | exact (r_assign rfl)) ?_
      refine l_nil (nrm_then ?_)
      refine c_rseq ?_
      refine l_v (by first | exact (r_move (v := .slice _ _ _) rfl) | exact (r_move rfl)) ?_
      refine l_v (by first | exact (r_move (v := iV _) rfl) | exact (r_move rfl)) ?_
      refine l_v (by first | exact (r_move (v := iV _) rfl) | exact (r_move rfl)) ?_
      refine l_v (r_eqli rfl rfl) ?_
      refine l_v (by first | exact (r_assign (v := .slice _ _ _) rfl) | exact (r_assign rfl)) ?_
      refine l_v (by first | exact (r_assign (v := bV _) rfl) | exact (r_assign rfl)) ?_
      refine l_v (by first | exact (r_assign (v := iV _) rfl) | exact (r_assign rfl)) ?_
      refine l_nil (nrm_then ?_)
      refine c_ret ?_
      show Fin _ _ _ _ _
      refine fin3 rfl ?_
      exact ⟨v, rfl, hs⟩
set_option maxHeartbeats 8000000 in
theorem walReplays_walk {w : World} (s : ByteArray) (hw : s.size ≤ 140737488351232) (file : Int) (hf : (Lit.int .i64 file).wf = true) :
    Calls Try.prog 5 #[sV s, iV file] w fun e w' => e = .returned (bV true) ∧ Below w.heap.size w w' := by
  have hsl := toL_size s
  refine enter (P := Try.prog) Try.func5 rfl rfl ?_
  have hs := Sep.init w
  refine c_rseq ?_
  refine l_v (by first | exact (r_assign (v := bV _) rfl) | exact (r_assign rfl)) ?_
  refine l_nil (nrm_then ?_)
  refine c_seq ?_
  refine c_rseq ?_
  refine l_call (r_call Try.func9 rfl rfl) ?_
  refine Calls.mono (awake_c _) ?_
  rintro e w_ ⟨rfl, hb⟩
  refine ⟨_, rfl, ?_⟩
  have hs := hs.below_ hb
  refine l_v (r_not rfl) ?_
  refine l_v (by first | exact (r_move (v := bV _) rfl) | exact (r_move rfl)) ?_
  refine l_vg (by first | exact (r_move (v := sV _) rfl) | exact (r_move rfl)) rfl (rfl) ?_
  refine l_vg (r_len_s Try.underlying9 rfl) rfl (rfl) ?_
  refine l_vg (r_gtri rfl rfl) rfl (rfl) ?_
  refine l_v (r_pick_f rfl rfl rfl) ?_
  refine l_nil (nrm_then ?_)
  refine c_cond rfl (fun h1 => ?_) (fun h1 => ?_)
  · replace h1 := of_decide_eq_true h1
    refine c_rseq ?_
    refine l_call (r_call Try.func9 rfl rfl) ?_
    refine Calls.mono (awake_c _) ?_
    rintro e w_ ⟨rfl, hb⟩
    refine ⟨_, rfl, ?_⟩
    have hs := hs.below_ hb
    refine l_v (by first | exact (r_assign (v := bV _) rfl) | exact (r_assign rfl)) ?_
    refine l_nil (nrm_then ?_)
    refine c_ret (ret_then ?_)
    show Fin _ _ _ _ _
    refine fin1 rfl ?_
    exact ⟨rfl, hs.below⟩
  · replace h1 := of_decide_eq_false h1
    refine c_skip (nrm_then ?_)
    refine c_rseq ?_
    refine l_call (r_call Try.func17 rfl rfl) ?_
    refine Calls.mono (new_ok 1000 0 (by decide) w _ _ hs) ?_
    rintro e w_ ⟨b, rfl, hs⟩
    refine ⟨_, rfl, ?_⟩
    refine l_v (r_move rfl) ?_
    refine l_v (r_extract rfl rfl) ?_
    refine l_v (r_extract rfl rfl) ?_
    refine l_v (r_assign (v := .pointer _) rfl) ?_
    refine l_v (by first | exact (r_assign (v := iV _) rfl) | exact (r_assign rfl)) ?_
    refine l_nil (nrm_then ?_)
    refine c_seq ?_
    refine c_rseq ?_
    refine l_v (r_move (v := .pointer _) rfl) ?_
    have hm := make_new (hot := 1000) (cold := 0) (by decide)
    have hg0 := good_new (hot := 1000) (cold := 0) (by decide) (by decide)
    have hg1 := good_one (hot := 1000) (cold := 0) (by decide) (by decide)
    refine l_call (r_call Try.func18 rfl rfl) ?_
    refine Calls.mono (make_c b (newS 1000 0) hg0 (by decide) 0 1 w _ _ hs) ?_
    rintro e w_ ⟨rfl, hs⟩
    refine ⟨_, rfl, ?_⟩
    rw [hm] at hs ⊢
    have hadd := one_add (hot := 1000) (cold := 0) (u := 1) (st := 1) (d := []) (sr := -1) (s := toL s)
    rw [if_neg (by unfold blocksN; simp only [List.length_nil]; omega)] at hadd
    have hg2 := good_add hg1 1 (toL s)
    rw [hadd, List.nil_append] at hg2
    rw [List.nil_append] at hadd
    refine l_v (r_neqi rfl rfl) ?_
    refine l_v (by first | exact (r_move (v := bV _) rfl) | exact (r_move rfl)) ?_
    refine l_vg (r_move (v := .pointer _) rfl) rfl (rfl) ?_
    refine l_vg (by first | exact (r_move (v := sV _) rfl) | exact (r_move rfl)) rfl (rfl) ?_
    refine l_callg (r_call Try.func19 rfl rfl) rfl (rfl) ?_
    refine Calls.mono (add_c b _ hg1 (by decide) 1 s (by omega) w _ _ hs) ?_
    rintro e w_ ⟨rfl, hs⟩
    refine ⟨_, rfl, ?_⟩
    rw [hadd] at hs ⊢
    generalize hu : (1 : Int) + ((blocksN (([] : List UInt8).length + (toL s).length) : Int) - (blocksN ([] : List UInt8).length : Int)) = u at *
    refine l_vg (r_neqi rfl rfl) rfl (rfl) ?_
    refine l_v (r_pick_f rfl rfl rfl) ?_
    refine l_nil (nrm_then ?_)
    refine c_false rfl (rfl) ?_
    refine c_skip (nrm_then ?_)
    refine c_rseq ?_
    refine l_v (r_move (v := .pointer _) rfl) ?_
    refine l_v (by first | exact (r_move (v := iV _) rfl) | exact (r_move rfl)) ?_
    have hzz : ∀ x, (oneS 1000 0 ⟨0, toL s, -1⟩ u (1 + 1)).get file = some x → x.data.length ≤ 16777216 := fun x hx => by
      have : x = ⟨0, toL s, -1⟩ := by
        unfold DiskS.get oneS fget at hx
        split at hx
        · injection hx with hx; exact hx.symm
        · cases hx
      rw [this]; dsimp only; omega
    refine l_call (r_call Try.func20 rfl rfl) ?_
    refine Calls.mono (replay_c b _ hg2 file hzz w _ _ hs) ?_
    rintro e w_ ⟨v, rfl, hs⟩
    refine ⟨_, rfl, ?_⟩
    refine l_v (r_move rfl) ?_
    refine l_v (r_extract rfl rfl) ?_
    refine l_v (r_extract rfl rfl) ?_
    refine l_v (r_extract rfl rfl) ?_
    refine l_v (by first | exact (r_assign (v := .slice _ _ _) rfl) | exact (r_assign rfl)) ?_
    refine l_v (by first | exact (r_assign (v := bV _) rfl) | exact (r_assign rfl)) ?_
    refine l_v (by first | exact (r_assign (v := iV _) rfl) | exact (r_assign rfl)) ?_
    refine l_nil (nrm_then ?_)
    refine c_seq ?_
    refine c_rseq ?_
    refine l_v (by first | exact (r_move (v := iV _) rfl) | exact (r_move rfl)) ?_
    refine l_v (r_neqi rfl rfl) ?_
    refine l_nil (nrm_then ?_)
    refine c_cond rfl (fun h2 => ?_) (fun h2 => ?_)
    · have hno := one_none 1000 0 ⟨0, toL s, -1⟩ u (1 + 1) file (of_decide_eq_true h2)
      have hre : replayS (oneS 1000 0 ⟨0, toL s, -1⟩ u (1 + 1)) file = ([], false, 9) := by
        unfold replayS
        rw [size_no (by rw [hno]; decide), hno]; rfl
      rw [hre] at hs ⊢
      obtain ⟨A, c, rfl, hc⟩ := hs.rowForm
      replace h2 := of_decide_eq_true h2
      refine c_rseq ?_
      refine l_v (by first | exact (r_move (v := .slice _ _ _) rfl) | exact (r_move rfl)) ?_
      refine l_v (r_len_l Try.underlying22 rfl) ?_
      refine l_v (r_eqli rfl rfl) ?_
      refine l_v (by first | exact (r_move (v := bV _) rfl) | exact (r_move rfl)) ?_
      refine l_vg (by first | exact (r_move (v := bV _) rfl) | exact (r_move rfl)) rfl (rfl) ?_
      refine l_vg (r_not rfl) rfl (rfl) ?_
      refine l_v (r_pick_t rfl rfl rfl) ?_
      refine l_v (by first | exact (r_move (v := bV _) rfl) | exact (r_move rfl)) ?_
      refine l_vg (by first | exact (r_move (v := iV _) rfl) | exact (r_move rfl)) rfl (rfl) ?_
      refine l_vg (r_eqli rfl rfl) rfl (rfl) ?_
      refine l_v (r_pick_t rfl rfl rfl) ?_
      refine l_v (by first | exact (r_assign (v := bV _) rfl) | exact (r_assign rfl)) ?_
      refine l_nil (nrm_then ?_)
      refine c_ret (ret_then ?_)
      show Fin _ _ _ _ _
      refine fin1 rfl ?_
      exact ⟨rfl, hs.below⟩
    · obtain rfl : file = 1 := Decidable.of_not_not (of_decide_eq_false h2)
      have hsp : replayS (oneS 1000 0 ⟨0, toL s, -1⟩ u (1 + 1)) 1 = ((splitA (s.size + 1) [] 0 (toL s)).1, decide (((splitA (s.size + 1) [] 0 (toL s)).2 : Int) = (s.size : Int)), 0) := by
        unfold replayS
        rw [one_size]
        dsimp only
        rw [one_all, hsl]
        rfl
      rw [hsp] at hs ⊢
      obtain ⟨A, c, rfl, hc⟩ := hs.rowForm
      replace h2 := of_decide_eq_false h2
      refine c_skip (nrm_then ?_)
      refine c_rseq ?_
      refine l_v (by first | exact (r_move (v := sV _) rfl) | exact (r_move rfl)) ?_
      refine l_call (r_call Try.func13 rfl rfl) ?_
      refine Calls.mono (rsplit_c s (by omega) w _ _ hs) ?_
      rintro e w_ ⟨v2, rfl, hs⟩
      refine ⟨_, rfl, ?_⟩
      generalize splitA (s.size + 1) [] 0 (toL s) = X at *
      obtain ⟨A2, c2, rfl, hc2⟩ := hs.rowForm
      have hr1 := rowS_rd rfl (hs.pull 1)
      have hr2 := rowS_rd rfl hs
      refine l_v (r_move rfl) ?_
      refine l_v (r_extract rfl rfl) ?_
      refine l_v (r_extract rfl rfl) ?_
      refine l_v (by first | exact (r_assign (v := .slice _ _ _) rfl) | exact (r_assign rfl)) ?_
      refine l_v (by first | exact (r_assign (v := iV _) rfl) | exact (r_assign rfl)) ?_
      refine l_nil (nrm_then ?_)
      refine c_rseq ?_
      refine l_v (by first | exact (r_move (v := iV _) rfl) | exact (r_move rfl)) ?_
      refine l_v (r_eqli rfl rfl) ?_
      refine l_v (by first | exact (r_move (v := bV _) rfl) | exact (r_move rfl)) ?_
      refine l_vg (by first | exact (r_move (v := .slice _ _ _) rfl) | exact (r_move rfl)) rfl (rfl) ?_
      refine l_vg (by first | exact (r_move (v := .slice _ _ _) rfl) | exact (r_move rfl)) rfl (rfl) ?_
      refine l_callg (r_call Try.func15 rfl rfl) rfl (rfl) ?_
      refine Calls.mono (same_n A A2 c c2 _ _ (X.1.map ofL) (X.1.map ofL) (by rw [List.length_map]) (by rw [List.length_map]) _ hr1 hr2) ?_
      rintro e w_ ⟨rfl, hb⟩
      refine ⟨_, rfl, ?_⟩
      have hs := hs.below_ hb
      have f5 : decide (X.1.map ofL = X.1.map ofL) = true := decide_eq_true rfl
      refine l_v (r_pick_t rfl rfl rfl) ?_
      refine l_v (by first | exact (r_move (v := bV _) rfl) | exact (r_move rfl)) ?_
      refine l_vg (by first | exact (r_move (v := bV _) rfl) | exact (r_move rfl)) rfl (f5) ?_
      refine l_vg (by first | exact (r_move (v := iV _) rfl) | exact (r_move rfl)) rfl (f5) ?_
      refine l_vg (by first | exact (r_move (v := sV _) rfl) | exact (r_move rfl)) rfl (f5) ?_
      refine l_vg (r_len_s Try.underlying9 rfl) rfl (f5) ?_
      refine l_vg (r_eqli rfl rfl) rfl (f5) ?_
      refine l_vg (r_eqlb Try.underlying4 rfl rfl) rfl (f5) ?_
      refine l_v (r_pick_t rfl f5 rfl) ?_
      refine l_v (by first | exact (r_assign (v := bV _) rfl) | exact (r_assign rfl)) ?_
      refine l_nil (nrm_then ?_)
      refine c_ret ?_
      show Fin _ _ _ _ _
      refine fin1 rfl ?_
      exact ⟨congrArg Ending.returned (congrArg Value.bool (beq_self_eq_true _)), hs.below⟩
end Go.Proofs.Ytlkljeghhahedaa.Wal
