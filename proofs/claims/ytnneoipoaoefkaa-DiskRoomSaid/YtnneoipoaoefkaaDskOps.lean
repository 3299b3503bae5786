/- The walks of New, blocks, Make, Add, Sync, Size, Read. -/
import Derived.Test.YtnneoipoaoefkaaDskHeap
namespace Go.Proofs.Ytnneoipoaoefkaa.Dsk
open Go Go.RowKit Go.Proofs.Ytnneoipoaoefkaa.Eng
set_option linter.unusedVariables false
set_option maxRecDepth 100000
theorem mapF_nil (p : Int → Nat) : mapF [] p = fun _ => none := by
  funext k
  unfold mapF
  split <;> rfl
theorem built_disk (b : Nat) (hot cold : Int) : Program.built Try.prog 57 [(0, .map (some b)), (1, .agg #[iV hot, iV cold]), (5, iV (-1))] = some (cellsD (newS hot cold) b).toArray := by
  refine built_of I57 (places := [(0, 1), (1, 2), (3, 2), (5, 1), (6, 1), (7, 1), (8, 1)]) (by kernel_rfl) (cs := [.map none, iV 0, iV 0, iV 0, iV 0, iV 0, iV 0, iV 0, bV false]) rfl ?_
  refine fill_step (off := 0) (l := [.map (some b)]) rfl rfl (by simp) ?_
  refine fill_step (off := 1) (l := [iV hot, iV cold]) rfl rfl (by simp) ?_
  exact fill_step (off := 7) (l := [iV (-1)]) rfl rfl (by simp) rfl
set_option maxHeartbeats 4000000 in
theorem new_c (hot cold : Int) (w0 w : World) (R : List HP) (hs : Eng.Sep w0 w R) :
    Calls Try.prog 10 #[iV hot, iV cold] w fun e w' => (((hot < 0 ∨ cold < 0) ∨ 1048576 < hot ∨ 1048576 < cold) → e = .returned (.tuple #[.pointer none, iV 1]) ∧ Eng.Sep w0 w' R) ∧ (¬ ((hot < 0 ∨ cold < 0) ∨ 1048576 < hot ∨ 1048576 < cold) → ∃ b, e = .returned (.tuple #[dp b, iV 0]) ∧ Eng.Sep w0 w' (diskH b (newS hot cold) :: R)) := by
  refine enter (P := Try.prog) Try.func10 rfl rfl ?_
  refine c_rseq ?_
  refine l_v (r_assign (v := .pointer _) rfl) ?_
  refine l_v (by first | exact (r_assign (v := iV _) rfl) | exact (r_assign rfl)) ?_
  refine l_nil (nrm_then ?_)
  refine c_seq ?_
  refine c_seq ?_
  refine c_mid [0, 1, 4, 5] (fun f' w' => w' = w ∧ f' 19 = bV (decide ((hot < 0 ∨ cold < 0) ∨ 1048576 < hot ∨ 1048576 < cold))) ?_ ?_
  · refine c_region ?_
    refine l_v (by first | exact (r_move (v := iV _) rfl) | exact (r_move rfl)) ?_
    refine l_v (r_lssi rfl rfl) ?_
    by_cases c1 : hot < 0
    · have f1 : decide (hot < 0) = true := decide_eq_true c1
      refine l_v (by first | exact (r_move (v := bV _) rfl) | exact (r_move rfl)) ?_
      refine l_no rfl (f1) ?_
      refine l_no rfl (f1) ?_
      refine l_v (r_pick_t rfl f1 rfl) ?_
      refine l_v (by first | exact (r_move (v := bV _) rfl) | exact (r_move rfl)) ?_
      refine l_no rfl (rfl) ?_
      refine l_no rfl (rfl) ?_
      refine l_v (r_pick_t rfl rfl rfl) ?_
      refine l_v (by first | exact (r_move (v := bV _) rfl) | exact (r_move rfl)) ?_
      refine l_no rfl (rfl) ?_
      refine l_no rfl (rfl) ?_
      refine l_v (r_pick_t rfl rfl rfl) ?_
      refine l_nil (nrm_then ?_)
      refine And.intro (by refine ⟨?_, ?_, ?_, ?_, trivial⟩ <;> ((conv => lhs; whnf); (try conv => rhs; whnf))) ?_
      exact ⟨rfl, congrArg bV (decide_eq_true (by omega)).symm⟩
    · have f1 : decide (hot < 0) = false := decide_eq_false c1
      refine l_v (by first | exact (r_move (v := bV _) rfl) | exact (r_move rfl)) ?_
      refine l_vg (by first | exact (r_move (v := iV _) rfl) | exact (r_move rfl)) rfl (f1) ?_
      refine l_vg (r_lssi rfl rfl) rfl (f1) ?_
      refine l_v (r_pick_f rfl f1 rfl) ?_
      by_cases c2 : cold < 0
      · have f2 : decide (cold < 0) = true := decide_eq_true c2
        refine l_v (by first | exact (r_move (v := bV _) rfl) | exact (r_move rfl)) ?_
        refine l_no rfl (f2) ?_
        refine l_no rfl (f2) ?_
        refine l_v (r_pick_t rfl f2 rfl) ?_
        refine l_v (by first | exact (r_move (v := bV _) rfl) | exact (r_move rfl)) ?_
        refine l_no rfl (rfl) ?_
        refine l_no rfl (rfl) ?_
        refine l_v (r_pick_t rfl rfl rfl) ?_
        refine l_nil (nrm_then ?_)
        refine And.intro (by refine ⟨?_, ?_, ?_, ?_, trivial⟩ <;> ((conv => lhs; whnf); (try conv => rhs; whnf))) ?_
        exact ⟨rfl, congrArg bV (decide_eq_true (by omega)).symm⟩
      · have f2 : decide (cold < 0) = false := decide_eq_false c2
        refine l_v (by first | exact (r_move (v := bV _) rfl) | exact (r_move rfl)) ?_
        refine l_vg (by first | exact (r_move (v := iV _) rfl) | exact (r_move rfl)) rfl (f2) ?_
        refine l_vg (r_gtri rfl rfl) rfl (f2) ?_
        refine l_v (r_pick_f rfl f2 rfl) ?_
        by_cases c3 : hot > 1048576
        · have f3 : decide (hot > 1048576) = true := decide_eq_true c3
          refine l_v (by first | exact (r_move (v := bV _) rfl) | exact (r_move rfl)) ?_
          refine l_no rfl (f3) ?_
          refine l_no rfl (f3) ?_
          refine l_v (r_pick_t rfl f3 rfl) ?_
          refine l_nil (nrm_then ?_)
          refine And.intro (by refine ⟨?_, ?_, ?_, ?_, trivial⟩ <;> ((conv => lhs; whnf); (try conv => rhs; whnf))) ?_
          exact ⟨rfl, congrArg bV (decide_eq_true (by omega)).symm⟩
        · have f3 : decide (hot > 1048576) = false := decide_eq_false c3
          refine l_v (by first | exact (r_move (v := bV _) rfl) | exact (r_move rfl)) ?_
          refine l_vg (by first | exact (r_move (v := iV _) rfl) | exact (r_move rfl)) rfl (f3) ?_
          refine l_vg (r_gtri rfl rfl) rfl (f3) ?_
          refine l_v (r_pick_f rfl f3 rfl) ?_
          refine l_nil (nrm_then ?_)
          refine And.intro (by refine ⟨?_, ?_, ?_, ?_, trivial⟩ <;> ((conv => lhs; whnf); (try conv => rhs; whnf))) ?_
          exact ⟨rfl, congrArg bV (decide_eq_decide.2 (by omega))⟩
  · rintro g w_ ⟨rfl, h19⟩
    show OkC _ _ _ _ _ _
    refine OkC.env ?_ (fixH (L := [(19, _)]) ⟨h19, trivial⟩)
    clear h19
    refine c_cond rfl (fun h1 => ?_) (fun h1 => ?_)
    · replace h1 := of_decide_eq_true h1
      refine c_rseq ?_
      refine l_v (r_assign (v := .pointer _) rfl) ?_
      refine l_v (by first | exact (r_assign (v := iV _) rfl) | exact (r_assign rfl)) ?_
      refine l_nil (nrm_then ?_)
      refine c_ret (ret_then ?_)
      show Fin _ _ _ _ _
      refine fin2 rfl ?_
      exact ⟨fun _ => ⟨rfl, hs⟩, fun h => absurd h1 h⟩
    · have h1' := of_decide_eq_false h1
      replace h1 := of_decide_eq_false h1
      refine c_skip (nrm_then ?_)
      refine c_rseq ?_
      refine l_makeMap (.int .i64) hs ?_
      intro b20 w20 hs
      refine l_v (by first | exact (r_move (v := iV _) rfl) | exact (r_move rfl)) ?_
      refine l_v (by first | exact (r_move (v := iV _) rfl) | exact (r_move rfl)) ?_
      refine l_v (r_build_a1 [iV hot, iV cold] Try.underlying55 I3 I55 rfl (by simp [Value.oneCell']) rfl) ?_
      refine l_v (r_build (l := [(0, .map (some b20)), (1, .agg #[iV hot, iV cold]), (5, iV (-1))]) rfl (built_disk b20 hot cold)) ?_
      refine l_box hs rfl ?_
      intro b25 w25 hs hB25 hlt25
      refine l_v (r_assign (v := .pointer _) rfl) ?_
      refine l_v (by first | exact (r_assign (v := iV _) rfl) | exact (r_assign rfl)) ?_
      refine l_nil (nrm_then ?_)
      refine c_ret ?_
      show Fin _ _ _ _ _
      refine fin2 rfl ?_
      refine ⟨fun h => absurd h h1', fun _ => ⟨b25, rfl, disk_shut (bm := b20) (p := fun _ => 0) ?_⟩⟩
      rw [show (newS hot cold).files = [] from rfl, mapD, mapF_nil]
      exact hs
theorem new_ok (hot cold : Int) (h : ¬ ((hot < 0 ∨ cold < 0) ∨ 1048576 < hot ∨ 1048576 < cold)) (w0 w : World) (R : List HP) (hs : Eng.Sep w0 w R) :
    Calls Try.prog 10 #[iV hot, iV cold] w fun e w' => ∃ b, e = .returned (.tuple #[dp b, iV 0]) ∧ Eng.Sep w0 w' (diskH b (newS hot cold) :: R) :=
  (new_c hot cold w0 w R hs).mono fun _ _ hq => hq.2 h
theorem blocks_c (n : Nat) (hn : n ≤ 4611686018427387904) (w : World) : Calls Try.prog 28 #[iV (n : Int)] w fun e w' => e = .returned (iV ((blocksN n : Nat) : Int)) ∧ Below w.heap.size w w' := by
  refine enter (P := Try.prog) Try.func28 rfl rfl ?_
  have hs := Sep.init w
  refine c_rseq ?_
  refine l_v (by first | exact (r_assign (v := iV _) rfl) | exact (r_assign rfl)) ?_
  refine l_nil (nrm_then ?_)
  refine c_rseq ?_
  refine l_v (by first | exact (r_move (v := iV _) rfl) | exact (r_move rfl)) ?_
  refine l_v (r_addi rfl rfl (by omega)) ?_
  refine l_v (r_subi rfl rfl (by omega)) ?_
  refine l_v (r_quoi rfl rfl (by omega) (by omega)) ?_
  refine l_v (r_addi rfl rfl (by omega)) ?_
  refine l_v (by first | exact (r_assign (v := iV _) rfl) | exact (r_assign rfl)) ?_
  refine l_nil (nrm_then ?_)
  refine c_ret ?_
  show Fin _ _ _ _ _
  refine fin1 rfl ?_
  exact ⟨congrArg Ending.returned (congrArg iV (by unfold blocksN; omega)), hs.below⟩
set_option maxHeartbeats 4000000 in
theorem size_c (b : Nat) (S : DiskS) (hg : GoodS S) (n : Int) (w0 w : World) (R : List HP) (hs : Eng.Sep w0 w (diskH b S :: R)) :
    Calls Try.prog 14 #[dp b, iV n] w fun e w' => e = .returned (.tuple #[iV (sizeS S n).1, iV (sizeS S n).2.1, iV (sizeS S n).2.2]) ∧ Below w.heap.size w w' := by
  obtain ⟨bm, p, hs⟩ := disk_open hs
  refine enter (P := Try.prog) Try.func14 rfl rfl ?_
  have hb0 : Below w.heap.size w w := Below.refl _ _
  refine c_rseq ?_
  refine l_v (by first | exact (r_assign (v := iV _) rfl) | exact (r_assign rfl)) ?_
  refine l_v (by first | exact (r_assign (v := iV _) rfl) | exact (r_assign rfl)) ?_
  refine l_v (by first | exact (r_assign (v := iV _) rfl) | exact (r_assign rfl)) ?_
  refine l_nil (nrm_then ?_)
  refine c_rseq ?_
  refine l_v (r_move (v := .pointer _) rfl) ?_
  refine l_v (by first | exact (r_move (v := iV _) rfl) | exact (r_move rfl)) ?_
  refine l_call (r_call Try.func29 rfl rfl) ?_
  refine Calls.mono (find_c b bm S p n w0 _ _ hs) ?_
  rintro e w_ ⟨rfl, hbw⟩
  refine ⟨_, rfl, ?_⟩
  have hs := hs.below_ hbw
  have hb0 := hb0.trans hbw
  refine l_v (r_move rfl) ?_
  refine l_v (r_extract rfl rfl) ?_
  refine l_v (r_extract rfl rfl) ?_
  refine l_v (r_assign (v := .pointer _) rfl) ?_
  refine l_v (by first | exact (r_assign (v := iV _) rfl) | exact (r_assign rfl)) ?_
  refine l_nil (nrm_then ?_)
  refine c_seq ?_
  refine c_rseq ?_
  refine l_v (by first | exact (r_move (v := iV _) rfl) | exact (r_move rfl)) ?_
  refine l_v (r_neqi rfl rfl) ?_
  refine l_nil (nrm_then ?_)
  refine c_cond rfl (fun h1 => ?_) (fun h1 => ?_)
  · replace h1 := of_decide_eq_true h1
    refine c_rseq ?_
    refine l_v (by first | exact (r_move (v := iV _) rfl) | exact (r_move rfl)) ?_
    refine l_v (by first | exact (r_assign (v := iV _) rfl) | exact (r_assign rfl)) ?_
    refine l_v (by first | exact (r_assign (v := iV _) rfl) | exact (r_assign rfl)) ?_
    refine l_v (by first | exact (r_assign (v := iV _) rfl) | exact (r_assign rfl)) ?_
    refine l_nil (nrm_then ?_)
    refine c_ret (ret_then ?_)
    show Fin _ _ _ _ _
    refine fin3 rfl ?_
    rw [size_no h1]
    exact ⟨rfl, hb0⟩
  · have h1' : findE S n = 0 := Decidable.of_not_not (of_decide_eq_false h1)
    obtain ⟨hd, x, hx⟩ := find_zero h1'
    have hp := fptr_zero (p := p) h1'
    rw [size_yes h1' hx, hp]
    have hs := disk_file hg.nd hx hs
    obtain ⟨v, hs⟩ := file_open hs
    obtain ⟨A, c, rfl, hc⟩ := (hs.pull 1).rowForm
    replace h1 := of_decide_eq_false h1
    refine c_skip (nrm_then ?_)
    refine c_seq ?_
    refine c_still (by kernel_rfl) (by kernel_rfl) ?_
    have hs := hs.drew
    refine s_v (r_move (v := .pointer _) rfl) ?_
    refine s_v (by first | exact (r_nilCheck_p rfl) | exact (r_nilCheck_f rfl)) ?_
    refine s_v (by first | exact (r_fieldAddr0 (off := 1) (T := 61) (by kernel_rfl) rfl) | exact (r_fieldAddr (off := 1) (T := 61) (by kernel_rfl) rfl)) ?_
    refine s_v (by first | exact (r_load_at (i := 0) hs rfl Try.underlying61 rfl rfl) | exact (r_load_at (i := 1) hs rfl Try.underlying61 rfl rfl) | exact (r_load_at (i := 2) hs rfl Try.underlying61 rfl rfl) | exact (r_load_at (i := 3) hs rfl Try.underlying61 rfl rfl) | exact (r_load_at (i := 4) hs rfl Try.underlying61 rfl rfl) | exact (r_load_at (i := 5) hs rfl Try.underlying61 rfl rfl) | exact (r_load_at (i := 6) hs rfl Try.underlying61 rfl rfl)) ?_
    refine s_v (r_len_l Try.underlying61 rfl) ?_
    refine s_v (r_move (v := .pointer _) rfl) ?_
    refine s_v (by first | exact (r_nilCheck_p rfl) | exact (r_nilCheck_f rfl)) ?_
    refine s_v (by first | exact (r_fieldAddr0 (off := 0) (T := 35) (by kernel_rfl) rfl) | exact (r_fieldAddr (off := 0) (T := 35) (by kernel_rfl) rfl)) ?_
    refine s_v (by first | exact (r_load_at (i := 0) hs rfl Try.underlying35 rfl rfl) | exact (r_load_at (i := 1) hs rfl Try.underlying35 rfl rfl) | exact (r_load_at (i := 2) hs rfl Try.underlying35 rfl rfl) | exact (r_load_at (i := 3) hs rfl Try.underlying35 rfl rfl) | exact (r_load_at (i := 4) hs rfl Try.underlying35 rfl rfl) | exact (r_load_at (i := 5) hs rfl Try.underlying35 rfl rfl) | exact (r_load_at (i := 6) hs rfl Try.underlying35 rfl rfl)) ?_
    refine s_v (by first | exact (r_assign (v := iV _) rfl) | exact (r_assign rfl)) ?_
    refine s_v (by first | exact (r_assign (v := iV _) rfl) | exact (r_assign rfl)) ?_
    refine s_v (by first | exact (r_assign (v := iV _) rfl) | exact (r_assign rfl)) ?_
    refine s_nil (nrm_then ?_)
    have hb0 := hb0.drew
    refine c_ret ?_
    show Fin _ _ _ _ _
    refine fin3 rfl ?_
    exact ⟨rfl, hb0⟩
