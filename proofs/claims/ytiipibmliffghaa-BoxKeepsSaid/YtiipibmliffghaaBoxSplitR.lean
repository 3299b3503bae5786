/- The document's Split: the walk. -/
import Derived.Test.YtiipibmliffghaaBoxSplit
namespace Go.Proofs.Ytiipibmliffghaa.Box
open Go Go.RowKit Go.Proofs.Ytiipibmliffghaa.Eng Go.Proofs.Ytiipibmliffghaa.Six Go.Proofs.Ytiipibmliffghaa.CrcFn Go.Proofs.Ytiipibmliffghaa.Crc
set_option linter.unusedVariables false
set_option maxRecDepth 100000
abbrev rowR (v : Value) (ts : List It) : HP := RowC 25 66 v ts.length (ts.flatMap fun x => recC x.1)
abbrev rowN (v : Value) (ts : List It) : HP := RowC 3 1 v ts.length (ts.map fun x => iV ((x.2.1 + x.2.2 : Nat) : Int))
theorem rowR_app {w0 w : World} {v : Value} {ts : List It} {x : It} {L : List HP} (hs : Eng.Sep w0 w (RowC 25 66 v (ts.length + 1) (ts.flatMap (fun x => recC x.1) ++ recC x.1) :: L)) : Eng.Sep w0 w (rowR v (ts ++ [x]) :: L) := by
  unfold rowR; rw [List.length_append, List.flatMap_append]; simp only [List.flatMap_cons, List.flatMap_nil, List.append_nil]; exact hs
theorem rowN_app {w0 w : World} {v : Value} {ts : List It} {x : It} {L : List HP} (hs : Eng.Sep w0 w (RowC 3 1 v (ts.length + 1) ((ts.map fun x => iV ((x.2.1 + x.2.2 : Nat) : Int)) ++ [iV ((x.2.1 + x.2.2 : Nat) : Int)]) :: L)) : Eng.Sep w0 w (rowN v (ts ++ [x]) :: L) := by
  unfold rowN; rw [List.length_append, List.map_append]; exact hs
set_option maxHeartbeats 8000000 in
theorem rsplit_c (s : ByteArray) (hz : s.size ≤ 16777216) (w0 w : World) (R : List HP) (hs : Eng.Sep w0 w R) :
    Calls Try.prog 18 #[sV s] w fun e w' => ∃ v u, e = .returned (.tuple #[v, u, iV ((splitB (s.size + 1) [] 0 (toL s)).2 : Int)]) ∧ Eng.Sep w0 w' (rowR v (splitB (s.size + 1) [] 0 (toL s)).1 :: rowN u (splitB (s.size + 1) [] 0 (toL s)).1 :: R) := by
  have hl := toL_size s
  refine enter (P := Try.prog) Try.func18 rfl rfl ?_
  refine c_rseq ?_
  refine l_v (by first | exact (r_assign (v := .slice _ _ _) rfl) | exact (r_assign rfl)) ?_
  refine l_v (by first | exact (r_assign (v := .slice _ _ _) rfl) | exact (r_assign rfl)) ?_
  refine l_v (by first | exact (r_assign (v := iV _) rfl) | exact (r_assign rfl)) ?_
  refine l_nil (nrm_then ?_)
  refine c_rseq ?_
  refine l_v (by first | exact (r_assign (v := .slice _ _ _) rfl) | exact (r_assign rfl)) ?_
  refine l_nil (nrm_then ?_)
  refine c_rseq ?_
  refine l_v (by first | exact (r_assign (v := .slice _ _ _) rfl) | exact (r_assign rfl)) ?_
  refine l_nil (nrm_then ?_)
  refine c_rseq ?_
  refine l_v (by first | exact (r_assign (v := iV _) rfl) | exact (r_assign rfl)) ?_
  refine l_nil (nrm_then ?_)
  refine c_block ?_
  have hs := (hs.rowNil 3 1).rowNil 25 66
  refine c_loopn [0] (fun m f' w' => ∃ (v u : Value) (ts : List It) (k j : Nat), f' 5 = v ∧ f' 6 = u ∧ f' 7 = iV (k : Int) ∧ Eng.Sep w0 w' (rowR v ts :: rowN u ts :: R) ∧ k ≤ s.size ∧ ts.length ≤ k ∧ m = s.size - k ∧ m < j ∧ splitB (s.size + 1) [] 0 (toL s) = splitB j ts k ((toL s).drop k)) ?_ ?_
  · exact ⟨s.size, .slice none 0 0, .slice none 0 0, [], 0, s.size + 1, rfl, rfl, rfl, hs, by omega, by simp, by omega, by omega, rfl⟩
  · rintro m g w_ ⟨v, u, ts, k, j, h5, h6, h7, hs, hk, htk, hm, hj, hsp⟩
    have hcut := cut_size s k
    have hcl : (toL (cut s k)) = (toL s).drop k := rfl
    have hcz : (cut s k).size = s.size - k := by show ((toL s).drop k).length = _; rw [List.length_drop, hl]
    have hnsz := nextR_size ((toL s).drop k)
    have hnok := nextR_ok ((toL s).drop k)
    rw [List.length_drop] at hnsz
    have hbs : bstep ((toL s).drop k) = if (nextR ((toL s).drop k)).2.2 = 0 ∧ (nextR ((toL s).drop k)).2.1 + 4 ≤ ((toL s).drop k).length ∧ (openR (((toL s).drop k).take ((nextR ((toL s).drop k)).2.1 + 4))).2 = 0 then some ((openR (((toL s).drop k).take ((nextR ((toL s).drop k)).2.1 + 4))).1, (nextR ((toL s).drop k)).2.1 + 4) else none := rfl
    rw [List.length_drop] at hbs
    refine OkC.env ?_ (fixH (L := [(5, _), (6, _), (7, _)]) ⟨h5, h6, h7, trivial⟩)
    clear h5 h6 h7
    refine c_block ?_
    refine c_rseq ?_
    refine l_v (by first | exact (r_move (v := sV _) rfl) | exact (r_move rfl)) ?_
    refine l_v (by first | exact (r_move (v := iV _) rfl) | exact (r_move rfl)) ?_
    refine l_v (r_slice_sl (k : Int) Try.underlying9 rfl rfl (by omega)) ?_
    rw [Int.toNat_natCast, extract_cut]
    refine l_call (r_call Try.func46 rfl rfl) ?_
    refine Calls.mono (begin_c (cut s k) (by omega) _) ?_
    rintro e w_ ⟨rfl, hb⟩
    refine ⟨_, rfl, ?_⟩
    have hs := hs.below_ hb
    rw [hcl]
    generalize nextR ((toL s).drop k) = M at *
    have hml := recC_length hnok
    have hone := rec_one M.1
    refine l_v (r_move rfl) ?_
    refine l_v (r_extract rfl rfl) ?_
    refine l_v (r_extract rfl rfl) ?_
    refine l_v (r_extract rfl rfl) ?_
    refine l_alloc hs I25 ?_
    intro b8 w8 hs hB8 hlt8
    first | refine l_store_whole (i := 0) hs rfl I25 rfl rfl (by first | assumption | (simp; done)) (by first | assumption | (simp; done)) (by first | assumption | simp [Value.oneCell']) ?_ | refine l_store_whole (i := 1) hs rfl I25 rfl rfl (by first | assumption | (simp; done)) (by first | assumption | (simp; done)) (by first | assumption | simp [Value.oneCell']) ?_ | refine l_store_whole (i := 2) hs rfl I25 rfl rfl (by first | assumption | (simp; done)) (by first | assumption | (simp; done)) (by first | assumption | simp [Value.oneCell']) ?_ | refine l_store_whole (i := 3) hs rfl I25 rfl rfl (by first | assumption | (simp; done)) (by first | assumption | (simp; done)) (by first | assumption | simp [Value.oneCell']) ?_ | refine l_store_whole (i := 4) hs rfl I25 rfl rfl (by first | assumption | (simp; done)) (by first | assumption | (simp; done)) (by first | assumption | simp [Value.oneCell']) ?_ | refine l_store_whole (i := 5) hs rfl I25 rfl rfl (by first | assumption | (simp; done)) (by first | assumption | (simp; done)) (by first | assumption | simp [Value.oneCell']) ?_ | refine l_store_whole (i := 6) hs rfl I25 rfl rfl (by first | assumption | (simp; done)) (by first | assumption | (simp; done)) (by first | assumption | simp [Value.oneCell']) ?_
    intro w_ hs
    refine l_v (by first | exact (r_assign (v := iV _) rfl) | exact (r_assign rfl)) ?_
    refine l_v (by first | exact (r_assign (v := iV _) rfl) | exact (r_assign rfl)) ?_
    refine l_nil (nrm_then ?_)
    refine c_seq ?_
    refine c_rseq ?_
    refine l_v (by first | exact (r_move (v := iV _) rfl) | exact (r_move rfl)) ?_
    refine l_v (r_neqi rfl rfl) ?_
    have hs : Eng.Sep w0 w_ (blk b8 (recC M.1) 25 :: rowR v ts :: rowN u ts :: R) := hs
    by_cases he : M.2.2 = 0
    · have f21 : decide (M.2.2 ≠ 0) = false := decide_eq_false (fun h => h he)
      refine l_v (by first | exact (r_move (v := bV _) rfl) | exact (r_move rfl)) ?_
      refine l_vg (by first | exact (r_move (v := sV _) rfl) | exact (r_move rfl)) rfl (f21) ?_
      refine l_vg (r_len_s Try.underlying9 rfl) rfl (f21) ?_
      refine l_vg (by first | exact (r_move (v := iV _) rfl) | exact (r_move rfl)) rfl (f21) ?_
      refine l_vg (r_subi rfl rfl (by omega)) rfl (f21) ?_
      refine l_vg (by first | exact (r_move (v := iV _) rfl) | exact (r_move rfl)) rfl (f21) ?_
      refine l_vg (r_subi rfl rfl (by omega)) rfl (f21) ?_
      refine l_vg (r_lssi rfl rfl) rfl (f21) ?_
      refine l_v (r_pick_f rfl f21 rfl) ?_
      refine l_nil (nrm_then ?_)
      refine c_cond rfl (fun h4 => ?_) (fun h4 => ?_)
      · have h4' : ¬ (M.2.1 + 4 ≤ s.size - k) := by have h := of_decide_eq_true h4; omega
        have hno : bstep ((toL s).drop k) = none := by rw [hbs, if_neg (fun h => h4' (by have := h.2.1; omega))]
        have hs1 := hs.drop
        replace h4 := of_decide_eq_true h4
        refine c_rseq ?_
        refine l_v (by first | exact (r_move (v := .slice _ _ _) rfl) | exact (r_move rfl)) ?_
        refine l_v (by first | exact (r_move (v := .slice _ _ _) rfl) | exact (r_move rfl)) ?_
        refine l_v (by first | exact (r_move (v := iV _) rfl) | exact (r_move rfl)) ?_
        refine l_v (by first | exact (r_assign (v := .slice _ _ _) rfl) | exact (r_assign rfl)) ?_
        refine l_v (by first | exact (r_assign (v := .slice _ _ _) rfl) | exact (r_assign rfl)) ?_
        refine l_v (by first | exact (r_assign (v := iV _) rfl) | exact (r_assign rfl)) ?_
        refine l_nil (nrm_then ?_)
        refine c_ret (ret_then (ret_block (ret_then (ret_block ?_))))
        show Fin _ _ _ _ _
        refine fin3 rfl ?_
        rw [hsp, splitB_no (by omega) hno]
        exact ⟨v, u, rfl, hs1⟩
      · have h4' : M.2.1 + 4 ≤ s.size - k := by have h := of_decide_eq_false h4; omega
        replace h4 := of_decide_eq_false h4
        refine c_skip (nrm_then ?_)
        refine c_rseq ?_
        refine l_v (by first | exact (r_move (v := sV _) rfl) | exact (r_move rfl)) ?_
        refine l_v (by first | exact (r_move (v := iV _) rfl) | exact (r_move rfl)) ?_
        refine l_v (r_slice_sl (k : Int) Try.underlying9 rfl rfl (by omega)) ?_
        refine l_v (by first | exact (r_move (v := iV _) rfl) | exact (r_move rfl)) ?_
        refine l_v (r_addi rfl rfl (by omega)) ?_
        rw [Int.toNat_natCast, extract_cut]
        refine l_v (r_slice_sh ((M.2.1 : Int) + 4) Try.underlying9 rfl rfl (by omega)) ?_
        have ex : (cut s k).extract 0 ((M.2.1 : Int) + 4).toNat = ofL (((toL s).drop k).take (M.2.1 + 4)) := by
          rw [show ((M.2.1 : Int) + 4).toNat = M.2.1 + 4 by omega, extract_take]
          rfl
        rw [ex]
        have hoz : (((toL s).drop k).take (M.2.1 + 4)).length ≤ s.size := by rw [List.length_take, List.length_drop, hl]; omega
        refine l_call (r_call Try.func15 rfl rfl) ?_
        refine Calls.mono (ropen_c (ofL (((toL s).drop k).take (M.2.1 + 4))) (by show (((toL s).drop k).take (M.2.1 + 4)).length ≤ _; omega) _) ?_
        rintro e w_ ⟨rfl, hb3⟩
        refine ⟨_, rfl, ?_⟩
        have hs := hs.below_ hb3
        rw [Eng.toL_ofL]
        have hook := openR_ok (((toL s).drop k).take (M.2.1 + 4))
        generalize openR (((toL s).drop k).take (M.2.1 + 4)) = O at *
        have hol := recC_length hook
        have hone2 := rec_one O.1
        refine l_v (r_move rfl) ?_
        refine l_v (r_extract rfl rfl) ?_
        refine l_v (r_extract rfl rfl) ?_
        refine l_alloc hs I25 ?_
        intro b11 w11 hs hB11 hlt11
        first | refine l_store_whole (i := 0) hs rfl I25 rfl rfl (by first | assumption | (simp; done)) (by first | assumption | (simp; done)) (by first | assumption | simp [Value.oneCell']) ?_ | refine l_store_whole (i := 1) hs rfl I25 rfl rfl (by first | assumption | (simp; done)) (by first | assumption | (simp; done)) (by first | assumption | simp [Value.oneCell']) ?_ | refine l_store_whole (i := 2) hs rfl I25 rfl rfl (by first | assumption | (simp; done)) (by first | assumption | (simp; done)) (by first | assumption | simp [Value.oneCell']) ?_ | refine l_store_whole (i := 3) hs rfl I25 rfl rfl (by first | assumption | (simp; done)) (by first | assumption | (simp; done)) (by first | assumption | simp [Value.oneCell']) ?_ | refine l_store_whole (i := 4) hs rfl I25 rfl rfl (by first | assumption | (simp; done)) (by first | assumption | (simp; done)) (by first | assumption | simp [Value.oneCell']) ?_ | refine l_store_whole (i := 5) hs rfl I25 rfl rfl (by first | assumption | (simp; done)) (by first | assumption | (simp; done)) (by first | assumption | simp [Value.oneCell']) ?_ | refine l_store_whole (i := 6) hs rfl I25 rfl rfl (by first | assumption | (simp; done)) (by first | assumption | (simp; done)) (by first | assumption | simp [Value.oneCell']) ?_
        intro w_ hs
        refine l_v (by first | exact (r_assign (v := iV _) rfl) | exact (r_assign rfl)) ?_
        refine l_nil (nrm_then ?_)
        refine c_seq ?_
        refine c_rseq ?_
        refine l_v (by first | exact (r_move (v := iV _) rfl) | exact (r_move rfl)) ?_
        refine l_v (r_neqi rfl rfl) ?_
        refine l_nil (nrm_then ?_)
        have hs : Eng.Sep w0 w_ (blk b11 (recC O.1) 25 :: blk b8 (recC M.1) 25 :: rowR v ts :: rowN u ts :: R) := hs
        refine c_cond rfl (fun h6 => ?_) (fun h6 => ?_)
        · have h6' : ¬ O.2 = 0 := of_decide_eq_true h6
          have hno : bstep ((toL s).drop k) = none := by rw [hbs, if_neg (fun h => h6' h.2.2)]
          have hs1 := hs.drop.drop
          replace h6 := of_decide_eq_true h6
          refine c_rseq ?_
          refine l_v (by first | exact (r_move (v := .slice _ _ _) rfl) | exact (r_move rfl)) ?_
          refine l_v (by first | exact (r_move (v := .slice _ _ _) rfl) | exact (r_move rfl)) ?_
          refine l_v (by first | exact (r_move (v := iV _) rfl) | exact (r_move rfl)) ?_
          refine l_v (by first | exact (r_assign (v := .slice _ _ _) rfl) | exact (r_assign rfl)) ?_
          refine l_v (by first | exact (r_assign (v := .slice _ _ _) rfl) | exact (r_assign rfl)) ?_
          refine l_v (by first | exact (r_assign (v := iV _) rfl) | exact (r_assign rfl)) ?_
          refine l_nil (nrm_then ?_)
          refine c_ret (ret_then (ret_block (ret_then (ret_block ?_))))
          show Fin _ _ _ _ _
          refine fin3 rfl ?_
          rw [hsp, splitB_no (by omega) hno]
          exact ⟨v, u, rfl, hs1⟩
        · have h6' : O.2 = 0 := Decidable.of_not_not (of_decide_eq_false h6)
          have hyes : bstep ((toL s).drop k) = some (O.1, M.2.1 + 4) := by rw [hbs, if_pos ⟨he, h4', h6'⟩]
          rw [splitB_yes (by omega) hyes, List.drop_drop] at hsp
          have e52 : (k : Int) + (M.2.1 : Int) + 4 = ((k + (M.2.1 + 4) : Nat) : Int) := by omega
          replace h6 := of_decide_eq_false h6
          refine c_skip (nrm_then ?_)
          refine c_rseq ?_
          refine l_v (by first | exact (r_move (v := iV _) rfl) | exact (r_move rfl)) ?_
          refine l_v (by first | exact (r_move (v := iV _) rfl) | exact (r_move rfl)) ?_
          refine l_v (r_addi rfl rfl (by omega)) ?_
          refine l_v (r_addi rfl rfl (by omega)) ?_
          refine l_v (by first | exact (r_assign (v := iV _) rfl) | exact (r_assign rfl)) ?_
          refine l_nil (nrm_then ?_)
          refine c_rseq ?_
          rw [e52]
          refine l_v (by first | exact (r_move (v := .slice _ _ _) rfl) | exact (r_move rfl)) ?_
          refine l_v (r_load_whole (i := 0) hs rfl Try.underlying25 I25 rfl hol) ?_
          have hs := hs.drop.drop
          refine l_lit [.agg (recC O.1).toArray] hs Try.underlying41 I25 rfl (by intro u hu; rw [List.mem_singleton.1 hu]; exact hol) (by decide) rfl (by decide) (by decide) ?_
          intro b55 w55 hs hB55 hlt55
          have e1 : ([Value.agg (recC O.1).toArray].flatMap fun v => v.cells.toList) = recC O.1 := by simp [Value.cells]
          rw [e1] at hs
          refine l_append_lit Try.underlying41 I25 (by kernel_rfl) (by decide) rfl rfl hs hol hone2 (by omega) (by omega) ?_
          intro v56 w56 hs
          have hs := rowR_app (x := (O.1, k, M.2.1 + 4)) hs
          have hs := hs.pull 1
          refine l_v (by first | exact (r_assign (v := .slice _ _ _) rfl) | exact (r_assign rfl)) ?_
          refine l_nil (nrm_then ?_)
          refine c_region ?_
          refine l_v (by first | exact (r_move (v := .slice _ _ _) rfl) | exact (r_move rfl)) ?_
          refine l_v (by first | exact (r_move (v := iV _) rfl) | exact (r_move rfl)) ?_
          refine l_lit1 [iV _] hs Try.underlying46 I3 rfl (by simp [Value.oneCell']) rfl (by decide) (by decide) ?_
          intro b59 w59 hs hB59 hlt59
          refine l_append_lit Try.underlying46 I3 rfl (by decide) rfl rfl hs rfl (by simp [Value.oneCell']) (by omega) (by omega) ?_
          intro v60 w60 hs
          have hs := rowN_app (x := (O.1, k, M.2.1 + 4)) hs
          have hs := hs.pull 1
          refine l_v (by first | exact (r_assign (v := .slice _ _ _) rfl) | exact (r_assign rfl)) ?_
          refine l_nil (nrm_block (nrm_then ?_))
          refine And.intro (by refine ⟨?_, trivial⟩ <;> ((conv => lhs; whnf); (try conv => rhs; whnf))) ?_
          exact ⟨s.size - (k + (M.2.1 + 4)), by omega, v56, v60, ts ++ [(O.1, k, M.2.1 + 4)], k + (M.2.1 + 4), j - 1, rfl, rfl, rfl, hs, by omega, by rw [List.length_append]; simp only [List.length_cons, List.length_nil]; omega, rfl, by omega, by rw [hsp]⟩
    · have f21 : decide (M.2.2 ≠ 0) = true := decide_eq_true he
      have hno : bstep ((toL s).drop k) = none := by rw [hbs, if_neg (fun h => he h.1)]
      have hs1 := hs.drop
      refine l_v (by first | exact (r_move (v := bV _) rfl) | exact (r_move rfl)) ?_
      refine l_no rfl (f21) ?_
      refine l_no rfl (f21) ?_
      refine l_no rfl (f21) ?_
      refine l_no rfl (f21) ?_
      refine l_no rfl (f21) ?_
      refine l_no rfl (f21) ?_
      refine l_no rfl (f21) ?_
      refine l_v (r_pick_t rfl f21 rfl) ?_
      refine l_nil (nrm_then ?_)
      refine c_true rfl (rfl) ?_
      refine c_rseq ?_
      refine l_v (by first | exact (r_move (v := .slice _ _ _) rfl) | exact (r_move rfl)) ?_
      refine l_v (by first | exact (r_move (v := .slice _ _ _) rfl) | exact (r_move rfl)) ?_
      refine l_v (by first | exact (r_move (v := iV _) rfl) | exact (r_move rfl)) ?_
      refine l_v (by first | exact (r_assign (v := .slice _ _ _) rfl) | exact (r_assign rfl)) ?_
      refine l_v (by first | exact (r_assign (v := .slice _ _ _) rfl) | exact (r_assign rfl)) ?_
      refine l_v (by first | exact (r_assign (v := iV _) rfl) | exact (r_assign rfl)) ?_
      refine l_nil (nrm_then ?_)
      refine c_ret (ret_then (ret_block (ret_then (ret_block ?_))))
      show Fin _ _ _ _ _
      refine fin3 rfl ?_
      rw [hsp, splitB_no (by omega) hno]
      exact ⟨v, u, rfl, hs1⟩
end Go.Proofs.Ytiipibmliffghaa.Box
