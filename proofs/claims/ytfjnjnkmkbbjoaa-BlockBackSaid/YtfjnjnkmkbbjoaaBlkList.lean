/- The walk of TakeList over entries, and of Open. -/
import Derived.Test.YtfjnjnkmkbbjoaaBlkTake
namespace Go.Proofs.Ytfjnjnkmkbbjoaa.Blk
open Go Go.RowKit Go.Proofs.Ytfjnjnkmkbbjoaa.Eng Go.Proofs.Ytfjnjnkmkbbjoaa.Six Go.Proofs.Ytfjnjnkmkbbjoaa.CrcFn
set_option linter.unusedVariables false
set_option maxRecDepth 100000
abbrev rowE (v : Value) (ts : List Ent) : HP := RowC 44 3 v ts.length (ts.flatMap entC)
theorem rowE_app {w0 w : World} {v : Value} {ts : List Ent} {x : Ent} {L : List HP} (hs : Eng.Sep w0 w (RowC 44 3 v (ts.length + 1) (ts.flatMap entC ++ entC x) :: L)) : Eng.Sep w0 w (rowE v (ts ++ [x]) :: L) := by
  unfold rowE; rw [List.length_append, List.flatMap_append]; simp only [List.flatMap_cons, List.flatMap_nil, List.append_nil]; exact hs
def takeLE (l : List UInt8) : List Ent × Nat × Int :=
  if (count l).2.2 = 0 then takeE (count l).1.toNat [] (count l).2.1 (l.drop (count l).2.1) else ([], 0, (count l).2.2)
set_option maxHeartbeats 8000000 in
theorem takelist_c (s : ByteArray) (hz : s.size ≤ 1099511627776) (b bl bf : Nat) (w0 w : World) (R : List HP) (hs : Eng.Sep w0 w (rdr b s :: blk bl [sV (ofL [])] 9 :: blk bf [bV true] 4 :: R)) :
    Calls Try.prog 35 #[at_ b, .func (.func 36) #[] #[at_ bl, at_ bf]] w fun e w' => ∃ v, e = .returned (.tuple #[v, iV (takeLE (toL s)).2.2]) ∧ Eng.Sep w0 w' (rowE v (takeLE (toL s)).1 :: rdr b (cut s (takeLE (toL s)).2.1) :: R) ∧ (takeLE (toL s)).2.1 ≤ s.size := by
  have hl := toL_size s
  have hcn := count_nonneg (toL s)
  have hcb := count_bound (toL s)
  have hcs := count_size (toL s)
  have hcf := @count_fail (toL s)
  unfold takeLE
  refine enter (P := Try.prog) Try.func35 rfl rfl ?_
  refine c_rseq ?_
  refine l_v (by first | exact (r_assign (v := .slice _ _ _) rfl) | exact (r_assign rfl)) ?_
  refine l_v (by first | exact (r_assign (v := iV _) rfl) | exact (r_assign rfl)) ?_
  refine l_nil (nrm_then ?_)
  refine c_seq ?_
  refine c_rseq ?_
  refine l_v (r_move (v := .pointer _) rfl) ?_
  refine l_v (by first | exact (r_eqlp_some Try.underlying59 rfl rfl) | exact (r_eqlp_none Try.underlying59 rfl rfl)) ?_
  refine l_v (by first | exact (r_move (v := bV _) rfl) | exact (r_move rfl)) ?_
  refine l_vg (by first | exact (r_move (v := .func _ _ _) rfl) | exact (r_move (v := .nilFunc) rfl) | exact (r_move rfl)) rfl (rfl) ?_
  refine l_vg (by first | exact (r_eqlf_some Try.underlying64 rfl rfl) | exact (r_eqlf_none Try.underlying64 rfl rfl)) rfl (rfl) ?_
  refine l_v (r_pick_f rfl rfl rfl) ?_
  refine l_nil (nrm_then ?_)
  refine c_false rfl (rfl) ?_
  refine c_skip (nrm_then ?_)
  refine c_rseq ?_
  refine l_v (r_move (v := .pointer _) rfl) ?_
  refine l_v (by first | exact (r_nilCheck_p rfl) | exact (r_nilCheck_f rfl)) ?_
  refine l_v (by first | exact (r_fieldAddr0 (off := 0) (T := 9) (by kernel_rfl) rfl) | exact (r_fieldAddr (off := 0) (T := 9) (by kernel_rfl) rfl)) ?_
  refine l_v (by first | exact (r_load_at (i := 0) hs rfl Try.underlying9 rfl rfl) | exact (r_load_at (i := 1) hs rfl Try.underlying9 rfl rfl) | exact (r_load_at (i := 2) hs rfl Try.underlying9 rfl rfl) | exact (r_load_at (i := 3) hs rfl Try.underlying9 rfl rfl) | exact (r_load_at (i := 4) hs rfl Try.underlying9 rfl rfl) | exact (r_load_at (i := 5) hs rfl Try.underlying9 rfl rfl) | exact (r_load_at (i := 6) hs rfl Try.underlying9 rfl rfl)) ?_
  refine l_v (by first | exact (r_assign (v := sV _) rfl) | exact (r_assign rfl)) ?_
  refine l_nil (nrm_then ?_)
  refine c_rseq ?_
  refine l_v (r_move (v := .pointer _) rfl) ?_
  refine l_call (r_call Try.func48 rfl rfl) ?_
  refine Calls.mono (count_c s (by omega) b w0 _ _ hs) ?_
  rintro e w_ ⟨rfl, hs⟩
  refine ⟨_, rfl, ?_⟩
  generalize count (toL s) = C at *
  refine l_v (r_move rfl) ?_
  refine l_v (r_extract rfl rfl) ?_
  refine l_v (r_extract rfl rfl) ?_
  refine l_v (by first | exact (r_assign (v := iV _) rfl) | exact (r_assign rfl)) ?_
  refine l_v (by first | exact (r_assign (v := iV _) rfl) | exact (r_assign rfl)) ?_
  refine l_nil (nrm_then ?_)
  refine c_rseq ?_
  refine l_v (by first | exact (r_assign (v := .slice _ _ _) rfl) | exact (r_assign rfl)) ?_
  refine l_nil (nrm_then ?_)
  refine c_seq ?_
  refine c_rseq ?_
  refine l_v (by first | exact (r_assign (v := iV _) rfl) | exact (r_assign rfl)) ?_
  refine l_nil (nrm_then ?_)
  refine c_block ?_
  have hs := hs.rowNil 44 3
  refine c_loopn [0, 1, 4, 5, 6, 7] (fun m f' w' => ∃ (i : Nat) (v : Value) (er : Int) (xs : List Ent) (k : Nat) (s' : ByteArray) (lk : List UInt8) (fb : Bool), f' 10 = iV (i : Int) ∧ f' 9 = v ∧ f' 8 = iV er ∧ Eng.Sep w0 w' (rowE v xs :: rdr b s' :: blk bl [sV (ofL lk)] 9 :: blk bf [bV fb] 4 :: R) ∧ k ≤ s.size ∧ xs.length + C.2.1 ≤ k ∧ ((er = 0 ∧ s' = cut s k ∧ lk = lastK xs ∧ lk.length ≤ 65536 ∧ fb = decide (xs = []) ∧ m = s.size - k + 1 ∧ C.2.2 = 0 ∧ i ≤ C.1.toNat ∧ takeE C.1.toNat [] C.2.1 ((toL s).drop C.2.1) = takeE (C.1.toNat - i) xs k ((toL s).drop k)) ∨ (er ≠ 0 ∧ m = 0 ∧ (if C.2.2 = 0 then takeE C.1.toNat [] C.2.1 ((toL s).drop C.2.1) else ([], 0, C.2.2)) = ([], 0, er)))) ?_ ?_
  · by_cases h0 : C.2.2 = 0
    · exact ⟨_, 0, .slice none 0 0, C.2.2, [], C.2.1, cut s C.2.1, [], true, rfl, rfl, rfl, hs, by omega, by simp, .inl ⟨h0, rfl, rfl, by simp, rfl, rfl, h0, by omega, rfl⟩⟩
    · exact ⟨_, 0, .slice none 0 0, C.2.2, [], C.2.1, cut s C.2.1, [], true, rfl, rfl, rfl, hs, by omega, by simp, .inr ⟨h0, rfl, by rw [if_neg h0]⟩⟩
  · rintro m g w_ ⟨i, v, er, xs, k, s', lk, fb, h10, h9, h8, hs, hk, htk, hor⟩
    have hcut := cut_size s k
    have hcl : (toL (cut s k)) = (toL s).drop k := rfl
    have hcz : (cut s k).size = s.size - k := by show ((toL s).drop k).length = _; rw [List.length_drop, hl]
    refine OkC.env ?_ (fixH (L := [(10, _), (9, _), (8, _)]) ⟨h10, h9, h8, trivial⟩)
    clear h10 h9 h8
    refine c_seq ?_
    refine c_rseq ?_
    refine l_v (by first | exact (r_move (v := iV _) rfl) | exact (r_move rfl)) ?_
    refine l_v (r_eqli rfl rfl) ?_
    rcases hor with ⟨he, hs', hlk, hlkl, hfb, hm, hC0, hi, hta⟩ | ⟨he, hm, hta⟩
    · have f0 : decide (er = 0) = true := decide_eq_true he
      subst hs' hlk hfb
      refine l_v (by first | exact (r_move (v := bV _) rfl) | exact (r_move rfl)) ?_
      refine l_vg (by first | exact (r_move (v := iV _) rfl) | exact (r_move rfl)) rfl (f0) ?_
      refine l_vg (by first | exact (r_move (v := iV _) rfl) | exact (r_move rfl)) rfl (f0) ?_
      refine l_vg (r_lssi rfl rfl) rfl (f0) ?_
      refine l_v (r_pick_t rfl f0 rfl) ?_
      refine l_nil (nrm_then ?_)
      refine c_cond rfl (fun h3 => ?_) (fun h3 => ?_)
      · have hin : i < C.1.toNat := by have := of_decide_eq_true h3; omega
        rw [show C.1.toNat - i = C.1.toNat - (i + 1) + 1 by omega, takeE] at hta
        replace h3 := of_decide_eq_true h3
        refine c_skip (nrm_then ?_)
        refine c_seq ?_
        refine c_block ?_
        refine c_rseq ?_
        refine l_alloc hs I44 ?_
        intro b11 w11 hs hB11 hlt11
        refine l_nil (nrm_then ?_)
        refine c_rseq ?_
        refine l_v (r_move (v := .pointer _) rfl) ?_
        refine l_v (by first | exact (r_nilCheck_p rfl) | exact (r_nilCheck_f rfl)) ?_
        refine l_v (by first | exact (r_fieldAddr0 (off := 0) (T := 9) (by kernel_rfl) rfl) | exact (r_fieldAddr (off := 0) (T := 9) (by kernel_rfl) rfl)) ?_
        refine l_v (by first | exact (r_load_at (i := 0) hs rfl Try.underlying9 rfl rfl) | exact (r_load_at (i := 1) hs rfl Try.underlying9 rfl rfl) | exact (r_load_at (i := 2) hs rfl Try.underlying9 rfl rfl) | exact (r_load_at (i := 3) hs rfl Try.underlying9 rfl rfl) | exact (r_load_at (i := 4) hs rfl Try.underlying9 rfl rfl) | exact (r_load_at (i := 5) hs rfl Try.underlying9 rfl rfl) | exact (r_load_at (i := 6) hs rfl Try.underlying9 rfl rfl)) ?_
        refine l_v (r_eqls rfl rfl) ?_
        refine l_nil (nrm_then ?_)
        refine c_cond rfl (fun h4 => ?_) (fun h4 => ?_)
        · replace h4 := of_decide_eq_true h4
          refine c_region ?_
          refine l_v (by first | exact (r_assign (v := iV _) rfl) | exact (r_assign rfl)) ?_
          refine l_nil (nrm_block (nrm_then ?_))
          refine c_region ?_
          refine l_v (by first | exact (r_move (v := iV _) rfl) | exact (r_move rfl)) ?_
          refine l_v (r_addi rfl rfl (by omega)) ?_
          refine l_v (by first | exact (r_assign (v := iV _) rfl) | exact (r_assign rfl)) ?_
          refine l_nil (nrm_then ?_)
          have hnil : (toL s).drop k = [] := by rw [← hcl, h4]
          rw [if_pos hnil] at hta
          refine And.intro (by refine ⟨?_, ?_, ?_, ?_, ?_, ?_, trivial⟩ <;> ((conv => lhs; whnf); (try conv => rhs; whnf))) ?_
          exact ⟨0, by omega, i + 1, v, 2, xs, k, _, _, _, rfl, rfl, rfl, hs.drop, hk, htk, .inr ⟨by decide, rfl, by rw [if_pos hC0]; exact hta⟩⟩
        · have hnn : ¬ (toL s).drop k = [] := fun h => (of_decide_eq_false h4) (toL_inj (by rw [hcl, h]))
          rw [if_neg hnn] at hta
          have htp := @stepE_pos xs ((toL s).drop k)
          rw [List.length_drop] at htp
          replace h4 := of_decide_eq_false h4
          refine c_rseq ?_
          refine l_v (by first | exact (r_move (v := .func _ _ _) rfl) | exact (r_move (v := .nilFunc) rfl) | exact (r_move rfl)) ?_
          refine l_v (r_move (v := .pointer _) rfl) ?_
          refine l_call (r_call Try.func36 rfl rfl) ?_
          refine Calls.mono (take1_c (cut s k) (by omega) xs hlkl b bl bf w0 _ _ ((hs.pull 4).pull 4 |>.pull 4)) ?_
          rintro e w_ ⟨rfl, s', hs', hs⟩
          refine ⟨_, rfl, ?_⟩
          rw [hcl, cut_cut] at hs'
          rw [hcl] at hs ⊢
          rw [List.drop_drop] at hta
          generalize stepE xs ((toL s).drop k) = T at *
          have hone := ent_one T.1
          have hel : (entC T.1).length = 3 := rfl
          refine l_v (r_move rfl) ?_
          refine l_v (r_extract rfl rfl) ?_
          refine l_v (r_extract rfl rfl) ?_
          first | refine l_store_whole (i := 0) hs rfl I44 rfl rfl (by first | assumption | (simp; done)) (by first | assumption | (simp; done)) (by first | assumption | simp [Value.oneCell']) ?_ | refine l_store_whole (i := 1) hs rfl I44 rfl rfl (by first | assumption | (simp; done)) (by first | assumption | (simp; done)) (by first | assumption | simp [Value.oneCell']) ?_ | refine l_store_whole (i := 2) hs rfl I44 rfl rfl (by first | assumption | (simp; done)) (by first | assumption | (simp; done)) (by first | assumption | simp [Value.oneCell']) ?_ | refine l_store_whole (i := 3) hs rfl I44 rfl rfl (by first | assumption | (simp; done)) (by first | assumption | (simp; done)) (by first | assumption | simp [Value.oneCell']) ?_ | refine l_store_whole (i := 4) hs rfl I44 rfl rfl (by first | assumption | (simp; done)) (by first | assumption | (simp; done)) (by first | assumption | simp [Value.oneCell']) ?_ | refine l_store_whole (i := 5) hs rfl I44 rfl rfl (by first | assumption | (simp; done)) (by first | assumption | (simp; done)) (by first | assumption | simp [Value.oneCell']) ?_ | refine l_store_whole (i := 6) hs rfl I44 rfl rfl (by first | assumption | (simp; done)) (by first | assumption | (simp; done)) (by first | assumption | simp [Value.oneCell']) ?_
          intro w_ hs
          refine l_v (by first | exact (r_assign (v := iV _) rfl) | exact (r_assign rfl)) ?_
          refine l_nil (nrm_then ?_)
          refine c_rseq ?_
          refine l_v (by first | exact (r_move (v := iV _) rfl) | exact (r_move rfl)) ?_
          refine l_v (r_eqli rfl rfl) ?_
          refine l_nil (nrm_then ?_)
          have hs : Eng.Sep w0 w_ (rdr b s' :: blk bl [sV (ofL T.1.key)] 9 :: blk bf [bV false] 4 :: blk b11 (entC T.1) 44 :: rowE v xs :: R) := hs
          have hs := hs.pull 4
          refine c_cond rfl (fun h5 => ?_) (fun h5 => ?_)
          · have h5' : T.2.2 = 0 := of_decide_eq_true h5
            obtain ⟨htp1, htp2, htp3⟩ := htp h5'
            rw [if_pos h5'] at hta
            replace h5 := of_decide_eq_true h5
            refine c_region ?_
            refine l_v (by first | exact (r_move (v := .slice _ _ _) rfl) | exact (r_move rfl)) ?_
            refine l_v (r_load_whole (i := 4) hs rfl Try.underlying44 I44 rfl hel) ?_
            refine l_lit [.agg (entC T.1).toArray] hs Try.underlying22 I44 rfl (by intro u hu; rw [List.mem_singleton.1 hu]; exact hel) (by decide) rfl (by decide) (by decide) ?_
            intro b51 w51 hs hB51 hlt51
            have e1 : ([Value.agg (entC T.1).toArray].flatMap fun v => v.cells.toList) = entC T.1 := by simp [Value.cells]
            rw [e1] at hs
            refine l_append_lit Try.underlying22 I44 (by kernel_rfl) (by decide) rfl rfl hs hel hone (by omega) (by omega) ?_
            intro v52 w52 hs
            have hs := rowE_app hs
            refine l_v (by first | exact (r_assign (v := .slice _ _ _) rfl) | exact (r_assign rfl)) ?_
            refine l_nil (nrm_block (nrm_then ?_))
            refine c_region ?_
            refine l_v (by first | exact (r_move (v := iV _) rfl) | exact (r_move rfl)) ?_
            refine l_v (r_addi rfl rfl (by omega)) ?_
            refine l_v (by first | exact (r_assign (v := iV _) rfl) | exact (r_assign rfl)) ?_
            refine l_nil (nrm_then ?_)
            have hs : Eng.Sep w0 w52 (rowE v52 (xs ++ [T.1]) :: rdr b s' :: blk bl [sV (ofL T.1.key)] 9 :: blk bf [bV false] 4 :: blk b11 (entC T.1) 44 :: R) := hs
            have hs := (hs.pull 4).drop
            refine And.intro (by refine ⟨?_, ?_, ?_, ?_, ?_, ?_, trivial⟩ <;> ((conv => lhs; whnf); (try conv => rhs; whnf))) ?_
            exact ⟨s.size - (k + T.2.1) + 1, by omega, i + 1, v52, T.2.2, xs ++ [T.1], k + T.2.1, s', T.1.key, false, rfl, rfl, rfl, hs, by omega, by rw [List.length_append]; simp only [List.length_cons, List.length_nil]; omega, .inl ⟨h5', hs' h5', (lastK_next _ _).symm, htp3, by simp, rfl, hC0, by omega, hta⟩⟩
          · have h5' : ¬ T.2.2 = 0 := of_decide_eq_false h5
            rw [if_neg h5'] at hta
            have hs := (hs.pull 4).drop
            replace h5 := of_decide_eq_false h5
            refine c_skip (nrm_block (nrm_then ?_))
            refine c_region ?_
            refine l_v (by first | exact (r_move (v := iV _) rfl) | exact (r_move rfl)) ?_
            refine l_v (r_addi rfl rfl (by omega)) ?_
            refine l_v (by first | exact (r_assign (v := iV _) rfl) | exact (r_assign rfl)) ?_
            refine l_nil (nrm_then ?_)
            refine And.intro (by refine ⟨?_, ?_, ?_, ?_, ?_, ?_, trivial⟩ <;> ((conv => lhs; whnf); (try conv => rhs; whnf))) ?_
            exact ⟨0, by omega, i + 1, v, T.2.2, xs, k, s', T.1.key, false, rfl, rfl, rfl, hs, by omega, by omega, .inr ⟨h5', rfl, by rw [if_pos hC0]; exact hta⟩⟩
      · have hin : i = C.1.toNat := by have := of_decide_eq_false h3; omega
        rw [hin, Nat.sub_self] at hta
        replace h3 := of_decide_eq_false h3
        refine c_exit (ex_then (ex_then (ex_hit (nrm_then ?_))))
        refine c_seq ?_
        refine c_rseq ?_
        refine l_v (by first | exact (r_move (v := iV _) rfl) | exact (r_move rfl)) ?_
        refine l_v (r_neqi rfl rfl) ?_
        refine l_nil (nrm_then ?_)
        refine c_false rfl (decide_eq_false (fun h => h he)) ?_
        have hs := (hs.pull 3).drop.pull 2 |>.drop
        refine c_skip (nrm_then ?_)
        refine c_rseq ?_
        refine l_v (by first | exact (r_move (v := .slice _ _ _) rfl) | exact (r_move rfl)) ?_
        refine l_v (by first | exact (r_assign (v := .slice _ _ _) rfl) | exact (r_assign rfl)) ?_
        refine l_v (by first | exact (r_assign (v := iV _) rfl) | exact (r_assign rfl)) ?_
        refine l_nil (nrm_then ?_)
        refine c_ret ?_
        show Fin _ _ _ _ _
        refine fin2 rfl ?_
        rw [if_pos hC0, hta]
        exact ⟨_, rfl, hs, hk⟩
    · have f0 : decide (er = 0) = false := decide_eq_false he
      have f1 : decide (er ≠ 0) = true := decide_eq_true he
      refine l_v (by first | exact (r_move (v := bV _) rfl) | exact (r_move rfl)) ?_
      refine l_no rfl (f0) ?_
      refine l_no rfl (f0) ?_
      refine l_no rfl (f0) ?_
      refine l_v (r_pick_f rfl f0 rfl) ?_
      refine l_nil (nrm_then ?_)
      refine c_false rfl (rfl) ?_
      refine c_exit (ex_then (ex_then (ex_hit (nrm_then ?_))))
      refine c_seq ?_
      refine c_rseq ?_
      refine l_v (by first | exact (r_move (v := iV _) rfl) | exact (r_move rfl)) ?_
      refine l_v (r_neqi rfl rfl) ?_
      refine l_nil (nrm_then ?_)
      refine c_true rfl (f1) ?_
      have hs := hs.drop
      refine c_rseq ?_
      refine l_v (r_move (v := .pointer _) rfl) ?_
      refine l_v (by first | exact (r_move (v := sV _) rfl) | exact (r_move rfl)) ?_
      refine l_v (by first | exact (r_nilCheck_p rfl) | exact (r_nilCheck_f rfl)) ?_
      refine l_v (by first | exact (r_fieldAddr0 (off := 0) (T := 9) (by kernel_rfl) rfl) | exact (r_fieldAddr (off := 0) (T := 9) (by kernel_rfl) rfl)) ?_
      first | refine l_store (i := 0) (v := sV _) hs rfl I9 rfl rfl (by first | (simp; done) | (simp; omega) | omega) ?_ | refine l_store (i := 1) (v := sV _) hs rfl I9 rfl rfl (by first | (simp; done) | (simp; omega) | omega) ?_ | refine l_store (i := 2) (v := sV _) hs rfl I9 rfl rfl (by first | (simp; done) | (simp; omega) | omega) ?_ | refine l_store (i := 3) (v := sV _) hs rfl I9 rfl rfl (by first | (simp; done) | (simp; omega) | omega) ?_ | refine l_store (i := 4) (v := sV _) hs rfl I9 rfl rfl (by first | (simp; done) | (simp; omega) | omega) ?_ | refine l_store (i := 5) (v := sV _) hs rfl I9 rfl rfl (by first | (simp; done) | (simp; omega) | omega) ?_ | refine l_store (i := 6) (v := sV _) hs rfl I9 rfl rfl (by first | (simp; done) | (simp; omega) | omega) ?_
      intro w_ hs
      refine l_nil (nrm_then ?_)
      refine c_rseq ?_
      refine l_v (by first | exact (r_move (v := iV _) rfl) | exact (r_move rfl)) ?_
      refine l_v (by first | exact (r_assign (v := .slice _ _ _) rfl) | exact (r_assign rfl)) ?_
      refine l_v (by first | exact (r_assign (v := iV _) rfl) | exact (r_assign rfl)) ?_
      refine l_nil (nrm_then ?_)
      refine c_ret (ret_then ?_)
      show Fin _ _ _ _ _
      refine fin2 rfl ?_
      rw [hta]
      have hs := (hs.pull 2).drop.pull 1 |>.drop
      exact ⟨_, rfl, hs.rowNil 44 3, by show 0 ≤ _; omega⟩
def openL (l : List UInt8) : List Ent × Int :=
  if (takeLE l).2.2 ≠ 0 then ([], (takeLE l).2.2) else if 65536 < (takeLE l).1.length then ([], 6) else if (takeLE l).2.1 < l.length then ([], 5) else ((takeLE l).1, 0)
def openB (s : List UInt8) : List Ent × Int := if (Crc.take s).2 ≠ 0 then ([], (Crc.take s).2) else openL (Crc.take s).1
theorem take_len (l : List UInt8) : (Crc.take l).1.length ≤ l.length := by
  unfold Crc.take
  split
  · simp
  · split
    · dsimp only; rw [List.length_take]; omega
    · simp
set_option maxHeartbeats 4000000 in
theorem open_c (s : ByteArray) (hz : s.size ≤ 1099511627776) (w0 w : World) (R : List HP) (hs : Eng.Sep w0 w R) :
    Calls Try.prog 15 #[sV s] w fun e w' => ∃ v, e = .returned (.tuple #[v, iV (openB (toL s)).2]) ∧ Eng.Sep w0 w' (rowE v (openB (toL s)).1 :: R) := by
  have hl := toL_size s
  have htl := take_len (toL s)
  unfold openB
  refine enter (P := Try.prog) Try.func15 rfl rfl ?_
  refine c_rseq ?_
  refine l_v (by first | exact (r_assign (v := .slice _ _ _) rfl) | exact (r_assign rfl)) ?_
  refine l_v (by first | exact (r_assign (v := iV _) rfl) | exact (r_assign rfl)) ?_
  refine l_nil (nrm_then ?_)
  refine c_rseq ?_
  refine l_v (by first | exact (r_move (v := sV _) rfl) | exact (r_move rfl)) ?_
  refine l_call (r_call Try.func33 rfl rfl) ?_
  refine Calls.mono (Crc.take_c s _ (by omega)) ?_
  rintro e w_ ⟨rfl, hb⟩
  refine ⟨_, rfl, ?_⟩
  have hs := hs.below_ hb
  generalize Crc.take (toL s) = T at *
  have htz : (ofL T.1).size = T.1.length := rfl
  refine l_v (r_move rfl) ?_
  refine l_v (r_extract rfl rfl) ?_
  refine l_v (r_extract rfl rfl) ?_
  refine l_v (by first | exact (r_assign (v := sV _) rfl) | exact (r_assign rfl)) ?_
  refine l_v (by first | exact (r_assign (v := iV _) rfl) | exact (r_assign rfl)) ?_
  refine l_nil (nrm_then ?_)
  refine c_seq ?_
  refine c_rseq ?_
  refine l_v (by first | exact (r_move (v := iV _) rfl) | exact (r_move rfl)) ?_
  refine l_v (r_neqi rfl rfl) ?_
  refine l_nil (nrm_then ?_)
  refine c_cond rfl (fun h1 => ?_) (fun h1 => ?_)
  · replace h1 := of_decide_eq_true h1
    refine c_rseq ?_
    refine l_v (by first | exact (r_move (v := iV _) rfl) | exact (r_move rfl)) ?_
    refine l_v (by first | exact (r_assign (v := .slice _ _ _) rfl) | exact (r_assign rfl)) ?_
    refine l_v (by first | exact (r_assign (v := iV _) rfl) | exact (r_assign rfl)) ?_
    refine l_nil (nrm_then ?_)
    refine c_ret (ret_then ?_)
    show Fin _ _ _ _ _
    refine fin2 rfl ?_
    rw [if_pos h1]
    exact ⟨_, rfl, hs.rowNil 44 3⟩
  · replace h1 := of_decide_eq_false h1
    refine c_skip (nrm_then ?_)
    refine c_rseq ?_
    refine l_v (by first | exact (r_move (v := sV _) rfl) | exact (r_move rfl)) ?_
    rw [if_neg h1]
    unfold openL
    refine l_call (r_call Try.func34 rfl rfl) ?_
    refine Calls.mono (over_c (ofL T.1) w0 _ _ hs) ?_
    rintro e w_ ⟨b5, rfl, hs⟩
    refine ⟨_, rfl, ?_⟩
    refine l_v (r_assign (v := .pointer _) rfl) ?_
    refine l_nil (nrm_then ?_)
    refine c_rseq ?_
    refine l_alloc hs I9 ?_
    intro b6 w6 hs hB6 hlt6
    refine l_alloc hs I4 ?_
    intro b7 w7 hs hB7 hlt7
    first | refine l_store (i := 0) (v := sV _) hs rfl I9 rfl rfl (by first | (simp; done) | (simp; omega) | omega) ?_ | refine l_store (i := 1) (v := sV _) hs rfl I9 rfl rfl (by first | (simp; done) | (simp; omega) | omega) ?_ | refine l_store (i := 2) (v := sV _) hs rfl I9 rfl rfl (by first | (simp; done) | (simp; omega) | omega) ?_ | refine l_store (i := 3) (v := sV _) hs rfl I9 rfl rfl (by first | (simp; done) | (simp; omega) | omega) ?_ | refine l_store (i := 4) (v := sV _) hs rfl I9 rfl rfl (by first | (simp; done) | (simp; omega) | omega) ?_ | refine l_store (i := 5) (v := sV _) hs rfl I9 rfl rfl (by first | (simp; done) | (simp; omega) | omega) ?_ | refine l_store (i := 6) (v := sV _) hs rfl I9 rfl rfl (by first | (simp; done) | (simp; omega) | omega) ?_
    intro w_ hs
    first | refine l_store (i := 0) (v := bV _) hs rfl I4 rfl rfl (by first | (simp; done) | (simp; omega) | omega) ?_ | refine l_store (i := 1) (v := bV _) hs rfl I4 rfl rfl (by first | (simp; done) | (simp; omega) | omega) ?_ | refine l_store (i := 2) (v := bV _) hs rfl I4 rfl rfl (by first | (simp; done) | (simp; omega) | omega) ?_ | refine l_store (i := 3) (v := bV _) hs rfl I4 rfl rfl (by first | (simp; done) | (simp; omega) | omega) ?_ | refine l_store (i := 4) (v := bV _) hs rfl I4 rfl rfl (by first | (simp; done) | (simp; omega) | omega) ?_ | refine l_store (i := 5) (v := bV _) hs rfl I4 rfl rfl (by first | (simp; done) | (simp; omega) | omega) ?_ | refine l_store (i := 6) (v := bV _) hs rfl I4 rfl rfl (by first | (simp; done) | (simp; omega) | omega) ?_
    intro w_ hs
    refine l_nil (nrm_then ?_)
    refine c_rseq ?_
    refine l_v (r_move (v := .pointer _) rfl) ?_
    refine l_v (r_makeFunc rfl rfl) ?_
    have hs : Eng.Sep w0 w_ (blk b7 [bV true] 4 :: blk b6 [sV (ofL [])] 9 :: rdr b5 (ofL T.1) :: R) := hs
    refine l_call (r_call Try.func35 rfl rfl) ?_
    refine Calls.mono (takelist_c (ofL T.1) (by omega) b5 b6 b7 w0 _ _ ((hs.pull 1).pull 2)) ?_
    rintro e w_ ⟨v, rfl, hs, hle⟩
    refine ⟨_, rfl, ?_⟩
    rw [Eng.toL_ofL] at *
    generalize takeLE T.1 = L at *
    refine l_v (r_move rfl) ?_
    refine l_v (r_extract rfl rfl) ?_
    refine l_v (r_extract rfl rfl) ?_
    refine l_v (by first | exact (r_assign (v := .slice _ _ _) rfl) | exact (r_assign rfl)) ?_
    refine l_v (by first | exact (r_assign (v := iV _) rfl) | exact (r_assign rfl)) ?_
    refine l_nil (nrm_then ?_)
    refine c_seq ?_
    refine c_block ?_
    refine c_rseq ?_
    refine l_v (by first | exact (r_move (v := iV _) rfl) | exact (r_move rfl)) ?_
    refine l_v (r_neqi rfl rfl) ?_
    refine l_v (by first | exact (r_assign (v := bV _) rfl) | exact (r_assign rfl)) ?_
    refine l_nil (nrm_then ?_)
    refine c_cond rfl (fun h2 => ?_) (fun h2 => ?_)
    · replace h2 := of_decide_eq_true h2
      refine c_rseq ?_
      refine l_v (by first | exact (r_move (v := iV _) rfl) | exact (r_move rfl)) ?_
      refine l_v (by first | exact (r_assign (v := .slice _ _ _) rfl) | exact (r_assign rfl)) ?_
      refine l_v (by first | exact (r_assign (v := iV _) rfl) | exact (r_assign rfl)) ?_
      refine l_nil (nrm_then ?_)
      refine c_ret (ret_block (ret_then ?_))
      show Fin _ _ _ _ _
      refine fin2 rfl ?_
      rw [if_pos h2]
      exact ⟨_, rfl, hs.drop.drop.rowNil 44 3⟩
    · obtain ⟨A, c, rfl, hc⟩ := hs.rowForm
      replace h2 := of_decide_eq_false h2
      refine c_rseq ?_
      refine l_v (by first | exact (r_move (v := .slice _ _ _) rfl) | exact (r_move rfl)) ?_
      refine l_v (r_len_l Try.underlying22 rfl) ?_
      refine l_v (r_gtri rfl rfl) ?_
      refine l_v (by first | exact (r_assign (v := bV _) rfl) | exact (r_assign rfl)) ?_
      refine l_nil (nrm_then ?_)
      rw [if_neg h2]
      refine c_cond rfl (fun h3 => ?_) (fun h3 => ?_)
      · replace h3 := of_decide_eq_true h3
        refine c_rseq ?_
        refine l_v (by first | exact (r_assign (v := .slice _ _ _) rfl) | exact (r_assign rfl)) ?_
        refine l_v (by first | exact (r_assign (v := iV _) rfl) | exact (r_assign rfl)) ?_
        refine l_nil (nrm_then ?_)
        refine c_ret (ret_block (ret_then ?_))
        show Fin _ _ _ _ _
        refine fin2 rfl ?_
        rw [if_pos (by omega)]
        exact ⟨_, rfl, hs.drop.drop.rowNil 44 3⟩
      · replace h3 := of_decide_eq_false h3
        refine c_skip (nrm_block (nrm_then ?_))
        refine c_seq ?_
        refine c_rseq ?_
        refine l_v (r_move (v := .pointer _) rfl) ?_
        rw [if_neg (by omega)]
        have hdl : (toL (cut (ofL T.1) L.2.1)).length = T.1.length - L.2.1 := by show ((toL (ofL T.1)).drop L.2.1).length = _; rw [Eng.toL_ofL, List.length_drop]
        refine l_call (r_call Try.func38 rfl rfl) ?_
        refine Calls.mono (end_c (cut (ofL T.1) L.2.1) b5 w0 _ _ (hs.pull 1)) ?_
        rintro e w_ ⟨rfl, rfl⟩
        refine ⟨_, rfl, ?_⟩
        rw [hdl]
        by_cases h4 : T.1.length - L.2.1 = 0
        · rw [if_pos h4, if_neg (by omega)]
          refine l_v (by first | exact (r_assign (v := iV _) rfl) | exact (r_assign rfl)) ?_
          refine l_nil (nrm_then ?_)
          refine c_rseq ?_
          refine l_v (by first | exact (r_move (v := iV _) rfl) | exact (r_move rfl)) ?_
          refine l_v (r_neqi rfl rfl) ?_
          refine l_nil (nrm_then ?_)
          refine c_false rfl (rfl) ?_
          refine c_skip (nrm_then ?_)
          refine c_rseq ?_
          refine l_v (by first | exact (r_move (v := .slice _ _ _) rfl) | exact (r_move rfl)) ?_
          refine l_v (by first | exact (r_assign (v := .slice _ _ _) rfl) | exact (r_assign rfl)) ?_
          refine l_v (by first | exact (r_assign (v := iV _) rfl) | exact (r_assign rfl)) ?_
          refine l_nil (nrm_then ?_)
          have h2' : L.2.2 = 0 := Decidable.of_not_not h2
          refine c_ret ?_
          show Fin _ _ _ _ _
          refine fin2 rfl ?_
          exact ⟨_, rfl, (hs.pull 1).drop⟩
        · rw [if_neg h4, if_pos (by omega)]
          refine l_v (by first | exact (r_assign (v := iV _) rfl) | exact (r_assign rfl)) ?_
          refine l_nil (nrm_then ?_)
          refine c_rseq ?_
          refine l_v (by first | exact (r_move (v := iV _) rfl) | exact (r_move rfl)) ?_
          refine l_v (r_neqi rfl rfl) ?_
          refine l_nil (nrm_then ?_)
          refine c_true rfl (rfl) ?_
          refine c_rseq ?_
          refine l_v (by first | exact (r_move (v := iV _) rfl) | exact (r_move rfl)) ?_
          refine l_v (by first | exact (r_assign (v := .slice _ _ _) rfl) | exact (r_assign rfl)) ?_
          refine l_v (by first | exact (r_assign (v := iV _) rfl) | exact (r_assign rfl)) ?_
          refine l_nil (nrm_then ?_)
          refine c_ret (ret_then ?_)
          show Fin _ _ _ _ _
          refine fin2 rfl ?_
          exact ⟨_, rfl, hs.drop.drop.rowNil 44 3⟩
end Go.Proofs.Ytfjnjnkmkbbjoaa.Blk
