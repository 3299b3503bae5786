/- The walks of Apply and awake. -/
import Derived.Test.YtmeikcifobfolaaDelWalk
import Derived.Test.YtmeikcifobfolaaSixWr
namespace Go.Proofs.Ytmeikcifobfolaa.Del
open Go Go.RowKit Go.Proofs.Ytmeikcifobfolaa.Eng Go.Proofs.Ytmeikcifobfolaa.Six
set_option linter.unusedVariables false
set_option maxRecDepth 100000
set_option maxHeartbeats 4000000 in
theorem apply_c (A : Option Addr) (n c : Nat) (bs : List UInt8) (s : ByteArray) (hz : s.size ≤ 16777216) (w0 w : World) (R : List HP) (hr0 : Rd w0 1 A n (bs.map u8V)) (hcap : n ≤ c) (hs : Eng.Sep w0 w R) (hw : w0.heap.size ≤ w.heap.size) :
    Calls Try.prog 8 #[.slice A n c, sV s] w fun e w' => ∃ v, e = .returned (.tuple #[v, iV (apply bs (toL s)).2]) ∧ Eng.Sep w0 w' (ow v (apply bs (toL s)).1 :: R) := by
  have hl := toL_size s
  have hcn := count_nonneg (toL s)
  have hcb := count_bound (toL s)
  have hcs := count_size (toL s)
  unfold apply
  refine enter (P := Try.prog) Try.func8 rfl rfl ?_
  refine c_rseq ?_
  refine l_v (by first | exact (r_assign (v := .slice _ _ _) rfl) | exact (r_assign rfl)) ?_
  refine l_v (by first | exact (r_assign (v := iV _) rfl) | exact (r_assign rfl)) ?_
  refine l_nil (nrm_then ?_)
  refine c_rseq ?_
  refine l_v (by first | exact (r_move (v := sV _) rfl) | exact (r_move rfl)) ?_
  refine l_call (r_call Try.func12 rfl rfl) ?_
  refine Calls.mono (over_c s w0 _ _ hs) ?_
  rintro e w_ ⟨b6, rfl, hs⟩
  refine ⟨_, rfl, ?_⟩
  refine l_v (r_assign (v := .pointer _) rfl) ?_
  refine l_nil (nrm_then ?_)
  refine c_rseq ?_
  refine l_v (r_move (v := .pointer _) rfl) ?_
  refine l_call (r_call Try.func13 rfl rfl) ?_
  refine Calls.mono (count_c s (by omega) b6 w0 _ R hs) ?_
  rintro e w_ ⟨rfl, hs⟩
  refine ⟨_, rfl, ?_⟩
  generalize count (toL s) = C at *
  refine l_v (r_move rfl) ?_
  refine l_v (r_extract rfl rfl) ?_
  refine l_v (r_extract rfl rfl) ?_
  refine l_v (by first | exact (r_assign (v := iV _) rfl) | exact (r_assign rfl)) ?_
  refine l_v (by first | exact (r_assign (v := iV _) rfl) | exact (r_assign rfl)) ?_
  refine l_nil (nrm_then ?_)
  refine c_seq ?_
  refine c_block ?_
  refine c_rseq ?_
  refine l_v (by first | exact (r_move (v := iV _) rfl) | exact (r_move rfl)) ?_
  refine l_v (r_neqi rfl rfl) ?_
  refine l_v (by first | exact (r_assign (v := bV _) rfl) | exact (r_assign rfl)) ?_
  refine l_nil (nrm_then ?_)
  refine c_cond rfl (fun h1 => ?_) (fun h1 => ?_)
  · replace h1 := of_decide_eq_true h1
    refine c_rseq ?_
    refine l_v (by first | exact (r_move (v := iV _) rfl) | exact (r_move rfl)) ?_
    refine l_v (by first | exact (r_assign (v := .slice _ _ _) rfl) | exact (r_assign rfl)) ?_
    refine l_v (by first | exact (r_assign (v := iV _) rfl) | exact (r_assign rfl)) ?_
    refine l_nil (nrm_then ?_)
    have hs := hs.drop
    refine c_ret (ret_block (ret_then ?_))
    show Fin _ _ _ _ _
    refine fin2 rfl ?_
    rw [if_pos h1]
    exact ⟨_, rfl, hs.rowNil 5 1⟩
  · rw [if_neg (of_decide_eq_false h1)]
    replace h1 := of_decide_eq_false h1
    refine c_rseq ?_
    refine l_v (by first | exact (r_move (v := iV _) rfl) | exact (r_move rfl)) ?_
    refine l_v (r_gtri rfl rfl) ?_
    refine l_v (by first | exact (r_assign (v := bV _) rfl) | exact (r_assign rfl)) ?_
    refine l_nil (nrm_then ?_)
    refine c_cond rfl (fun h2 => ?_) (fun h2 => ?_)
    · replace h2 := of_decide_eq_true h2
      refine c_rseq ?_
      refine l_v (by first | exact (r_assign (v := .slice _ _ _) rfl) | exact (r_assign rfl)) ?_
      refine l_v (by first | exact (r_assign (v := iV _) rfl) | exact (r_assign rfl)) ?_
      refine l_nil (nrm_then ?_)
      have hs := hs.drop
      refine c_ret (ret_block (ret_then ?_))
      show Fin _ _ _ _ _
      refine fin2 rfl ?_
      rw [if_pos h2]
      exact ⟨_, rfl, hs.rowNil 5 1⟩
    · have h2' : ¬ 4096 < C.1 := of_decide_eq_false h2
      rw [if_neg h2']
      obtain ⟨z, hzz⟩ : ∃ z : Nat, C.1 = (z : Int) := ⟨C.1.toNat, by omega⟩
      rw [hzz, Int.toNat_natCast]
      have hz4 : z ≤ 4096 := by omega
      replace h2 := of_decide_eq_false h2
      refine c_skip (nrm_block (nrm_then ?_))
      refine c_rseq ?_
      refine l_v (by first | exact (r_move (v := iV _) rfl) | exact (r_move rfl)) ?_
      refine l_make (l := 0) hs Try.underlying22 I5 rfl rfl (by omega) (by omega) (by omega) ?_
      intro b28 w28 hs hB28 hlt28
      refine l_v (by first | exact (r_assign (v := .slice _ _ _) rfl) | exact (r_assign rfl)) ?_
      refine l_nil (nrm_then ?_)
      refine c_seq ?_
      refine c_block ?_
      have hs := hs.rowOf 1 0 z (Nat.zero_le _) (by unfold maxLen; omega) (by rw [Array.length_toList, size_madeCells])
      rw [Nat.zero_mul, List.take_zero] at hs
      obtain ⟨G, hG⟩ : ∃ G, dloop bs z ((toL s).length + 1) [] ((toL s).drop C.2.1) = G := ⟨_, rfl⟩
      rw [hG]
      refine c_loopn [0, 6, 7] (fun m f' w' => ∃ (v : Value) (out : List UInt8) (k j : Nat), f' 9 = v ∧ Eng.Sep w0 w' (ow v out :: rdr b6 (cut s k) :: R) ∧ k ≤ s.size ∧ m = s.size - k ∧ m < j ∧ out.length ≤ z ∧ G = dloop bs z j out ((toL s).drop k)) ?_ ?_
      · exact ⟨s.size - C.2.1, _, [], C.2.1, (toL s).length + 1, rfl, hs, by omega, rfl, by omega, Nat.zero_le _, hG.symm⟩
      · rintro m g w_ ⟨v, out, k, j, h9, hs, hk, hm, hj, hout, hd⟩
        obtain ⟨j, rfl⟩ : ∃ i, j = i + 1 := ⟨j - 1, by omega⟩
        rw [dloop] at hd
        have hcut := cut_size s k
        have hcl : (toL (cut s k)) = (toL s).drop k := rfl
        obtain ⟨Ao, co, rfl, hco⟩ := hs.rowForm
        refine OkC.env ?_ (fixH (L := [(9, _)]) ⟨h9, trivial⟩)
        clear h9
        refine c_seq ?_
        refine c_rseq ?_
        refine l_v (by first | exact (r_move (v := .slice _ _ _) rfl) | exact (r_move rfl)) ?_
        refine l_v (r_len_l Try.underlying22 rfl) ?_
        refine l_v (by first | exact (r_move (v := iV _) rfl) | exact (r_move rfl)) ?_
        refine l_v (r_lssi rfl rfl) ?_
        refine l_nil (nrm_then ?_)
        refine c_cond rfl (fun h3 => ?_) (fun h3 => ?_)
        · have h3' : out.length < z := by
            have h := of_decide_eq_true h3
            omega
          rw [if_pos h3'] at hd
          have hnp := @dnext_pos bs ((toL s).drop k) ((z : Int) - out.length)
          have hns := @dnext_size bs ((toL s).drop k) ((z : Int) - out.length)
          have hnl := @dnext_len bs ((toL s).drop k) ((z : Int) - out.length)
          rw [List.length_drop] at hns
          replace h3 := of_decide_eq_true h3
          refine c_skip (nrm_then ?_)
          refine c_block ?_
          refine c_rseq ?_
          refine l_v (r_move (v := .pointer _) rfl) ?_
          refine l_v (by first | exact (r_move (v := .slice _ _ _) rfl) | exact (r_move rfl)) ?_
          refine l_v (by first | exact (r_move (v := iV _) rfl) | exact (r_move rfl)) ?_
          refine l_v (by first | exact (r_move (v := .slice _ _ _) rfl) | exact (r_move rfl)) ?_
          refine l_v (r_len_l Try.underlying22 rfl) ?_
          refine l_v (r_subi rfl rfl (by omega)) ?_
          refine l_call (r_call Try.func14 rfl rfl) ?_
          refine Calls.mono (dnext_c A n c bs (cut s k) (by omega) ((z : Int) - out.length) b6 w0 _ _ (hr0.below hs.below) hcap (hs.pull 1) (by have := hs.below.size; omega) hr0) ?_
          rintro e w_ ⟨rfl, s', hs', hs⟩
          refine ⟨_, rfl, ?_⟩
          rw [hcl] at hs' ⊢
          generalize dnext bs ((toL s).drop k) ((z : Int) - out.length) = D at *
          refine l_v (r_move rfl) ?_
          refine l_v (r_extract rfl rfl) ?_
          refine l_v (r_extract rfl rfl) ?_
          refine l_v (by first | exact (r_assign (v := sV _) rfl) | exact (r_assign rfl)) ?_
          refine l_v (by first | exact (r_assign (v := iV _) rfl) | exact (r_assign rfl)) ?_
          refine l_nil (nrm_then ?_)
          refine c_seq ?_
          refine c_rseq ?_
          refine l_v (by first | exact (r_move (v := iV _) rfl) | exact (r_move rfl)) ?_
          refine l_v (r_neqi rfl rfl) ?_
          refine l_nil (nrm_then ?_)
          refine c_cond rfl (fun h4 => ?_) (fun h4 => ?_)
          · rw [if_pos (of_decide_eq_true h4)] at hd
            have hs := hs.drop.drop
            replace h4 := of_decide_eq_true h4
            refine c_rseq ?_
            refine l_v (by first | exact (r_move (v := iV _) rfl) | exact (r_move rfl)) ?_
            refine l_v (by first | exact (r_assign (v := .slice _ _ _) rfl) | exact (r_assign rfl)) ?_
            refine l_v (by first | exact (r_assign (v := iV _) rfl) | exact (r_assign rfl)) ?_
            refine l_nil (nrm_then ?_)
            refine c_ret (ret_then (ret_block (ret_then (ret_block (ret_then ?_)))))
            show Fin _ _ _ _ _
            refine fin2 rfl ?_
            rw [hd]
            exact ⟨_, rfl, hs.rowNil 5 1⟩
          · have h4' : D.2.2 = 0 := Decidable.of_not_not (of_decide_eq_false h4)
            rw [if_neg (fun h => h h4'), List.drop_drop] at hd
            have hs'' : s' = cut s (k + D.2.1) := by rw [hs' h4']; unfold cut; rw [Eng.toL_ofL, List.drop_drop]
            subst hs''
            have hnp := hnp h4'
            have hnl := hnl h4'
            have hs := hs.pull 1
            have hDz : (ofL D.1).size = D.1.length := rfl
            replace h4 := of_decide_eq_false h4
            refine c_skip (nrm_then ?_)
            refine c_region ?_
            refine l_v (by first | exact (r_move (v := .slice _ _ _) rfl) | exact (r_move rfl)) ?_
            refine l_v (by first | exact (r_move (v := sV _) rfl) | exact (r_move rfl)) ?_
            refine l_append_s Try.underlying22 Try.underlying9 I5 rfl rfl hs (by omega) ?_
            intro v48 w48 hs
            have hs := ow_apps hs
            rw [Eng.toL_ofL] at hs
            refine l_v (by first | exact (r_assign (v := .slice _ _ _) rfl) | exact (r_assign rfl)) ?_
            refine l_nil (nrm_block (nrm_then ?_))
            refine And.intro (by refine ⟨?_, ?_, ?_, trivial⟩ <;> ((conv => lhs; whnf); (try conv => rhs; whnf))) ?_
            exact ⟨s.size - (k + D.2.1), by omega, _, out ++ D.1, k + D.2.1, j, rfl, hs, by omega, rfl, by omega, by rw [List.length_append]; omega, hd⟩
        · have h3' : ¬ out.length < z := by
            have h := of_decide_eq_false h3
            omega
          rw [if_neg h3'] at hd
          replace h3 := of_decide_eq_false h3
          refine c_exit (ex_then (ex_then (ex_hit (nrm_then ?_))))
          refine c_seq ?_
          refine c_rseq ?_
          refine l_v (r_move (v := .pointer _) rfl) ?_
          refine l_call (r_call Try.func15 rfl rfl) ?_
          refine Calls.mono (end_c (cut s k) b6 w0 _ _ (hs.pull 1)) ?_
          rintro e w_ ⟨rfl, rfl⟩
          refine ⟨_, rfl, ?_⟩
          rw [hcl]
          refine l_v (by first | exact (r_assign (v := iV _) rfl) | exact (r_assign rfl)) ?_
          refine l_nil (nrm_then ?_)
          refine c_rseq ?_
          refine l_v (by first | exact (r_move (v := iV _) rfl) | exact (r_move rfl)) ?_
          refine l_v (r_neqi rfl rfl) ?_
          refine l_nil (nrm_then ?_)
          by_cases h5 : ((toL s).drop k).length = 0
          · rw [if_pos h5] at hd
            have e5 : (if ((toL s).drop k).length = 0 then (0 : Int) else 5) = 0 := if_pos h5
            rw [e5]
            have hs := (hs.pull 1).drop
            refine c_false rfl (rfl) ?_
            refine c_skip (nrm_then ?_)
            refine c_rseq ?_
            refine l_v (by first | exact (r_move (v := .slice _ _ _) rfl) | exact (r_move rfl)) ?_
            refine l_v (by first | exact (r_assign (v := .slice _ _ _) rfl) | exact (r_assign rfl)) ?_
            refine l_v (by first | exact (r_assign (v := iV _) rfl) | exact (r_assign rfl)) ?_
            refine l_nil (nrm_then ?_)
            refine c_ret ?_
            show Fin _ _ _ _ _
            refine fin2 rfl ?_
            rw [hd]
            exact ⟨_, rfl, hs⟩
          · rw [if_neg h5] at hd
            have e5 : (if ((toL s).drop k).length = 0 then (0 : Int) else 5) = 5 := if_neg h5
            rw [e5]
            have hs := hs.drop.drop
            refine c_true rfl (rfl) ?_
            refine c_rseq ?_
            refine l_v (by first | exact (r_move (v := iV _) rfl) | exact (r_move rfl)) ?_
            refine l_v (by first | exact (r_assign (v := .slice _ _ _) rfl) | exact (r_assign rfl)) ?_
            refine l_v (by first | exact (r_assign (v := iV _) rfl) | exact (r_assign rfl)) ?_
            refine l_nil (nrm_then ?_)
            refine c_ret (ret_then ?_)
            show Fin _ _ _ _ _
            refine fin2 rfl ?_
            rw [hd]
            exact ⟨_, rfl, hs.rowNil 5 1⟩
end Go.Proofs.Ytmeikcifobfolaa.Del
