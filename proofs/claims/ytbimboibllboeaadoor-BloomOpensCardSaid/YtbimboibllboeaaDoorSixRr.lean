/- The walks of the document's reading of numbers and texts. -/
import Derived.Test.YtbimboibllboeaaDoorSixRm
namespace Go.Proofs.YtbimboibllboeaaDoor.Six
open Go Go.RowKit Go.Proofs.YtbimboibllboeaaDoor.Eng
set_option linter.unusedVariables false
set_option maxRecDepth 100000
theorem tmod64 (c : UInt8) : Int.tmod (c.toNat : Int) 64 = ((c.toNat % 64 : Nat) : Int) := by
  rw [Int.tmod_eq_emod_of_nonneg (by omega)]; omega
theorem mul64' (x d : Nat) : (64 : BitVec 64) * BitVec.ofNat 64 x + BitVec.ofInt 64 ((d : Nat) : Int) = BitVec.ofNat 64 (64 * x + d) := by
  rw [BitVec.ofInt_natCast]
  apply BitVec.eq_of_toNat_eq
  rw [BitVec.toNat_add, BitVec.toNat_mul, BitVec.toNat_ofNat, BitVec.toNat_ofNat, BitVec.toNat_ofNat]
  show (64 * (x % 2 ^ 64) % 2 ^ 64 + d % 2 ^ 64) % 2 ^ 64 = _
  omega
/-- What ReadWhole answers, by what stands here. -/
def outW (R : Num) : Int × Nat × Int := if R.e = 0 then (if R.below then -1 - (R.n : Int) else (R.n : Int), R.size, 0) else (0, 0, R.e)
set_option maxHeartbeats 2000000 in
theorem readwhole_c (s : ByteArray) (hz : s.size ≤ 9223372036854775807) (w : World) :
    Calls Tryd.prog 43 #[sV s] w fun e w' => e = .returned (.tuple #[iV (whole (toL s)).1, iV ((whole (toL s)).2.1 : Int), iV (whole (toL s)).2.2]) ∧ w' = w := by
  have how : outW (num 0 0 (toL s)) = whole (toL s) := rfl
  refine enter (P := Tryd.prog) Tryd.func43 rfl rfl ?_
  refine c_rseq ?_
  refine l_v (by first | exact (r_assign (v := iV _) rfl) | exact (r_assign rfl)) ?_
  refine l_v (by first | exact (r_assign (v := iV _) rfl) | exact (r_assign rfl)) ?_
  refine l_v (by first | exact (r_assign (v := iV _) rfl) | exact (r_assign rfl)) ?_
  refine l_nil (nrm_then ?_)
  refine c_rseq ?_
  refine l_v (r_assign (v := u64V 0) rfl) ?_
  refine l_nil (nrm_then ?_)
  refine c_seq ?_
  refine c_rseq ?_
  refine l_v (by first | exact (r_assign (v := iV _) rfl) | exact (r_assign rfl)) ?_
  refine l_nil (nrm_then ?_)
  refine c_block ?_
  refine c_loopn [0] (fun m f' w' => w' = w ∧ ∃ i x, i + m = s.size ∧ f' 6 = iV (i : Int) ∧ f' 5 = u64V (BitVec.ofNat 64 x) ∧ x ≤ 9223372036854775807 ∧ num 0 0 (toL s) = num x i ((toL s).drop i)) ?_ ?_
  · exact ⟨s.size, rfl, 0, 0, by omega, rfl, rfl, by omega, rfl⟩
  · rintro m g w_ ⟨hw, i, x, hi, h6, h5, hx, hn⟩
    subst w_
    refine OkC.env ?_ (fixH (L := [(6, _), (5, _)]) ⟨h6, h5, trivial⟩)
    clear h6 h5
    refine c_seq ?_
    refine c_rseq ?_
    refine l_v (by first | exact (r_move (v := iV _) rfl) | exact (r_move rfl)) ?_
    refine l_v (by first | exact (r_move (v := sV _) rfl) | exact (r_move rfl)) ?_
    refine l_v (r_len_s Tryd.underlying9 rfl) ?_
    refine l_v (r_lssi rfl rfl) ?_
    refine l_nil (nrm_then ?_)
    refine c_cond rfl (fun h => ?_) (fun h => ?_)
    · have hlt : i < s.size := by have := of_decide_eq_true h; omega
      have hd := drop_at s i hlt
      rw [hd] at hn
      have hxn := ofNat64 x (by omega)
      replace h := of_decide_eq_true h
      refine c_skip (nrm_then ?_)
      refine c_seq ?_
      refine c_block ?_
      refine c_rseq ?_
      refine l_v (by first | exact (r_move (v := sV _) rfl) | exact (r_move rfl)) ?_
      refine l_v (by first | exact (r_move (v := iV _) rfl) | exact (r_move rfl)) ?_
      refine l_v (by first | exact (r_index_s Tryd.underlying9 rfl rfl (by omega)) | exact (r_index_si Tryd.underlying9 rfl rfl (by omega))) ?_
      refine l_v (r_cv_8i Tryd.underlying5 Tryd.underlying3 rfl) ?_
      refine l_v (by first | exact (r_assign (v := iV _) rfl) | exact (r_assign rfl)) ?_
      refine l_nil (nrm_then ?_)
      refine c_seq ?_
      refine c_seq ?_
      generalize at8 s i = c at *
      have hc := c.toNat_lt
      refine c_mid [0, 2, 3, 4, 5, 6, 7] ((fun f' w' => w' = w ∧ f' 31 = bV (bad c x i))) ?_ ?_
      · refine c_region ?_
        refine l_v (by first | exact (r_move (v := iV _) rfl) | exact (r_move rfl)) ?_
        refine l_v (r_geqi rfl rfl) ?_
        unfold bad
        by_cases h1 : (c.toNat : Int) ≥ 192
        · have f1 : decide ((c.toNat : Int) ≥ 192) = true := decide_eq_true h1
          refine l_v (by first | exact (r_move (v := bV _) rfl) | exact (r_move rfl)) ?_
          refine l_no rfl (f1) ?_
          refine l_no rfl (f1) ?_
          refine l_no rfl (f1) ?_
          refine l_skip (.inr rfl) ?_
          refine l_skip (.inr rfl) ?_
          refine l_no rfl (f1) ?_
          refine l_v (r_pick_t rfl f1 rfl) ?_
          refine l_v (by first | exact (r_move (v := bV _) rfl) | exact (r_move rfl)) ?_
          refine l_no rfl (rfl) ?_
          refine l_no rfl (rfl) ?_
          refine l_v (r_pick_t rfl rfl rfl) ?_
          refine l_nil (nrm_then ?_)
          refine And.intro (by refine ⟨?_, ?_, ?_, ?_, ?_, ?_, ?_, trivial⟩ <;> ((conv => lhs; whnf); (try conv => rhs; whnf))) ?_
          exact ⟨rfl, congrArg Value.bool ((decide_eq_true (show 192 ≤ c.toNat ∨ 144115188075855871 < x ∨ (i = 0 ∧ c.toNat = 0) from .inl (by omega))).trans rfl).symm⟩
        · have f1 : decide ((c.toNat : Int) ≥ 192) = false := decide_eq_false h1
          by_cases h3 : (c.toNat : Int) = 0
          · have f3 : decide ((c.toNat : Int) = 0) = true := decide_eq_true h3
            by_cases h4 : (i : Int) = 0
            · have f4 : decide ((i : Int) = 0) = true := decide_eq_true h4
              refine l_v (by first | exact (r_move (v := bV _) rfl) | exact (r_move rfl)) ?_
              refine l_vg (by first | exact (r_move (v := iV _) rfl) | exact (r_move rfl)) rfl (f1) ?_
              refine l_vg (r_eqli rfl rfl) rfl (f1) ?_
              refine l_vg (by first | exact (r_move (v := bV _) rfl) | exact (r_move rfl)) rfl (f1) ?_
              refine l_vg (by first | exact (r_move (v := iV _) rfl) | exact (r_move rfl)) rfl (f3) ?_
              refine l_vg (r_eqli rfl rfl) rfl (f3) ?_
              refine l_vg (r_pick_t rfl f3 rfl) rfl (f1) ?_
              refine l_v (r_pick_f rfl f1 rfl) ?_
              refine l_v (by first | exact (r_move (v := bV _) rfl) | exact (r_move rfl)) ?_
              refine l_no rfl (f4) ?_
              refine l_no rfl (f4) ?_
              refine l_v (r_pick_t rfl f4 rfl) ?_
              refine l_nil (nrm_then ?_)
              refine And.intro (by refine ⟨?_, ?_, ?_, ?_, ?_, ?_, ?_, trivial⟩ <;> ((conv => lhs; whnf); (try conv => rhs; whnf))) ?_
              exact ⟨rfl, congrArg Value.bool ((decide_eq_true (show 192 ≤ c.toNat ∨ 144115188075855871 < x ∨ (i = 0 ∧ c.toNat = 0) by omega)).trans rfl).symm⟩
            · have f4 : decide ((i : Int) = 0) = false := decide_eq_false h4
              refine l_v (by first | exact (r_move (v := bV _) rfl) | exact (r_move rfl)) ?_
              refine l_vg (by first | exact (r_move (v := iV _) rfl) | exact (r_move rfl)) rfl (f1) ?_
              refine l_vg (r_eqli rfl rfl) rfl (f1) ?_
              refine l_vg (by first | exact (r_move (v := bV _) rfl) | exact (r_move rfl)) rfl (f1) ?_
              refine l_vg (by first | exact (r_move (v := iV _) rfl) | exact (r_move rfl)) rfl (f3) ?_
              refine l_vg (r_eqli rfl rfl) rfl (f3) ?_
              refine l_vg (r_pick_t rfl f3 rfl) rfl (f1) ?_
              refine l_v (r_pick_f rfl f1 rfl) ?_
              refine l_v (by first | exact (r_move (v := bV _) rfl) | exact (r_move rfl)) ?_
              refine l_vg (by first | exact (r_move (v := u64V _) rfl) | exact (r_move rfl)) rfl (f4) ?_
              refine l_vg (r_gtr64 (b := 144115188075855871) rfl rfl) rfl (f4) ?_
              refine l_v (r_pick_f rfl f4 rfl) ?_
              refine l_nil (nrm_then ?_)
              refine And.intro (by refine ⟨?_, ?_, ?_, ?_, ?_, ?_, ?_, trivial⟩ <;> ((conv => lhs; whnf); (try conv => rhs; whnf))) ?_
              refine ⟨rfl, congrArg Value.bool (decide_eq_decide.2 ?_)⟩
              rw [hxn]
              constructor
              · intro h; exact .inr (.inl h)
              · intro h; rcases h with h | h | h
                · omega
                · exact h
                · omega
          · have f3 : decide ((c.toNat : Int) = 0) = false := decide_eq_false h3
            refine l_v (by first | exact (r_move (v := bV _) rfl) | exact (r_move rfl)) ?_
            refine l_vg (by first | exact (r_move (v := iV _) rfl) | exact (r_move rfl)) rfl (f1) ?_
            refine l_vg (r_eqli rfl rfl) rfl (f1) ?_
            refine l_vg (by first | exact (r_move (v := bV _) rfl) | exact (r_move rfl)) rfl (f1) ?_
            refine l_no rfl (f3) ?_
            refine l_no rfl (f3) ?_
            refine l_vg (r_pick_f rfl f3 rfl) rfl (f1) ?_
            refine l_v (r_pick_f rfl f1 rfl) ?_
            refine l_v (by first | exact (r_move (v := bV _) rfl) | exact (r_move rfl)) ?_
            refine l_vg (by first | exact (r_move (v := u64V _) rfl) | exact (r_move rfl)) rfl (rfl) ?_
            refine l_vg (r_gtr64 (b := 144115188075855871) rfl rfl) rfl (rfl) ?_
            refine l_v (r_pick_f rfl rfl rfl) ?_
            refine l_nil (nrm_then ?_)
            refine And.intro (by refine ⟨?_, ?_, ?_, ?_, ?_, ?_, ?_, trivial⟩ <;> ((conv => lhs; whnf); (try conv => rhs; whnf))) ?_
            refine ⟨rfl, congrArg Value.bool (decide_eq_decide.2 ?_)⟩
            rw [hxn]
            constructor
            · intro h; exact .inr (.inl h)
            · intro h; rcases h with h | h | h
              · omega
              · exact h
              · omega
      · rintro g w_ ⟨hw, h31⟩
        show OkC _ _ _ _ _ _
        subst w_
        refine OkC.env ?_ (fixH (L := [(31, _)]) ⟨h31, trivial⟩)
        clear h31
        unfold bad at *
        refine c_cond rfl (fun h9 => ?_) (fun h9 => ?_)
        · replace h9 := of_decide_eq_true h9
          refine c_rseq ?_
          refine l_v (by first | exact (r_assign (v := iV _) rfl) | exact (r_assign rfl)) ?_
          refine l_v (by first | exact (r_assign (v := iV _) rfl) | exact (r_assign rfl)) ?_
          refine l_v (by first | exact (r_assign (v := iV _) rfl) | exact (r_assign rfl)) ?_
          refine l_nil (nrm_then ?_)
          refine c_ret (ret_then (ret_block (ret_then (ret_then (ret_block (ret_then ?_))))))
          show Fin _ _ _ _ _
          refine fin3 rfl ?_
          have e : num 0 0 (toL s) = ⟨3, 0, false, 0⟩ := by rw [hn, num, if_pos h9]
          rw [← how, e]
          exact ⟨rfl, rfl⟩
        · replace h9 := of_decide_eq_false h9
          refine c_skip (nrm_then ?_)
          refine c_rseq ?_
          refine l_v (by first | exact (r_move (v := u64V _) rfl) | exact (r_move rfl)) ?_
          refine l_v (r_mul64 (a := 64) rfl rfl) ?_
          refine l_v (by first | exact (r_move (v := iV _) rfl) | exact (r_move rfl)) ?_
          refine l_v (r_remz rfl rfl (by decide)) ?_
          rw [tmod64]
          refine l_v (r_cv_i64 Tryd.underlying3 Tryd.underlying70 rfl) ?_
          refine l_v (r_add64 rfl rfl) ?_
          refine l_v (by first | exact (r_assign (v := u64V _) rfl) | exact (r_assign rfl)) ?_
          refine l_nil (nrm_then ?_)
          refine c_seq ?_
          refine c_rseq ?_
          refine l_v (by first | exact (r_move (v := iV _) rfl) | exact (r_move rfl)) ?_
          refine l_v (r_geqi rfl rfl) ?_
          refine l_nil (nrm_then ?_)
          rw [mul64']
          have hv := ofNat64 (64 * x + c.toNat % 64) (by omega)
          refine c_cond rfl (fun h10 => ?_) (fun h10 => ?_)
          · have h10' : 128 ≤ c.toNat := by have := of_decide_eq_true h10; omega
            replace h10 := of_decide_eq_true h10
            refine c_rseq ?_
            refine l_v (by first | exact (r_move (v := u64V _) rfl) | exact (r_move rfl)) ?_
            refine l_v (r_cv_64i' Tryd.underlying70 Tryd.underlying3 rfl (by rw [hv]; omega)) ?_
            refine l_v (r_subi rfl rfl (by rw [hv]; omega)) ?_
            refine l_v (by first | exact (r_move (v := iV _) rfl) | exact (r_move rfl)) ?_
            refine l_v (r_addi rfl rfl (by omega)) ?_
            refine l_v (by first | exact (r_assign (v := iV _) rfl) | exact (r_assign rfl)) ?_
            refine l_v (by first | exact (r_assign (v := iV _) rfl) | exact (r_assign rfl)) ?_
            refine l_v (by first | exact (r_assign (v := iV _) rfl) | exact (r_assign rfl)) ?_
            refine l_nil (nrm_then ?_)
            refine c_ret (ret_then (ret_block (ret_then (ret_then (ret_block (ret_then ?_))))))
            show Fin _ _ _ _ _
            refine fin3 rfl ?_
            have e : num 0 0 (toL s) = ⟨0, 64 * x + c.toNat % 64, true, i + 1⟩ := by
              rw [hn, num, if_neg h9, if_pos (by omega : 64 ≤ c.toNat), decide_eq_true (by omega : 127 < c.toNat)]
            rw [← how, e, hv]
            exact ⟨rfl, rfl⟩
          · replace h10 := of_decide_eq_false h10
            refine c_skip (nrm_then ?_)
            refine c_rseq ?_
            refine l_v (by first | exact (r_move (v := iV _) rfl) | exact (r_move rfl)) ?_
            refine l_v (r_geqi rfl rfl) ?_
            refine l_nil (nrm_then ?_)
            refine c_cond rfl (fun h11 => ?_) (fun h11 => ?_)
            · have h11' : 64 ≤ c.toNat := by have := of_decide_eq_true h11; omega
              replace h11 := of_decide_eq_true h11
              refine c_rseq ?_
              refine l_v (by first | exact (r_move (v := u64V _) rfl) | exact (r_move rfl)) ?_
              refine l_v (r_cv_64i' Tryd.underlying70 Tryd.underlying3 rfl (by rw [hv]; omega)) ?_
              refine l_v (by first | exact (r_move (v := iV _) rfl) | exact (r_move rfl)) ?_
              refine l_v (r_addi rfl rfl (by omega)) ?_
              refine l_v (by first | exact (r_assign (v := iV _) rfl) | exact (r_assign rfl)) ?_
              refine l_v (by first | exact (r_assign (v := iV _) rfl) | exact (r_assign rfl)) ?_
              refine l_v (by first | exact (r_assign (v := iV _) rfl) | exact (r_assign rfl)) ?_
              refine l_nil (nrm_then ?_)
              refine c_ret (ret_block (ret_then (ret_then (ret_block (ret_then ?_)))))
              show Fin _ _ _ _ _
              refine fin3 rfl ?_
              have e : num 0 0 (toL s) = ⟨0, 64 * x + c.toNat % 64, false, i + 1⟩ := by
                rw [hn, num, if_neg h9, if_pos (by omega : 64 ≤ c.toNat), decide_eq_false (by omega : ¬ 127 < c.toNat)]
              rw [← how, e, hv]
              exact ⟨rfl, rfl⟩
            · replace h11 := of_decide_eq_false h11
              refine c_skip (nrm_block (nrm_then ?_))
              refine c_region ?_
              refine l_v (by first | exact (r_move (v := iV _) rfl) | exact (r_move rfl)) ?_
              refine l_v (r_addi rfl rfl (by omega)) ?_
              refine l_v (by first | exact (r_assign (v := iV _) rfl) | exact (r_assign rfl)) ?_
              refine l_nil (nrm_then ?_)
              refine And.intro (by refine ⟨?_, trivial⟩ <;> ((conv => lhs; whnf); (try conv => rhs; whnf))) ?_
              refine ⟨s.size - (i + 1), by omega, rfl, i + 1, 64 * x + c.toNat % 64, by omega, rfl, rfl, by omega, ?_⟩
              rw [hn, num, if_neg h9, if_neg (by omega : ¬ 64 ≤ c.toNat)]
    · replace h := of_decide_eq_false h
      refine c_exit (ex_then (ex_then (ex_hit (nrm_then ?_))))
      refine c_rseq ?_
      refine l_v (by first | exact (r_assign (v := iV _) rfl) | exact (r_assign rfl)) ?_
      refine l_v (by first | exact (r_assign (v := iV _) rfl) | exact (r_assign rfl)) ?_
      refine l_v (by first | exact (r_assign (v := iV _) rfl) | exact (r_assign rfl)) ?_
      refine l_nil (nrm_then ?_)
      obtain rfl : i = s.size := by omega
      rw [List.drop_of_length_le (by rw [toL_size]; exact Nat.le_refl _)] at hn
      refine c_ret ?_
      show Fin _ _ _ _ _
      refine fin3 rfl ?_
      have e : num 0 0 (toL s) = ⟨2, 0, false, 0⟩ := by rw [hn]; rfl
      rw [← how, e]
      exact ⟨rfl, rfl⟩
theorem count_whole (l : List UInt8) : count l = if (whole l).2.2 = 0 then (if (whole l).1 < 0 then (0, 0, 3) else whole l) else whole l := by
  unfold count whole
  by_cases h : (num 0 0 l).e = 0
  · simp only [h, if_true]
    cases hb : (num 0 0 l).below
    · simp only [Bool.false_eq_true, if_false]
      rw [if_neg (by omega)]
    · simp only [if_true]
      rw [if_pos (by omega)]
  · simp only [h, if_false]
set_option maxHeartbeats 1000000 in
theorem readcount_c (s : ByteArray) (hz : s.size ≤ 9223372036854775807) (w : World) :
    Calls Tryd.prog 31 #[sV s] w fun e w' => e = .returned (.tuple #[iV (count (toL s)).1, iV ((count (toL s)).2.1 : Int), iV (count (toL s)).2.2]) ∧ w' = w := by
  rw [count_whole]
  refine enter (P := Tryd.prog) Tryd.func31 rfl rfl ?_
  refine c_rseq ?_
  refine l_v (by first | exact (r_assign (v := iV _) rfl) | exact (r_assign rfl)) ?_
  refine l_v (by first | exact (r_assign (v := iV _) rfl) | exact (r_assign rfl)) ?_
  refine l_v (by first | exact (r_assign (v := iV _) rfl) | exact (r_assign rfl)) ?_
  refine l_nil (nrm_then ?_)
  refine c_rseq ?_
  refine l_v (by first | exact (r_move (v := sV _) rfl) | exact (r_move rfl)) ?_
  refine l_call (r_call Tryd.func43 rfl rfl) ?_
  refine Calls.mono (readwhole_c s hz _) ?_
  rintro e w_ ⟨rfl, rfl⟩
  refine ⟨_, rfl, ?_⟩
  generalize whole (toL s) = W at *
  refine l_v (r_move rfl) ?_
  refine l_v (r_extract rfl rfl) ?_
  refine l_v (r_extract rfl rfl) ?_
  refine l_v (r_extract rfl rfl) ?_
  refine l_v (by first | exact (r_assign (v := iV _) rfl) | exact (r_assign rfl)) ?_
  refine l_v (by first | exact (r_assign (v := iV _) rfl) | exact (r_assign rfl)) ?_
  refine l_v (by first | exact (r_assign (v := iV _) rfl) | exact (r_assign rfl)) ?_
  refine l_nil (nrm_then ?_)
  refine c_seq ?_
  refine c_rseq ?_
  refine l_v (by first | exact (r_move (v := iV _) rfl) | exact (r_move rfl)) ?_
  refine l_v (r_eqli rfl rfl) ?_
  by_cases h0 : W.2.2 = 0
  · have f0 : decide (W.2.2 = 0) = true := decide_eq_true h0
    rw [if_pos h0]
    refine l_v (by first | exact (r_move (v := bV _) rfl) | exact (r_move rfl)) ?_
    refine l_vg (by first | exact (r_move (v := iV _) rfl) | exact (r_move rfl)) rfl (f0) ?_
    refine l_vg (r_lssi rfl rfl) rfl (f0) ?_
    refine l_v (r_pick_t rfl f0 rfl) ?_
    refine l_nil (nrm_then ?_)
    refine c_cond rfl (fun h1 => ?_) (fun h1 => ?_)
    · replace h1 := of_decide_eq_true h1
      refine c_rseq ?_
      refine l_v (by first | exact (r_assign (v := iV _) rfl) | exact (r_assign rfl)) ?_
      refine l_v (by first | exact (r_assign (v := iV _) rfl) | exact (r_assign rfl)) ?_
      refine l_v (by first | exact (r_assign (v := iV _) rfl) | exact (r_assign rfl)) ?_
      refine l_nil (nrm_then ?_)
      refine c_ret (ret_then ?_)
      show Fin _ _ _ _ _
      refine fin3 rfl ?_
      rw [if_pos h1]
      exact ⟨rfl, rfl⟩
    · replace h1 := of_decide_eq_false h1
      refine c_skip (nrm_then ?_)
      refine c_rseq ?_
      refine l_v (by first | exact (r_move (v := iV _) rfl) | exact (r_move rfl)) ?_
      refine l_v (by first | exact (r_move (v := iV _) rfl) | exact (r_move rfl)) ?_
      refine l_v (by first | exact (r_move (v := iV _) rfl) | exact (r_move rfl)) ?_
      refine l_v (by first | exact (r_assign (v := iV _) rfl) | exact (r_assign rfl)) ?_
      refine l_v (by first | exact (r_assign (v := iV _) rfl) | exact (r_assign rfl)) ?_
      refine l_v (by first | exact (r_assign (v := iV _) rfl) | exact (r_assign rfl)) ?_
      refine l_nil (nrm_then ?_)
      refine c_ret ?_
      show Fin _ _ _ _ _
      refine fin3 rfl ?_
      rw [if_neg h1]
      exact ⟨rfl, rfl⟩
  · have f0 : decide (W.2.2 = 0) = false := decide_eq_false h0
    rw [if_neg h0]
    refine l_v (by first | exact (r_move (v := bV _) rfl) | exact (r_move rfl)) ?_
    refine l_no rfl (f0) ?_
    refine l_no rfl (f0) ?_
    refine l_v (r_pick_f rfl f0 rfl) ?_
    refine l_nil (nrm_then ?_)
    refine c_false rfl (rfl) ?_
    refine c_skip (nrm_then ?_)
    refine c_rseq ?_
    refine l_v (by first | exact (r_move (v := iV _) rfl) | exact (r_move rfl)) ?_
    refine l_v (by first | exact (r_move (v := iV _) rfl) | exact (r_move rfl)) ?_
    refine l_v (by first | exact (r_move (v := iV _) rfl) | exact (r_move rfl)) ?_
    refine l_v (by first | exact (r_assign (v := iV _) rfl) | exact (r_assign rfl)) ?_
    refine l_v (by first | exact (r_assign (v := iV _) rfl) | exact (r_assign rfl)) ?_
    refine l_v (by first | exact (r_assign (v := iV _) rfl) | exact (r_assign rfl)) ?_
    refine l_nil (nrm_then ?_)
    refine c_ret ?_
    show Fin _ _ _ _ _
    refine fin3 rfl ?_
    exact ⟨rfl, rfl⟩
theorem readraw_c (n : Int) (s : ByteArray) (w : World) :
    Calls Tryd.prog 44 #[sV s, iV n] w fun e w' => e = .returned (.tuple #[sV (ofL (raw (toL s) n).1), iV ((raw (toL s) n).2.1 : Int), iV (raw (toL s) n).2.2]) ∧ w' = w := by
  have hl := toL_size s
  unfold raw
  refine enter (P := Tryd.prog) Tryd.func44 rfl rfl ?_
  refine c_rseq ?_
  refine l_v (by first | exact (r_assign (v := sV _) rfl) | exact (r_assign rfl)) ?_
  refine l_v (by first | exact (r_assign (v := iV _) rfl) | exact (r_assign rfl)) ?_
  refine l_v (by first | exact (r_assign (v := iV _) rfl) | exact (r_assign rfl)) ?_
  refine l_nil (nrm_then ?_)
  refine c_seq ?_
  refine c_rseq ?_
  refine l_v (by first | exact (r_move (v := iV _) rfl) | exact (r_move rfl)) ?_
  refine l_v (r_lssi rfl rfl) ?_
  refine l_nil (nrm_then ?_)
  refine c_cond rfl (fun h => ?_) (fun h => ?_)
  · replace h := of_decide_eq_true h
    refine c_rseq ?_
    refine l_v (by first | exact (r_assign (v := sV _) rfl) | exact (r_assign rfl)) ?_
    refine l_v (by first | exact (r_assign (v := iV _) rfl) | exact (r_assign rfl)) ?_
    refine l_v (by first | exact (r_assign (v := iV _) rfl) | exact (r_assign rfl)) ?_
    refine l_nil (nrm_then ?_)
    refine c_ret (ret_then ?_)
    show Fin _ _ _ _ _
    refine fin3 rfl ?_
    rw [if_pos h]
    exact ⟨rfl, rfl⟩
  · replace h := of_decide_eq_false h
    refine c_skip (nrm_then ?_)
    refine c_seq ?_
    refine c_rseq ?_
    refine l_v (by first | exact (r_move (v := iV _) rfl) | exact (r_move rfl)) ?_
    refine l_v (by first | exact (r_move (v := sV _) rfl) | exact (r_move rfl)) ?_
    refine l_v (r_len_s Tryd.underlying9 rfl) ?_
    refine l_v (r_gtri rfl rfl) ?_
    refine l_nil (nrm_then ?_)
    rw [if_neg h]
    refine c_cond rfl (fun h2 => ?_) (fun h2 => ?_)
    · replace h2 := of_decide_eq_true h2
      refine c_rseq ?_
      refine l_v (by first | exact (r_assign (v := sV _) rfl) | exact (r_assign rfl)) ?_
      refine l_v (by first | exact (r_assign (v := iV _) rfl) | exact (r_assign rfl)) ?_
      refine l_v (by first | exact (r_assign (v := iV _) rfl) | exact (r_assign rfl)) ?_
      refine l_nil (nrm_then ?_)
      refine c_ret (ret_then ?_)
      show Fin _ _ _ _ _
      refine fin3 rfl ?_
      rw [if_pos (by omega)]
      exact ⟨rfl, rfl⟩
    · have h2' : n ≤ (s.size : Int) := by have := of_decide_eq_false h2; omega
      replace h2 := of_decide_eq_false h2
      refine c_skip (nrm_then ?_)
      refine c_rseq ?_
      refine l_v (by first | exact (r_move (v := sV _) rfl) | exact (r_move rfl)) ?_
      refine l_v (by first | exact (r_move (v := iV _) rfl) | exact (r_move rfl)) ?_
      refine l_v (r_slice_sh n Tryd.underlying9 rfl rfl (by omega)) ?_
      refine l_v (by first | exact (r_move (v := iV _) rfl) | exact (r_move rfl)) ?_
      refine l_v (by first | exact (r_assign (v := sV _) rfl) | exact (r_assign rfl)) ?_
      refine l_v (by first | exact (r_assign (v := iV _) rfl) | exact (r_assign rfl)) ?_
      refine l_v (by first | exact (r_assign (v := iV _) rfl) | exact (r_assign rfl)) ?_
      refine l_nil (nrm_then ?_)
      refine c_ret ?_
      show Fin _ _ _ _ _
      refine fin3 rfl ?_
      rw [if_neg (by omega), extract_pre]
      have e : ((n.toNat : Nat) : Int) = n := by omega
      dsimp only
      rw [e]
      exact ⟨rfl, rfl⟩
set_option maxHeartbeats 1000000 in
theorem readtext_c (s : ByteArray) (hz : s.size ≤ 9223372036854775807) (w : World) :
    Calls Tryd.prog 32 #[sV s] w fun e w' => e = .returned (.tuple #[sV (ofL (text (toL s)).1), iV ((text (toL s)).2.1 : Int), iV (text (toL s)).2.2]) ∧ w' = w := by
  have hcs := count_size (toL s)
  have hl := toL_size s
  have hrs := raw_size ((toL s).drop (count (toL s)).2.1) (count (toL s)).1
  rw [List.length_drop] at hrs
  unfold text
  refine enter (P := Tryd.prog) Tryd.func32 rfl rfl ?_
  refine c_rseq ?_
  refine l_v (by first | exact (r_assign (v := sV _) rfl) | exact (r_assign rfl)) ?_
  refine l_v (by first | exact (r_assign (v := iV _) rfl) | exact (r_assign rfl)) ?_
  refine l_v (by first | exact (r_assign (v := iV _) rfl) | exact (r_assign rfl)) ?_
  refine l_nil (nrm_then ?_)
  refine c_rseq ?_
  refine l_v (by first | exact (r_move (v := sV _) rfl) | exact (r_move rfl)) ?_
  refine l_call (r_call Tryd.func31 rfl rfl) ?_
  refine Calls.mono (readcount_c s hz _) ?_
  rintro e w_ ⟨rfl, rfl⟩
  refine ⟨_, rfl, ?_⟩
  refine l_v (r_move rfl) ?_
  refine l_v (r_extract rfl rfl) ?_
  refine l_v (r_extract rfl rfl) ?_
  refine l_v (r_extract rfl rfl) ?_
  refine l_v (by first | exact (r_assign (v := iV _) rfl) | exact (r_assign rfl)) ?_
  refine l_v (by first | exact (r_assign (v := iV _) rfl) | exact (r_assign rfl)) ?_
  refine l_v (by first | exact (r_assign (v := iV _) rfl) | exact (r_assign rfl)) ?_
  refine l_nil (nrm_then ?_)
  refine c_seq ?_
  refine c_rseq ?_
  refine l_v (by first | exact (r_move (v := iV _) rfl) | exact (r_move rfl)) ?_
  refine l_v (r_neqi rfl rfl) ?_
  refine l_nil (nrm_then ?_)
  refine c_cond rfl (fun h => ?_) (fun h => ?_)
  · replace h := of_decide_eq_true h
    refine c_rseq ?_
    refine l_v (by first | exact (r_move (v := iV _) rfl) | exact (r_move rfl)) ?_
    refine l_v (by first | exact (r_assign (v := sV _) rfl) | exact (r_assign rfl)) ?_
    refine l_v (by first | exact (r_assign (v := iV _) rfl) | exact (r_assign rfl)) ?_
    refine l_v (by first | exact (r_assign (v := iV _) rfl) | exact (r_assign rfl)) ?_
    refine l_nil (nrm_then ?_)
    refine c_ret (ret_then ?_)
    show Fin _ _ _ _ _
    refine fin3 rfl ?_
    rw [if_neg h]
    exact ⟨rfl, rfl⟩
  · replace h := of_decide_eq_false h
    refine c_skip (nrm_then ?_)
    refine c_rseq ?_
    refine l_v (by first | exact (r_move (v := sV _) rfl) | exact (r_move rfl)) ?_
    refine l_v (by first | exact (r_move (v := iV _) rfl) | exact (r_move rfl)) ?_
    refine l_v (r_slice_sl ((count (toL s)).2.1 : Int) Tryd.underlying9 rfl rfl (by omega)) ?_
    refine l_v (by first | exact (r_move (v := iV _) rfl) | exact (r_move rfl)) ?_
    rw [if_pos (Classical.not_not.1 h), Int.toNat_natCast, extract_cut]
    refine l_call (r_call Tryd.func44 rfl rfl) ?_
    refine Calls.mono (readraw_c (count (toL s)).1 (cut s (count (toL s)).2.1) _) ?_
    rintro e w_ ⟨rfl, rfl⟩
    refine ⟨_, rfl, ?_⟩
    rw [toL_cut]
    refine l_v (r_move rfl) ?_
    refine l_v (r_extract rfl rfl) ?_
    refine l_v (r_extract rfl rfl) ?_
    refine l_v (r_extract rfl rfl) ?_
    refine l_v (by first | exact (r_assign (v := sV _) rfl) | exact (r_assign rfl)) ?_
    refine l_v (by first | exact (r_assign (v := iV _) rfl) | exact (r_assign rfl)) ?_
    refine l_v (by first | exact (r_assign (v := iV _) rfl) | exact (r_assign rfl)) ?_
    refine l_nil (nrm_then ?_)
    refine c_seq ?_
    refine c_rseq ?_
    refine l_v (by first | exact (r_move (v := iV _) rfl) | exact (r_move rfl)) ?_
    refine l_v (r_neqi rfl rfl) ?_
    refine l_nil (nrm_then ?_)
    refine c_cond rfl (fun h3 => ?_) (fun h3 => ?_)
    · replace h3 := of_decide_eq_true h3
      refine c_rseq ?_
      refine l_v (by first | exact (r_move (v := iV _) rfl) | exact (r_move rfl)) ?_
      refine l_v (by first | exact (r_assign (v := sV _) rfl) | exact (r_assign rfl)) ?_
      refine l_v (by first | exact (r_assign (v := iV _) rfl) | exact (r_assign rfl)) ?_
      refine l_v (by first | exact (r_assign (v := iV _) rfl) | exact (r_assign rfl)) ?_
      refine l_nil (nrm_then ?_)
      refine c_ret (ret_then ?_)
      show Fin _ _ _ _ _
      refine fin3 rfl ?_
      rw [if_neg h3]
      exact ⟨rfl, rfl⟩
    · replace h3 := of_decide_eq_false h3
      refine c_skip (nrm_then ?_)
      refine c_rseq ?_
      refine l_v (by first | exact (r_move (v := sV _) rfl) | exact (r_move rfl)) ?_
      refine l_v (by first | exact (r_move (v := iV _) rfl) | exact (r_move rfl)) ?_
      refine l_v (by first | exact (r_move (v := iV _) rfl) | exact (r_move rfl)) ?_
      refine l_v (r_addi rfl rfl (by omega)) ?_
      refine l_v (by first | exact (r_assign (v := sV _) rfl) | exact (r_assign rfl)) ?_
      refine l_v (by first | exact (r_assign (v := iV _) rfl) | exact (r_assign rfl)) ?_
      refine l_v (by first | exact (r_assign (v := iV _) rfl) | exact (r_assign rfl)) ?_
      refine l_nil (nrm_then ?_)
      refine c_ret ?_
      show Fin _ _ _ _ _
      refine fin3 rfl ?_
      rw [if_pos (Classical.not_not.1 h3)]
      exact ⟨by rfl, rfl⟩
end Go.Proofs.YtbimboibllboeaaDoor.Six
