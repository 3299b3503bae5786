/- The walks of Frame and Split. -/
import Derived.Test.YtlkljeghhahedaaWalFn
import Derived.Test.YtlkljeghhahedaaSixRm
import Derived.Test.YtlkljeghhahedaaSixWr
import Derived.Test.YtlkljeghhahedaaSixSame
import Derived.Test.YtlkljeghhahedaaCrcBase
namespace Go.Proofs.Ytlkljeghhahedaa.Wal
open Go Go.RowKit Go.Proofs.Ytlkljeghhahedaa.Eng Go.Proofs.Ytlkljeghhahedaa.Six Go.Proofs.Ytlkljeghhahedaa.CrcFn Go.Proofs.Ytlkljeghhahedaa.Crc
set_option linter.unusedVariables false
set_option maxRecDepth 100000
theorem splitA_no {j k : Nat} {ts : List (List UInt8)} {l : List UInt8} (hj : 0 < j) (h : wstep l = none) : splitA j ts k l = (ts, k) := by
  cases j with
  | zero => omega
  | succ j => rw [splitA, h]
theorem splitA_yes {j k n : Nat} {ts : List (List UInt8)} {l t : List UInt8} (hj : 0 < j) (h : wstep l = some (t, n)) : splitA j ts k l = splitA (j - 1) (ts ++ [t]) (k + n) (l.drop n) := by
  cases j with
  | zero => omega
  | succ j => rw [splitA, h]; rfl
theorem text_fail {l : List UInt8} (h : ¬ (text l).2.2 = 0) : (text l).2.1 = 0 := by
  unfold text at *
  split
  · rename_i h0
    rw [if_pos h0] at h
    split
    · rename_i h1; rw [if_pos h1] at h; exact absurd rfl h
    · rfl
  · rfl
set_option maxHeartbeats 2000000 in
theorem frame_c (s : ByteArray) (hz : s.size ≤ 140737488355000) (w : World) :
    Calls Try.prog 11 #[sV s] w fun e w' => e = .returned (sV (ofL (frame (toL s)))) ∧ Below w.heap.size w w' := by
  have hl := toL_size s
  have hel := enc_len 64 (toL s).length (by omega)
  have hpz : (ofL (encT (toL s))).size ≤ 9223372036854775800 := by
    show (encT (toL s)).length ≤ _
    unfold encT; rw [List.length_append]; omega
  refine enter (P := Try.prog) Try.func11 rfl rfl ?_
  have hs := Sep.init w
  refine c_rseq ?_
  refine l_v (by first | exact (r_assign (v := sV _) rfl) | exact (r_assign rfl)) ?_
  refine l_nil (nrm_then ?_)
  refine c_rseq ?_
  refine l_call (r_call Try.func33 rfl rfl) ?_
  refine Calls.mono (new_c w _ _ hs) ?_
  rintro e w_ ⟨b3, rfl, hs⟩
  refine ⟨_, rfl, ?_⟩
  refine l_v (r_assign (v := .pointer _) rfl) ?_
  refine l_nil (nrm_then ?_)
  refine c_rseq ?_
  refine l_v (r_move (v := .pointer _) rfl) ?_
  refine l_v (by first | exact (r_move (v := sV _) rfl) | exact (r_move rfl)) ?_
  refine l_call (r_call Try.func34 rfl rfl) ?_
  refine Calls.mono (wtext_c s [] (by show 0 + 11 + s.size ≤ _; omega) b3 w _ _ hs) ?_
  rintro e w_ ⟨rfl, hs⟩
  refine ⟨_, rfl, ?_⟩
  rw [List.nil_append] at hs
  refine l_nil (nrm_then ?_)
  refine c_rseq ?_
  refine l_v (r_move (v := .pointer _) rfl) ?_
  refine l_call (r_call Try.func36 rfl rfl) ?_
  refine Calls.mono (bytes_c _ b3 w _ _ hs) ?_
  rintro e w_ ⟨rfl, rfl⟩
  refine ⟨_, rfl, ?_⟩
  refine l_call (r_call Try.func35 rfl rfl) ?_
  refine Calls.mono (put_c (ofL (encT (toL s))) _ hpz) ?_
  rintro e w_ ⟨rfl, hb2⟩
  refine ⟨_, rfl, ?_⟩
  have hs := hs.below_ hb2
  refine l_v (by first | exact (r_assign (v := sV _) rfl) | exact (r_assign rfl)) ?_
  refine l_nil (nrm_then ?_)
  refine c_ret ?_
  show Fin _ _ _ _ _
  refine fin1 rfl ?_
  exact ⟨rfl, hs.below⟩
set_option maxHeartbeats 4000000 in
theorem split_c (s : ByteArray) (hz : s.size ≤ 16777216) (w0 w : World) (R : List HP) (hs : Sep w0 w R) :
    Calls Try.prog 12 #[sV s] w fun e w' => ∃ v, e = .returned (.tuple #[v, iV ((splitA (s.size + 1) [] 0 (toL s)).2 : Int)]) ∧ Sep w0 w' (rowS v (splitA (s.size + 1) [] 0 (toL s)).1 :: R) := by
  have hl := toL_size s
  refine enter (P := Try.prog) Try.func12 rfl rfl ?_
  refine c_rseq ?_
  refine l_v (by first | exact (r_assign (v := .slice _ _ _) rfl) | exact (r_assign rfl)) ?_
  refine l_v (by first | exact (r_assign (v := iV _) rfl) | exact (r_assign rfl)) ?_
  refine l_nil (nrm_then ?_)
  refine c_rseq ?_
  refine l_v (by first | exact (r_assign (v := .slice _ _ _) rfl) | exact (r_assign rfl)) ?_
  refine l_nil (nrm_then ?_)
  refine c_rseq ?_
  refine l_v (by first | exact (r_move (v := sV _) rfl) | exact (r_move rfl)) ?_
  refine l_call (r_call Try.func37 rfl rfl) ?_
  refine Calls.mono (over_c s w0 _ _ hs) ?_
  rintro e w_ ⟨b5, rfl, hs⟩
  refine ⟨_, rfl, ?_⟩
  refine l_v (r_assign (v := .pointer _) rfl) ?_
  refine l_nil (nrm_then ?_)
  refine c_block ?_
  have hs := hs.rowNil 9 1
  refine c_loopn [0, 5] (fun m f' w' => ∃ (v : Value) (ts : List (List UInt8)) (k j : Nat), f' 4 = v ∧ Sep w0 w' (rowS v ts :: rdr b5 (cut s k) :: R) ∧ k ≤ s.size ∧ ts.length ≤ k ∧ m = s.size - k ∧ m < j ∧ splitA (s.size + 1) [] 0 (toL s) = splitA j ts k ((toL s).drop k)) ?_ ?_
  · exact ⟨s.size, .slice none 0 0, [], 0, s.size + 1, rfl, hs, by omega, by simp, by omega, by omega, rfl⟩
  · rintro m g w_ ⟨v, ts, k, j, h4, hs, hk, htk, hm, hj, hsp⟩
    have hcut := cut_size s k
    have hcl : (toL (cut s k)) = (toL s).drop k := rfl
    have hcz : (cut s k).size = s.size - k := by show ((toL s).drop k).length = _; rw [List.length_drop, hl]
    have htx := text_size ((toL s).drop k)
    have htf := @text_fail ((toL s).drop k)
    rw [List.length_drop] at htx
    refine OkC.env ?_ (fixH (L := [(4, _)]) ⟨h4, trivial⟩)
    clear h4
    refine c_block ?_
    refine c_rseq ?_
    refine l_v (r_move (v := .pointer _) rfl) ?_
    refine l_call (r_call Try.func38 rfl rfl) ?_
    refine Calls.mono (rest_c (cut s k) b5 w0 _ _ (hs.pull 1)) ?_
    rintro e w_ ⟨rfl, rfl⟩
    refine ⟨_, rfl, ?_⟩
    refine l_v (by first | exact (r_assign (v := sV _) rfl) | exact (r_assign rfl)) ?_
    refine l_nil (nrm_then ?_)
    refine c_rseq ?_
    refine l_v (r_move (v := .pointer _) rfl) ?_
    refine l_call (r_call Try.func39 rfl rfl) ?_
    refine Calls.mono (text_c (cut s k) (by omega) b5 w0 _ _ (hs.pull 1)) ?_
    rintro e w_ ⟨rfl, hs⟩
    refine ⟨_, rfl, ?_⟩
    rw [hcl] at *
    have hcc : cut (cut s k) (text ((toL s).drop k)).2.1 = cut s (k + (text ((toL s).drop k)).2.1) := by unfold cut; rw [Eng.toL_ofL, List.drop_drop]
    rw [hcc] at hs
    have hws : wstep ((toL s).drop k) = if (text ((toL s).drop k)).2.2 = 0 ∧ (raw (((toL s).drop k).drop (text ((toL s).drop k)).2.1) 4).2.2 = 0 ∧ (text ((toL s).drop k)).1.length ≤ 1048576 ∧ frame (text ((toL s).drop k)).1 = ((toL s).drop k).take ((text ((toL s).drop k)).2.1 + 4) then some ((text ((toL s).drop k)).1, (text ((toL s).drop k)).2.1 + 4) else none := rfl
    generalize text ((toL s).drop k) = T at *
    refine l_v (r_move rfl) ?_
    refine l_v (r_extract rfl rfl) ?_
    refine l_v (r_extract rfl rfl) ?_
    refine l_v (by first | exact (r_assign (v := sV _) rfl) | exact (r_assign rfl)) ?_
    refine l_v (by first | exact (r_assign (v := iV _) rfl) | exact (r_assign rfl)) ?_
    refine l_nil (nrm_then ?_)
    refine c_seq ?_
    refine c_rseq ?_
    refine l_v (by first | exact (r_move (v := iV _) rfl) | exact (r_move rfl)) ?_
    refine l_v (r_eqli rfl rfl) ?_
    refine l_nil (nrm_then ?_)
    refine c_cond rfl (fun h5 => ?_) (fun h5 => ?_)
    · have h5' : T.2.2 = 0 := of_decide_eq_true h5
      replace h5 := of_decide_eq_true h5
      refine c_region ?_
      refine l_v (r_move (v := .pointer _) rfl) ?_
      refine l_call (r_call Try.func40 rfl rfl) ?_
      refine Calls.mono (raw_c 4 (cut s (k + T.2.1)) b5 w0 _ _ hs) ?_
      rintro e w_ ⟨rfl, hs⟩
      refine ⟨_, rfl, ?_⟩
      have hc2 : toL (cut s (k + T.2.1)) = ((toL s).drop k).drop T.2.1 := by rw [List.drop_drop]; rfl
      rw [hc2] at hs ⊢
      have hr4 := raw4 (((toL s).drop k).drop T.2.1)
      have hr5 : (raw (((toL s).drop k).drop T.2.1) 4).2.2 = 0 → (raw (((toL s).drop k).drop T.2.1) 4).2.1 = 4 := by
        intro h; unfold raw at h ⊢; rw [if_neg (by decide)] at h ⊢
        split
        · rename_i h0; rw [if_pos h0] at h; cases h
        · rfl
      rw [List.length_drop, List.length_drop] at hr4
      have hce : cut (cut s (k + T.2.1)) 4 = cut s (k + T.2.1 + 4) := by unfold cut; rw [Eng.toL_ofL, List.drop_drop]
      generalize raw (((toL s).drop k).drop T.2.1) 4 = Q at *
      refine l_v (r_move rfl) ?_
      refine l_v (r_extract rfl rfl) ?_
      refine l_v (r_extract rfl rfl) ?_
      refine l_v (by first | exact (r_assign (v := iV _) rfl) | exact (r_assign rfl)) ?_
      refine l_nil (nrm_then ?_)
      refine c_seq ?_
      refine c_rseq ?_
      refine l_v (by first | exact (r_move (v := iV _) rfl) | exact (r_move rfl)) ?_
      refine l_v (r_neqi rfl rfl) ?_
      by_cases h6 : Q.2.2 = 0
      · have f26 : decide (Q.2.2 ≠ 0) = false := decide_eq_false (fun h => h h6)
        rw [hr5 h6, hce] at hs
        have hq4 := hr4.1 h6
        have hcz2 : (cut s (k + T.2.1 + 4)).size = s.size - (k + T.2.1 + 4) := by show ((toL s).drop (k + T.2.1 + 4)).length = _; rw [List.length_drop, hl]
        refine l_v (by first | exact (r_move (v := bV _) rfl) | exact (r_move rfl)) ?_
        refine l_vg (by first | exact (r_move (v := sV _) rfl) | exact (r_move rfl)) rfl (f26) ?_
        refine l_vg (r_len_s Try.underlying9 rfl) rfl (f26) ?_
        refine l_vg (r_gtri rfl rfl) rfl (f26) ?_
        refine l_v (r_pick_f rfl f26 rfl) ?_
        by_cases h7 : T.1.length > 1048576
        · have f30 : decide (((T.1.length : Nat) : Int) > 1048576) = true := decide_eq_true (by omega)
          have hno : wstep ((toL s).drop k) = none := by rw [hws, if_neg (fun h => by have := h.2.2.1; omega)]
          refine l_v (by first | exact (r_move (v := bV _) rfl) | exact (r_move rfl)) ?_
          refine l_no rfl (f30) ?_
          refine l_no rfl (f30) ?_
          refine l_no rfl (f30) ?_
          refine l_no rfl (f30) ?_
          refine l_no rfl (f30) ?_
          refine l_no rfl (f30) ?_
          refine l_no rfl (f30) ?_
          refine l_no rfl (f30) ?_
          refine l_no rfl (f30) ?_
          refine l_no rfl (f30) ?_
          refine l_no rfl (f30) ?_
          refine l_v (r_pick_t rfl f30 rfl) ?_
          refine l_nil (nrm_then ?_)
          refine c_true rfl (rfl) ?_
          refine c_rseq ?_
          refine l_v (by first | exact (r_move (v := .slice _ _ _) rfl) | exact (r_move rfl)) ?_
          refine l_v (by first | exact (r_move (v := sV _) rfl) | exact (r_move rfl)) ?_
          refine l_v (r_len_s Try.underlying9 rfl) ?_
          refine l_v (by first | exact (r_move (v := sV _) rfl) | exact (r_move rfl)) ?_
          refine l_v (r_len_s Try.underlying9 rfl) ?_
          refine l_v (r_subi rfl rfl (by omega)) ?_
          refine l_v (by first | exact (r_assign (v := .slice _ _ _) rfl) | exact (r_assign rfl)) ?_
          refine l_v (by first | exact (r_assign (v := iV _) rfl) | exact (r_assign rfl)) ?_
          refine l_nil (nrm_then ?_)
          have hs1 := hs.drop
          refine c_ret (ret_then (ret_block (ret_then (ret_block ?_))))
          show Fin _ _ _ _ _
          refine fin2 rfl ?_
          have e50 : (s.size : Int) - ((cut s k).size : Int) = (k : Int) := by omega
          rw [e50, hsp, splitA_no (by omega) hno]
          exact ⟨v, rfl, hs1⟩
        · have f30 : decide (((T.1.length : Nat) : Int) > 1048576) = false := decide_eq_false (by omega)
          refine l_v (by first | exact (r_move (v := bV _) rfl) | exact (r_move rfl)) ?_
          refine l_vg (by first | exact (r_move (v := sV _) rfl) | exact (r_move rfl)) rfl (f30) ?_
          refine l_callg (r_call Try.func11 rfl rfl) rfl (f30) ?_
          refine Calls.mono (frame_c (ofL T.1) (by show T.1.length ≤ _; omega) _) ?_
          rintro e w_ ⟨rfl, hb⟩
          refine ⟨_, rfl, ?_⟩
          have hs := hs.below_ hb
          refine l_vg (by first | exact (r_move (v := sV _) rfl) | exact (r_move rfl)) rfl (f30) ?_
          refine l_vg (by first | exact (r_move (v := sV _) rfl) | exact (r_move rfl)) rfl (f30) ?_
          refine l_vg (r_len_s Try.underlying9 rfl) rfl (f30) ?_
          refine l_vg (r_move (v := .pointer _) rfl) rfl (f30) ?_
          refine l_callg (r_call Try.func38 rfl rfl) rfl (f30) ?_
          refine Calls.mono (rest_c (cut s (k + T.2.1 + 4)) b5 w0 _ _ hs) ?_
          rintro e w_ ⟨rfl, rfl⟩
          refine ⟨_, rfl, ?_⟩
          have e41 : ((cut s k).size : Int) - ((cut s (k + T.2.1 + 4)).size : Int) = ((T.2.1 + 4 : Nat) : Int) := by omega
          refine l_vg (r_len_s Try.underlying9 rfl) rfl (f30) ?_
          refine l_vg (r_subi rfl rfl (by omega)) rfl (f30) ?_
          refine l_vg (r_slice_sh (((cut s k).size : Int) - ((cut s (k + T.2.1 + 4)).size : Int)) Try.underlying9 rfl rfl (by omega)) rfl (f30) ?_
          refine l_vg (r_neqs rfl rfl) rfl (f30) ?_
          refine l_v (r_pick_f rfl f30 rfl) ?_
          refine l_nil (nrm_then ?_)
          have ex : (cut s k).extract 0 (((cut s k).size : Int) - ((cut s (k + T.2.1 + 4)).size : Int)).toNat = ofL (((toL s).drop k).take (T.2.1 + 4)) := by rw [e41, Int.toNat_natCast, extract_take]; rfl
          rw [ex] at *
          refine c_cond rfl (fun h8 => ?_) (fun h8 => ?_)
          · have h8' : ¬ frame T.1 = ((toL s).drop k).take (T.2.1 + 4) := fun h => (of_decide_eq_true h8) (by rw [Eng.toL_ofL, h])
            have hno : wstep ((toL s).drop k) = none := by rw [hws, if_neg (fun h => h8' h.2.2.2)]
            replace h8 := of_decide_eq_true h8
            refine c_rseq ?_
            refine l_v (by first | exact (r_move (v := .slice _ _ _) rfl) | exact (r_move rfl)) ?_
            refine l_v (by first | exact (r_move (v := sV _) rfl) | exact (r_move rfl)) ?_
            refine l_v (r_len_s Try.underlying9 rfl) ?_
            refine l_v (by first | exact (r_move (v := sV _) rfl) | exact (r_move rfl)) ?_
            refine l_v (r_len_s Try.underlying9 rfl) ?_
            refine l_v (r_subi rfl rfl (by omega)) ?_
            refine l_v (by first | exact (r_assign (v := .slice _ _ _) rfl) | exact (r_assign rfl)) ?_
            refine l_v (by first | exact (r_assign (v := iV _) rfl) | exact (r_assign rfl)) ?_
            refine l_nil (nrm_then ?_)
            have hs1 := hs.drop
            refine c_ret (ret_then (ret_block (ret_then (ret_block ?_))))
            show Fin _ _ _ _ _
            refine fin2 rfl ?_
            have e50 : (s.size : Int) - ((cut s k).size : Int) = (k : Int) := by omega
            rw [e50, hsp, splitA_no (by omega) hno]
            exact ⟨v, rfl, hs1⟩
          · have h8' : frame T.1 = ((toL s).drop k).take (T.2.1 + 4) := by
              have h := Decidable.of_not_not (of_decide_eq_false h8)
              have h := congrArg toL h
              simpa [Eng.toL_ofL] using h
            have hyes : wstep ((toL s).drop k) = some (T.1, T.2.1 + 4) := by rw [hws, if_pos ⟨h5', h6, by omega, h8'⟩]
            rw [splitA_yes (by omega) hyes, List.drop_drop, ← Nat.add_assoc] at hsp
            have hs := hs.pull 1
            replace h8 := of_decide_eq_false h8
            refine c_skip (nrm_then ?_)
            refine c_region ?_
            refine l_v (by first | exact (r_move (v := .slice _ _ _) rfl) | exact (r_move rfl)) ?_
            refine l_v (by first | exact (r_move (v := sV _) rfl) | exact (r_move rfl)) ?_
            refine l_lit1 [sV _] hs Try.underlying22 I9 rfl (by simp [Value.oneCell']) rfl (by decide) (by decide) ?_
            intro b53 w53 hs hB53 hlt53
            refine l_append_lit Try.underlying22 I9 rfl (by decide) rfl rfl hs rfl (by simp [Value.oneCell']) (by omega) (by omega) ?_
            intro v54 w54 hs
            have hs := rowS_app hs
            refine l_v (by first | exact (r_assign (v := .slice _ _ _) rfl) | exact (r_assign rfl)) ?_
            refine l_nil (nrm_block (nrm_then ?_))
            refine And.intro (by refine ⟨?_, ?_, trivial⟩ <;> ((conv => lhs; whnf); (try conv => rhs; whnf))) ?_
            exact ⟨s.size - (k + T.2.1 + 4), by omega, v54, ts ++ [T.1], k + T.2.1 + 4, j - 1, rfl, hs, by omega, by rw [List.length_append]; simp only [List.length_cons, List.length_nil]; omega, rfl, by omega, by rw [hsp]⟩
      · have f26 : decide (Q.2.2 ≠ 0) = true := decide_eq_true h6
        have hno : wstep ((toL s).drop k) = none := by rw [hws, if_neg (fun h => h6 h.2.1)]
        refine l_v (by first | exact (r_move (v := bV _) rfl) | exact (r_move rfl)) ?_
        refine l_no rfl (f26) ?_
        refine l_no rfl (f26) ?_
        refine l_no rfl (f26) ?_
        refine l_v (r_pick_t rfl f26 rfl) ?_
        refine l_v (by first | exact (r_move (v := bV _) rfl) | exact (r_move rfl)) ?_
        refine l_no rfl (rfl) ?_
        refine l_no rfl (rfl) ?_
        refine l_no rfl (rfl) ?_
        refine l_no rfl (rfl) ?_
        refine l_no rfl (rfl) ?_
        refine l_no rfl (rfl) ?_
        refine l_no rfl (rfl) ?_
        refine l_no rfl (rfl) ?_
        refine l_no rfl (rfl) ?_
        refine l_no rfl (rfl) ?_
        refine l_no rfl (rfl) ?_
        refine l_v (r_pick_t rfl rfl rfl) ?_
        refine l_nil (nrm_then ?_)
        refine c_true rfl (rfl) ?_
        refine c_rseq ?_
        refine l_v (by first | exact (r_move (v := .slice _ _ _) rfl) | exact (r_move rfl)) ?_
        refine l_v (by first | exact (r_move (v := sV _) rfl) | exact (r_move rfl)) ?_
        refine l_v (r_len_s Try.underlying9 rfl) ?_
        refine l_v (by first | exact (r_move (v := sV _) rfl) | exact (r_move rfl)) ?_
        refine l_v (r_len_s Try.underlying9 rfl) ?_
        refine l_v (r_subi rfl rfl (by omega)) ?_
        refine l_v (by first | exact (r_assign (v := .slice _ _ _) rfl) | exact (r_assign rfl)) ?_
        refine l_v (by first | exact (r_assign (v := iV _) rfl) | exact (r_assign rfl)) ?_
        refine l_nil (nrm_then ?_)
        have hs1 := hs.drop
        refine c_ret (ret_then (ret_block (ret_then (ret_block ?_))))
        show Fin _ _ _ _ _
        refine fin2 rfl ?_
        have e50 : (s.size : Int) - ((cut s k).size : Int) = (k : Int) := by omega
        rw [e50, hsp, splitA_no (by omega) hno]
        exact ⟨v, rfl, hs1⟩
    · have h5' : ¬ T.2.2 = 0 := of_decide_eq_false h5
      have f26 : decide (T.2.2 ≠ 0) = true := decide_eq_true h5'
      have hno : wstep ((toL s).drop k) = none := by rw [hws, if_neg (fun h => h5' h.1)]
      replace h5 := of_decide_eq_false h5
      refine c_skip (nrm_then ?_)
      refine c_seq ?_
      refine c_rseq ?_
      refine l_v (by first | exact (r_move (v := iV _) rfl) | exact (r_move rfl)) ?_
      refine l_v (r_neqi rfl rfl) ?_
      refine l_v (by first | exact (r_move (v := bV _) rfl) | exact (r_move rfl)) ?_
      refine l_no rfl (f26) ?_
      refine l_no rfl (f26) ?_
      refine l_no rfl (f26) ?_
      refine l_v (r_pick_t rfl f26 rfl) ?_
      refine l_v (by first | exact (r_move (v := bV _) rfl) | exact (r_move rfl)) ?_
      refine l_no rfl (rfl) ?_
      refine l_no rfl (rfl) ?_
      refine l_no rfl (rfl) ?_
      refine l_no rfl (rfl) ?_
      refine l_no rfl (rfl) ?_
      refine l_no rfl (rfl) ?_
      refine l_no rfl (rfl) ?_
      refine l_no rfl (rfl) ?_
      refine l_no rfl (rfl) ?_
      refine l_no rfl (rfl) ?_
      refine l_no rfl (rfl) ?_
      refine l_v (r_pick_t rfl rfl rfl) ?_
      refine l_nil (nrm_then ?_)
      refine c_true rfl (rfl) ?_
      refine c_rseq ?_
      refine l_v (by first | exact (r_move (v := .slice _ _ _) rfl) | exact (r_move rfl)) ?_
      refine l_v (by first | exact (r_move (v := sV _) rfl) | exact (r_move rfl)) ?_
      refine l_v (r_len_s Try.underlying9 rfl) ?_
      refine l_v (by first | exact (r_move (v := sV _) rfl) | exact (r_move rfl)) ?_
      refine l_v (r_len_s Try.underlying9 rfl) ?_
      refine l_v (r_subi rfl rfl (by omega)) ?_
      refine l_v (by first | exact (r_assign (v := .slice _ _ _) rfl) | exact (r_assign rfl)) ?_
      refine l_v (by first | exact (r_assign (v := iV _) rfl) | exact (r_assign rfl)) ?_
      refine l_nil (nrm_then ?_)
      have hs1 := hs.drop
      refine c_ret (ret_then (ret_block (ret_then (ret_block ?_))))
      show Fin _ _ _ _ _
      refine fin2 rfl ?_
      have e50 : (s.size : Int) - ((cut s k).size : Int) = (k : Int) := by omega
      rw [e50, hsp, splitA_no (by omega) hno]
      exact ⟨v, rfl, hs1⟩
end Go.Proofs.Ytlkljeghhahedaa.Wal
