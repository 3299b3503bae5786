/- The walks of the document's Split and Frame. -/
import Derived.Test.YtlkljeghhahedaaWalFew
import Derived.Test.YtlkljeghhahedaaSixRr
import Derived.Test.YtlkljeghhahedaaSixRef
import Derived.Test.YtlkljeghhahedaaRefTake
namespace Go.Proofs.Ytlkljeghhahedaa.Wal
open Go Go.RowKit Go.Proofs.Ytlkljeghhahedaa.Eng Go.Proofs.Ytlkljeghhahedaa.Six Go.Proofs.Ytlkljeghhahedaa.CrcFn
set_option linter.unusedVariables false
set_option maxRecDepth 100000
theorem text_pos {l : List UInt8} (h : (text l).2.2 = 0) : 1 ≤ (text l).2.1 := by
  have h1 := (text_canon h).1
  have h2 := congrArg List.length h1
  rw [List.length_take, List.length_append] at h2
  have := enc_pos 64 (text l).1.length
  omega
theorem take_iff {l : List UInt8} (h : (text l).2.2 = 0) (h4 : (text l).2.1 + 4 ≤ l.length) : (Crc.take (l.take ((text l).2.1 + 4))).2 = 0 ↔ frame (text l).1 = l.take ((text l).2.1 + 4) := by
  have h1 := (text_canon h).1
  have hl : (l.take ((text l).2.1 + 4)).length = (text l).2.1 + 4 := by rw [List.length_take]; omega
  have ht : (l.take ((text l).2.1 + 4)).take ((text l).2.1 + 4 - 4) = encT (text l).1 := by
    rw [Nat.add_sub_cancel, List.take_take, Nat.min_eq_left (by omega), h1]; rfl
  unfold Crc.take
  rw [hl, if_neg (by omega), ht]
  have e : put (encT (text l).1) = frame (text l).1 := rfl
  rw [e]
  by_cases hf : frame (text l).1 = l.take ((text l).2.1 + 4)
  · rw [if_pos hf]; exact ⟨fun _ => hf, fun _ => rfl⟩
  · rw [if_neg hf]; exact ⟨fun h' => (by cases h'), fun h' => absurd h' hf⟩
theorem rframe_c (s : ByteArray) (hz : s.size ≤ 140737488355000) (w : World) :
    Calls Try.prog 23 #[sV s] w fun e w' => e = .returned (sV (ofL (frame (toL s)))) ∧ Below w.heap.size w w' := by
  have hl := toL_size s
  refine enter (P := Try.prog) Try.func23 rfl rfl ?_
  have hs := Sep.init w
  refine c_rseq ?_
  refine l_v (by first | exact (r_assign (v := sV _) rfl) | exact (r_assign rfl)) ?_
  refine l_nil (nrm_then ?_)
  refine c_rseq ?_
  refine l_v (by first | exact (r_move (v := sV _) rfl) | exact (r_move rfl)) ?_
  refine l_call (r_call Try.func47 rfl rfl) ?_
  refine Calls.mono (reftext_c s (by omega) w _ _ hs) ?_
  rintro e w_ ⟨rfl, hs⟩
  refine ⟨_, rfl, ?_⟩
  have hel := enc_len 64 (toL s).length (by omega)
  refine l_call (r_call Try.func46 rfl rfl) ?_
  refine Calls.mono (RefCrc.put_c (ofL (encT (toL s))) (by show (encT (toL s)).length ≤ _; unfold encT; rw [List.length_append]; omega) _) ?_
  rintro e w_ ⟨rfl, hb⟩
  refine ⟨_, rfl, ?_⟩
  have hs := hs.below_ hb
  refine l_v (by first | exact (r_assign (v := sV _) rfl) | exact (r_assign rfl)) ?_
  refine l_nil (nrm_then ?_)
  refine c_ret ?_
  show Fin _ _ _ _ _
  refine fin1 rfl ?_
  exact ⟨rfl, hs.below⟩
set_option maxHeartbeats 4000000 in
theorem rsplit_c (s : ByteArray) (hz : s.size ≤ 16777216) (w0 w : World) (R : List HP) (hs : Eng.Sep w0 w R) :
    Calls Try.prog 13 #[sV s] w fun e w' => ∃ v, e = .returned (.tuple #[v, iV ((splitA (s.size + 1) [] 0 (toL s)).2 : Int)]) ∧ Eng.Sep w0 w' (rowS v (splitA (s.size + 1) [] 0 (toL s)).1 :: R) := by
  have hl := toL_size s
  refine enter (P := Try.prog) Try.func13 rfl rfl ?_
  refine c_rseq ?_
  refine l_v (by first | exact (r_assign (v := .slice _ _ _) rfl) | exact (r_assign rfl)) ?_
  refine l_v (by first | exact (r_assign (v := iV _) rfl) | exact (r_assign rfl)) ?_
  refine l_nil (nrm_then ?_)
  refine c_rseq ?_
  refine l_v (by first | exact (r_assign (v := .slice _ _ _) rfl) | exact (r_assign rfl)) ?_
  refine l_nil (nrm_then ?_)
  refine c_rseq ?_
  refine l_v (by first | exact (r_assign (v := iV _) rfl) | exact (r_assign rfl)) ?_
  refine l_nil (nrm_then ?_)
  refine c_block ?_
  have hs := hs.rowNil 9 1
  refine c_loopn [0] (fun m f' w' => ∃ (v : Value) (ts : List (List UInt8)) (k j : Nat), f' 4 = v ∧ f' 5 = iV (k : Int) ∧ Eng.Sep w0 w' (rowS v ts :: R) ∧ k ≤ s.size ∧ ts.length ≤ k ∧ m = s.size - k ∧ m < j ∧ splitA (s.size + 1) [] 0 (toL s) = splitA j ts k ((toL s).drop k)) ?_ ?_
  · exact ⟨s.size, .slice none 0 0, [], 0, s.size + 1, rfl, rfl, hs, by omega, by simp, by omega, by omega, rfl⟩
  · rintro m g w_ ⟨v, ts, k, j, h4, h5, hs, hk, htk, hm, hj, hsp⟩
    have hcut := cut_size s k
    have hcl : (toL (cut s k)) = (toL s).drop k := rfl
    have hcz : (cut s k).size = s.size - k := by show ((toL s).drop k).length = _; rw [List.length_drop, hl]
    have htx := text_size ((toL s).drop k)
    have htp := @text_pos ((toL s).drop k)
    have hti := @take_iff ((toL s).drop k)
    rw [List.length_drop] at htx hti
    refine OkC.env ?_ (fixH (L := [(4, _), (5, _)]) ⟨h4, h5, trivial⟩)
    clear h4 h5
    refine c_block ?_
    refine c_rseq ?_
    refine l_v (by first | exact (r_move (v := sV _) rfl) | exact (r_move rfl)) ?_
    refine l_v (by first | exact (r_move (v := iV _) rfl) | exact (r_move rfl)) ?_
    refine l_v (r_slice_sl (k : Int) Try.underlying9 rfl rfl (by omega)) ?_
    rw [Int.toNat_natCast, extract_cut]
    refine l_call (r_call Try.func41 rfl rfl) ?_
    refine Calls.mono (readtext_c (cut s k) (by omega) _) ?_
    rintro e w_ ⟨rfl, rfl⟩
    refine ⟨_, rfl, ?_⟩
    rw [hcl]
    have hws : wstep ((toL s).drop k) = if (text ((toL s).drop k)).2.2 = 0 ∧ (raw (((toL s).drop k).drop (text ((toL s).drop k)).2.1) 4).2.2 = 0 ∧ (text ((toL s).drop k)).1.length ≤ 1048576 ∧ frame (text ((toL s).drop k)).1 = ((toL s).drop k).take ((text ((toL s).drop k)).2.1 + 4) then some ((text ((toL s).drop k)).1, (text ((toL s).drop k)).2.1 + 4) else none := rfl
    have hr4 := raw4 (((toL s).drop k).drop (text ((toL s).drop k)).2.1)
    rw [List.length_drop, List.length_drop] at hr4
    generalize text ((toL s).drop k) = T at *
    have hTz : (ofL T.1).size = T.1.length := rfl
    refine l_v (r_move rfl) ?_
    refine l_v (r_extract rfl rfl) ?_
    refine l_v (r_extract rfl rfl) ?_
    refine l_v (r_extract rfl rfl) ?_
    refine l_v (by first | exact (r_assign (v := sV _) rfl) | exact (r_assign rfl)) ?_
    refine l_v (by first | exact (r_assign (v := iV _) rfl) | exact (r_assign rfl)) ?_
    refine l_v (by first | exact (r_assign (v := iV _) rfl) | exact (r_assign rfl)) ?_
    refine l_nil (nrm_then ?_)
    refine c_seq ?_
    refine c_seq ?_
    refine c_mid [0, 2, 3, 4, 5, 6, 7] (fun f' w' => w' = w_ ∧ f' 34 = bV (decide (T.2.2 ≠ 0 ∨ 1048576 < T.1.length ∨ s.size - k - T.2.1 < 4))) ?_ ?_
    · refine c_region ?_
      refine l_v (by first | exact (r_move (v := iV _) rfl) | exact (r_move rfl)) ?_
      refine l_v (r_neqi rfl rfl) ?_
      by_cases c1 : T.2.2 ≠ 0
      · have f1 : decide (T.2.2 ≠ 0) = true := decide_eq_true c1
        refine l_v (by first | exact (r_move (v := bV _) rfl) | exact (r_move rfl)) ?_
        refine l_no rfl (f1) ?_
        refine l_no rfl (f1) ?_
        refine l_no rfl (f1) ?_
        refine l_v (r_pick_t rfl f1 rfl) ?_
        refine l_v (by first | exact (r_move (v := bV _) rfl) | exact (r_move rfl)) ?_
        refine l_no rfl (rfl) ?_
        refine l_no rfl (rfl) ?_
        refine l_no rfl (rfl) ?_
        refine l_no rfl (rfl) ?_
        refine l_no rfl (rfl) ?_
        refine l_no rfl (rfl) ?_
        refine l_no rfl (rfl) ?_
        refine l_v (r_pick_t rfl rfl rfl) ?_
        refine l_nil (nrm_then ?_)
        refine And.intro (by refine ⟨?_, ?_, ?_, ?_, ?_, ?_, ?_, trivial⟩ <;> ((conv => lhs; whnf); (try conv => rhs; whnf))) ?_
        exact ⟨rfl, congrArg bV (decide_eq_true (Or.inl c1)).symm⟩
      · have f1 : decide (T.2.2 ≠ 0) = false := decide_eq_false c1
        refine l_v (by first | exact (r_move (v := bV _) rfl) | exact (r_move rfl)) ?_
        refine l_vg (by first | exact (r_move (v := sV _) rfl) | exact (r_move rfl)) rfl (f1) ?_
        refine l_vg (r_len_s Try.underlying9 rfl) rfl (f1) ?_
        refine l_vg (r_gtri rfl rfl) rfl (f1) ?_
        refine l_v (r_pick_f rfl f1 rfl) ?_
        by_cases c2 : (((ofL T.1).size : Nat) : Int) > 1048576
        · have f2 : decide ((((ofL T.1).size : Nat) : Int) > 1048576) = true := decide_eq_true c2
          refine l_v (by first | exact (r_move (v := bV _) rfl) | exact (r_move rfl)) ?_
          refine l_no rfl (f2) ?_
          refine l_no rfl (f2) ?_
          refine l_no rfl (f2) ?_
          refine l_no rfl (f2) ?_
          refine l_no rfl (f2) ?_
          refine l_no rfl (f2) ?_
          refine l_no rfl (f2) ?_
          refine l_v (r_pick_t rfl f2 rfl) ?_
          refine l_nil (nrm_then ?_)
          refine And.intro (by refine ⟨?_, ?_, ?_, ?_, ?_, ?_, ?_, trivial⟩ <;> ((conv => lhs; whnf); (try conv => rhs; whnf))) ?_
          exact ⟨rfl, congrArg bV (decide_eq_true (by omega)).symm⟩
        · have f2 : decide ((((ofL T.1).size : Nat) : Int) > 1048576) = false := decide_eq_false c2
          refine l_v (by first | exact (r_move (v := bV _) rfl) | exact (r_move rfl)) ?_
          refine l_vg (by first | exact (r_move (v := sV _) rfl) | exact (r_move rfl)) rfl (f2) ?_
          refine l_vg (r_len_s Try.underlying9 rfl) rfl (f2) ?_
          refine l_vg (by first | exact (r_move (v := iV _) rfl) | exact (r_move rfl)) rfl (f2) ?_
          refine l_vg (r_subi rfl rfl (by omega)) rfl (f2) ?_
          refine l_vg (by first | exact (r_move (v := iV _) rfl) | exact (r_move rfl)) rfl (f2) ?_
          refine l_vg (r_subi rfl rfl (by omega)) rfl (f2) ?_
          refine l_vg (r_lssi rfl rfl) rfl (f2) ?_
          refine l_v (r_pick_f rfl f2 rfl) ?_
          refine l_nil (nrm_then ?_)
          refine And.intro (by refine ⟨?_, ?_, ?_, ?_, ?_, ?_, ?_, trivial⟩ <;> ((conv => lhs; whnf); (try conv => rhs; whnf))) ?_
          exact ⟨rfl, congrArg bV (decide_eq_decide.2 (by omega))⟩
    · rintro g w_ ⟨rfl, h34⟩
      show OkC _ _ _ _ _ _
      refine OkC.env ?_ (fixH (L := [(34, _)]) ⟨h34, trivial⟩)
      clear h34
      refine c_cond rfl (fun h6 => ?_) (fun h6 => ?_)
      · have h6' := of_decide_eq_true h6
        have hno : wstep ((toL s).drop k) = none := by rw [hws, if_neg (fun h => by have := hr4.1 h.2.1; have := h.2.2.1; have := h.1; omega)]
        replace h6 := of_decide_eq_true h6
        refine c_rseq ?_
        refine l_v (by first | exact (r_move (v := .slice _ _ _) rfl) | exact (r_move rfl)) ?_
        refine l_v (by first | exact (r_move (v := iV _) rfl) | exact (r_move rfl)) ?_
        refine l_v (by first | exact (r_assign (v := .slice _ _ _) rfl) | exact (r_assign rfl)) ?_
        refine l_v (by first | exact (r_assign (v := iV _) rfl) | exact (r_assign rfl)) ?_
        refine l_nil (nrm_then ?_)
        refine c_ret (ret_then (ret_block (ret_then (ret_block ?_))))
        show Fin _ _ _ _ _
        refine fin2 rfl ?_
        rw [hsp, splitA_no (by omega) hno]
        exact ⟨v, rfl, hs⟩
      · have h6' := of_decide_eq_false h6
        have hT0 : T.2.2 = 0 := by omega
        have hti := hti hT0 (by omega)
        have htp := htp hT0
        replace h6 := of_decide_eq_false h6
        refine c_skip (nrm_then ?_)
        refine c_rseq ?_
        refine l_v (by first | exact (r_move (v := sV _) rfl) | exact (r_move rfl)) ?_
        refine l_v (by first | exact (r_move (v := iV _) rfl) | exact (r_move rfl)) ?_
        refine l_v (r_slice_sl (k : Int) Try.underlying9 rfl rfl (by omega)) ?_
        refine l_v (by first | exact (r_move (v := iV _) rfl) | exact (r_move rfl)) ?_
        refine l_v (r_addi rfl rfl (by omega)) ?_
        refine l_v (r_slice_sh ((T.2.1 : Int) + 4) Try.underlying9 rfl rfl (by rw [Int.toNat_natCast, extract_cut]; omega)) ?_
        rw [Int.toNat_natCast, extract_cut]
        have ex : (cut s k).extract 0 ((T.2.1 : Int) + 4).toNat = ofL (((toL s).drop k).take (T.2.1 + 4)) := Eng.toL_inj (by
          rw [Eng.toL_extract, show ((T.2.1 : Int) + 4).toNat = T.2.1 + 4 by omega]; simp only [Eng.toL_ofL, Nat.sub_zero, List.drop_zero]; rfl)
        rw [ex]
        refine l_call (r_call Try.func42 rfl rfl) ?_
        refine Calls.mono (RefCrc.take_c (ofL (((toL s).drop k).take (T.2.1 + 4))) (by show (((toL s).drop k).take (T.2.1 + 4)).length ≤ _; rw [List.length_take]; omega) _) ?_
        rintro e w_ ⟨rfl, hb⟩
        refine ⟨_, rfl, ?_⟩
        have hs := hs.below_ hb
        rw [Eng.toL_ofL]
        generalize Crc.take (((toL s).drop k).take (T.2.1 + 4)) = Q at *
        refine l_v (r_move rfl) ?_
        refine l_v (r_extract rfl rfl) ?_
        refine l_v (r_extract rfl rfl) ?_
        refine l_v (by first | exact (r_assign (v := sV _) rfl) | exact (r_assign rfl)) ?_
        refine l_v (by first | exact (r_assign (v := iV _) rfl) | exact (r_assign rfl)) ?_
        refine l_nil (nrm_then ?_)
        refine c_seq ?_
        refine c_rseq ?_
        refine l_v (by first | exact (r_move (v := iV _) rfl) | exact (r_move rfl)) ?_
        refine l_v (r_neqi rfl rfl) ?_
        refine l_nil (nrm_then ?_)
        refine c_cond rfl (fun h7 => ?_) (fun h7 => ?_)
        · have h7' : Q.2 ≠ 0 := of_decide_eq_true h7
          have hno : wstep ((toL s).drop k) = none := by rw [hws, if_neg (fun h => h7' (hti.2 h.2.2.2))]
          replace h7 := of_decide_eq_true h7
          refine c_rseq ?_
          refine l_v (by first | exact (r_move (v := .slice _ _ _) rfl) | exact (r_move rfl)) ?_
          refine l_v (by first | exact (r_move (v := iV _) rfl) | exact (r_move rfl)) ?_
          refine l_v (by first | exact (r_assign (v := .slice _ _ _) rfl) | exact (r_assign rfl)) ?_
          refine l_v (by first | exact (r_assign (v := iV _) rfl) | exact (r_assign rfl)) ?_
          refine l_nil (nrm_then ?_)
          refine c_ret (ret_then (ret_block (ret_then (ret_block ?_))))
          show Fin _ _ _ _ _
          refine fin2 rfl ?_
          rw [hsp, splitA_no (by omega) hno]
          exact ⟨v, rfl, hs⟩
        · have h7' : Q.2 = 0 := Decidable.of_not_not (of_decide_eq_false h7)
          have hyes : wstep ((toL s).drop k) = some (T.1, T.2.1 + 4) := by rw [hws, if_pos ⟨hT0, hr4.2 (by omega), by omega, hti.1 h7'⟩]
          rw [splitA_yes (by omega) hyes, List.drop_drop] at hsp
          replace h7 := of_decide_eq_false h7
          refine c_skip (nrm_then ?_)
          refine c_rseq ?_
          refine l_v (by first | exact (r_move (v := .slice _ _ _) rfl) | exact (r_move rfl)) ?_
          refine l_v (by first | exact (r_move (v := sV _) rfl) | exact (r_move rfl)) ?_
          refine l_lit1 [sV _] hs Try.underlying22 I9 rfl (by simp [Value.oneCell']) rfl (by decide) (by decide) ?_
          intro b53 w53 hs hB53 hlt53
          refine l_append_lit Try.underlying22 I9 rfl (by decide) rfl rfl hs rfl (by simp [Value.oneCell']) (by omega) (by omega) ?_
          intro v54 w54 hs
          have hs := rowS_app hs
          refine l_v (by first | exact (r_assign (v := .slice _ _ _) rfl) | exact (r_assign rfl)) ?_
          refine l_nil (nrm_then ?_)
          refine c_region ?_
          refine l_v (by first | exact (r_move (v := iV _) rfl) | exact (r_move rfl)) ?_
          refine l_v (by first | exact (r_move (v := iV _) rfl) | exact (r_move rfl)) ?_
          refine l_v (r_addi rfl rfl (by omega)) ?_
          refine l_v (r_addi rfl rfl (by omega)) ?_
          refine l_v (by first | exact (r_assign (v := iV _) rfl) | exact (r_assign rfl)) ?_
          refine l_nil (nrm_block (nrm_then ?_))
          refine And.intro (by refine ⟨?_, trivial⟩ <;> ((conv => lhs; whnf); (try conv => rhs; whnf))) ?_
          exact ⟨s.size - (k + (T.2.1 + 4)), by omega, _, ts ++ [T.1], k + (T.2.1 + 4), j - 1, rfl, congrArg iV (by omega), hs, by omega, by rw [List.length_append]; simp only [List.length_cons, List.length_nil]; omega, rfl, by omega, hsp⟩
end Go.Proofs.Ytlkljeghhahedaa.Wal
