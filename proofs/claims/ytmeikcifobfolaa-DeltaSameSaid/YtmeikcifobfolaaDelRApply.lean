/- The walk of the document's Apply. -/
import Derived.Test.YtmeikcifobfolaaDelMake
import Derived.Test.YtmeikcifobfolaaSixRr
namespace Go.Proofs.Ytmeikcifobfolaa.Del
open Go Go.RowKit Go.Proofs.Ytmeikcifobfolaa.Eng Go.Proofs.Ytmeikcifobfolaa.Six
set_option linter.unusedVariables false
set_option maxRecDepth 100000
theorem ofL_append (a b : List UInt8) : ofL a ++ ofL b = ofL (a ++ b) := Eng.toL_inj (by rw [Eng.toL_append, Eng.toL_ofL, Eng.toL_ofL, Eng.toL_ofL])
theorem cut_take (L : List UInt8) (k n : Nat) : (cut (ofL L) k).extract 0 n = ofL ((L.drop k).take n) := Eng.toL_inj (by
  rw [Eng.toL_extract]; simp only [Eng.toL_ofL, Nat.sub_zero, List.drop_zero]; rfl)
set_option maxHeartbeats 8000000 in
theorem rapply_c (bs L : List UInt8) (hbz : bs.length ≤ 16777216) (hz : L.length ≤ 16777216) (w : World) :
    Calls Try.prog 9 #[sV (ofL bs), sV (ofL L)] w fun e w' => e = .returned (.tuple #[sV (ofL (apply bs L).1), iV (apply bs L).2]) ∧ Below w.heap.size w w' := by
  have hcn := count_nonneg L
  have hcb := count_bound L
  have hcs := count_size L
  have hlz : (ofL L).size = L.length := rfl
  have hbz2 : (ofL bs).size = bs.length := rfl
  unfold apply
  refine enter (P := Try.prog) Try.func9 rfl rfl ?_
  have hs := Sep.init w
  refine c_rseq ?_
  refine l_v (by first | exact (r_assign (v := sV _) rfl) | exact (r_assign rfl)) ?_
  refine l_v (by first | exact (r_assign (v := iV _) rfl) | exact (r_assign rfl)) ?_
  refine l_nil (nrm_then ?_)
  refine c_rseq ?_
  refine l_v (by first | exact (r_move (v := sV _) rfl) | exact (r_move rfl)) ?_
  refine l_call (r_call Try.func16 rfl rfl) ?_
  refine Calls.mono (readcount_c (ofL L) (by omega) _) ?_
  rintro e w_ ⟨rfl, hww⟩
  refine ⟨_, rfl, ?_⟩
  rw [Eng.toL_ofL, hww]
  clear hww
  generalize count L = C at *
  refine l_v (r_move rfl) ?_
  refine l_v (r_extract rfl rfl) ?_
  refine l_v (r_extract rfl rfl) ?_
  refine l_v (r_extract rfl rfl) ?_
  refine l_v (by first | exact (r_assign (v := iV _) rfl) | exact (r_assign rfl)) ?_
  refine l_v (by first | exact (r_assign (v := iV _) rfl) | exact (r_assign rfl)) ?_
  refine l_v (by first | exact (r_assign (v := iV _) rfl) | exact (r_assign rfl)) ?_
  refine l_nil (nrm_then ?_)
  refine c_seq ?_
  refine c_rseq ?_
  refine l_v (by first | exact (r_move (v := iV _) rfl) | exact (r_move rfl)) ?_
  refine l_v (r_neqi rfl rfl) ?_
  refine l_nil (nrm_then ?_)
  refine c_cond rfl (fun h1 => ?_) (fun h1 => ?_)
  · replace h1 := of_decide_eq_true h1
    refine c_rseq ?_
    refine l_v (by first | exact (r_move (v := iV _) rfl) | exact (r_move rfl)) ?_
    refine l_v (by first | exact (r_assign (v := sV _) rfl) | exact (r_assign rfl)) ?_
    refine l_v (by first | exact (r_assign (v := iV _) rfl) | exact (r_assign rfl)) ?_
    refine l_nil (nrm_then ?_)
    refine c_ret (ret_then ?_)
    show Fin _ _ _ _ _
    refine fin2 rfl ?_
    rw [if_pos h1]
    exact ⟨rfl, hs.below⟩
  · rw [if_neg (of_decide_eq_false h1)]
    replace h1 := of_decide_eq_false h1
    refine c_skip (nrm_then ?_)
    refine c_seq ?_
    refine c_rseq ?_
    refine l_v (by first | exact (r_move (v := iV _) rfl) | exact (r_move rfl)) ?_
    refine l_v (r_gtri rfl rfl) ?_
    refine l_nil (nrm_then ?_)
    refine c_cond rfl (fun h2 => ?_) (fun h2 => ?_)
    · replace h2 := of_decide_eq_true h2
      refine c_rseq ?_
      refine l_v (by first | exact (r_assign (v := sV _) rfl) | exact (r_assign rfl)) ?_
      refine l_v (by first | exact (r_assign (v := iV _) rfl) | exact (r_assign rfl)) ?_
      refine l_nil (nrm_then ?_)
      refine c_ret (ret_then ?_)
      show Fin _ _ _ _ _
      refine fin2 rfl ?_
      rw [if_pos h2]
      exact ⟨rfl, hs.below⟩
    · have h2' : ¬ 4096 < C.1 := of_decide_eq_false h2
      rw [if_neg h2']
      obtain ⟨z, hzz⟩ : ∃ z : Nat, C.1 = (z : Int) := ⟨C.1.toNat, by omega⟩
      rw [hzz, Int.toNat_natCast]
      have hz4 : z ≤ 4096 := by omega
      replace h2 := of_decide_eq_false h2
      refine c_skip (nrm_then ?_)
      refine c_rseq ?_
      refine l_v (by first | exact (r_assign (v := sV _) rfl) | exact (r_assign rfl)) ?_
      refine l_nil (nrm_then ?_)
      refine c_seq ?_
      refine c_block ?_
      obtain ⟨G, hG⟩ : ∃ G, dloop bs z (L.length + 1) [] (L.drop C.2.1) = G := ⟨_, rfl⟩
      rw [hG]
      refine c_loopn [0, 1, 6] (fun m f' w' => ∃ (out : List UInt8) (k j : Nat), f' 9 = sV (ofL out) ∧ f' 7 = iV (k : Int) ∧ Eng.Sep w w' [] ∧ k ≤ L.length ∧ m = L.length - k ∧ m < j ∧ out.length ≤ z ∧ G = dloop bs z j out (L.drop k)) ?_ ?_
      · exact ⟨L.length - C.2.1, [], C.2.1, L.length + 1, rfl, rfl, hs, by omega, rfl, by omega, Nat.zero_le _, hG.symm⟩
      · rintro m g w_ ⟨out, k, j, h9, h7, hs, hk, hm, hj, hout, hd⟩
        obtain ⟨j, rfl⟩ : ∃ i, j = i + 1 := ⟨j - 1, by omega⟩
        rw [dloop] at hd
        have hcl : (toL (cut (ofL L) k)) = L.drop k := rfl
        have hcz : (cut (ofL L) k).size = L.length - k := List.length_drop ..
        have hoz : (ofL out).size = out.length := rfl
        refine OkC.env ?_ (fixH (L := [(9, _), (7, _)]) ⟨h9, h7, trivial⟩)
        clear h9 h7
        refine c_seq ?_
        refine c_rseq ?_
        refine l_v (by first | exact (r_move (v := sV _) rfl) | exact (r_move rfl)) ?_
        refine l_v (r_len_s Try.underlying9 rfl) ?_
        refine l_v (by first | exact (r_move (v := iV _) rfl) | exact (r_move rfl)) ?_
        refine l_v (r_lssi rfl rfl) ?_
        refine l_nil (nrm_then ?_)
        refine c_cond rfl (fun h3 => ?_) (fun h3 => ?_)
        · have h3' : out.length < z := by have h := of_decide_eq_true h3; omega
          rw [if_pos h3'] at hd
          have hnp := @dnext_pos bs (L.drop k) ((z : Int) - out.length)
          have hns := @dnext_size bs (L.drop k) ((z : Int) - out.length)
          have hnl := @dnext_len bs (L.drop k) ((z : Int) - out.length)
          have hD : dnext bs (L.drop k) ((z : Int) - out.length) = dnext bs (L.drop k) ((z : Int) - out.length) := rfl
          conv at hD => rhs; unfold dnext
          have hfail : ∀ e, e ≠ 0 → (dnext bs (L.drop k) ((z : Int) - out.length)).2.2 = e → G = ([], e) := by
            intro e he h
            rw [if_pos (by rw [h]; exact he), h] at hd
            exact hd
          have hxn := count_nonneg (L.drop k)
          have hxb := count_bound (L.drop k)
          have hxs := count_size (L.drop k)
          rw [List.length_drop] at hxs
          replace h3 := of_decide_eq_true h3
          refine c_skip (nrm_then ?_)
          refine c_block ?_
          refine c_rseq ?_
          refine l_v (by first | exact (r_move (v := sV _) rfl) | exact (r_move rfl)) ?_
          refine l_v (by first | exact (r_move (v := iV _) rfl) | exact (r_move rfl)) ?_
          refine l_v (r_slice_sl (k : Int) Try.underlying9 rfl rfl (by omega)) ?_
          rw [Int.toNat_natCast, extract_cut]
          refine l_call (r_call Try.func16 rfl rfl) ?_
          refine Calls.mono (readcount_c (cut (ofL L) k) (by omega) _) ?_
          rintro e w_ ⟨rfl, rfl⟩
          refine ⟨_, rfl, ?_⟩
          rw [hcl]
          generalize count (L.drop k) = X at *
          refine l_v (r_move rfl) ?_
          refine l_v (r_extract rfl rfl) ?_
          refine l_v (r_extract rfl rfl) ?_
          refine l_v (r_extract rfl rfl) ?_
          refine l_v (by first | exact (r_assign (v := iV _) rfl) | exact (r_assign rfl)) ?_
          refine l_v (by first | exact (r_assign (v := iV _) rfl) | exact (r_assign rfl)) ?_
          refine l_v (by first | exact (r_assign (v := iV _) rfl) | exact (r_assign rfl)) ?_
          refine l_nil (nrm_then ?_)
          refine c_seq ?_
          refine c_rseq ?_
          refine l_v (by first | exact (r_move (v := iV _) rfl) | exact (r_move rfl)) ?_
          refine l_v (r_neqi rfl rfl) ?_
          refine l_nil (nrm_then ?_)
          refine c_cond rfl (fun h4 => ?_) (fun h4 => ?_)
          · rw [if_pos (of_decide_eq_true h4)] at hD
            replace h4 := of_decide_eq_true h4
            refine c_rseq ?_
            refine l_v (by first | exact (r_move (v := iV _) rfl) | exact (r_move rfl)) ?_
            refine l_v (by first | exact (r_assign (v := sV _) rfl) | exact (r_assign rfl)) ?_
            refine l_v (by first | exact (r_assign (v := iV _) rfl) | exact (r_assign rfl)) ?_
            refine l_nil (nrm_then ?_)
            refine c_ret (ret_then (ret_block (ret_then (ret_block (ret_then ?_)))))
            show Fin _ _ _ _ _
            refine fin2 rfl ?_
            rw [hfail X.2.2 h4 (by rw [hD])]
            exact ⟨rfl, hs.below⟩
          · rw [if_neg (of_decide_eq_false h4)] at hD
            replace h4 := of_decide_eq_false h4
            refine c_skip (nrm_then ?_)
            refine c_rseq ?_
            refine l_v (by first | exact (r_move (v := iV _) rfl) | exact (r_move rfl)) ?_
            refine l_v (by first | exact (r_move (v := iV _) rfl) | exact (r_move rfl)) ?_
            refine l_v (r_addi rfl rfl (by omega)) ?_
            refine l_v (by first | exact (r_assign (v := iV _) rfl) | exact (r_assign rfl)) ?_
            refine l_nil (nrm_then ?_)
            refine c_seq ?_
            refine c_seq ?_
            refine c_mid [0, 1, 4, 5, 6, 7, 9, 10] (fun f' w' => w' = w_ ∧ f' 57 = bV (decide (X.1 < 2 ∨ (z : Int) - out.length < X.1 / 2))) ?_ ?_
            · refine c_region ?_
              refine l_v (by first | exact (r_move (v := iV _) rfl) | exact (r_move rfl)) ?_
              refine l_v (r_eqli rfl rfl) ?_
              by_cases c1 : X.1 = 0
              · have f1 : decide (X.1 = 0) = true := decide_eq_true c1
                refine l_v (by first | exact (r_move (v := bV _) rfl) | exact (r_move rfl)) ?_
                refine l_no rfl (f1) ?_
                refine l_no rfl (f1) ?_
                refine l_v (r_pick_t rfl f1 rfl) ?_
                refine l_v (by first | exact (r_move (v := bV _) rfl) | exact (r_move rfl)) ?_
                refine l_no rfl (rfl) ?_
                refine l_no rfl (rfl) ?_
                refine l_no rfl (rfl) ?_
                refine l_no rfl (rfl) ?_
                refine l_no rfl (rfl) ?_
                refine l_no rfl (rfl) ?_
                refine l_no rfl (rfl) ?_
                refine l_v (r_pick_t rfl rfl rfl) ?_
                refine l_nil (nrm_then ?_)
                refine And.intro (by refine ⟨?_, ?_, ?_, ?_, ?_, ?_, ?_, ?_, trivial⟩ <;> ((conv => lhs; whnf); (try conv => rhs; whnf))) ?_
                exact ⟨rfl, congrArg bV (decide_eq_true (Or.inl (by omega))).symm⟩
              · have f1 : decide (X.1 = 0) = false := decide_eq_false c1
                refine l_v (by first | exact (r_move (v := bV _) rfl) | exact (r_move rfl)) ?_
                refine l_vg (by first | exact (r_move (v := iV _) rfl) | exact (r_move rfl)) rfl (f1) ?_
                refine l_vg (r_eqli rfl rfl) rfl (f1) ?_
                refine l_v (r_pick_f rfl f1 rfl) ?_
                by_cases c2 : X.1 = 1
                · have f2 : decide (X.1 = 1) = true := decide_eq_true c2
                  refine l_v (by first | exact (r_move (v := bV _) rfl) | exact (r_move rfl)) ?_
                  refine l_no rfl (f2) ?_
                  refine l_no rfl (f2) ?_
                  refine l_no rfl (f2) ?_
                  refine l_no rfl (f2) ?_
                  refine l_no rfl (f2) ?_
                  refine l_no rfl (f2) ?_
                  refine l_no rfl (f2) ?_
                  refine l_v (r_pick_t rfl f2 rfl) ?_
                  refine l_nil (nrm_then ?_)
                  refine And.intro (by refine ⟨?_, ?_, ?_, ?_, ?_, ?_, ?_, ?_, trivial⟩ <;> ((conv => lhs; whnf); (try conv => rhs; whnf))) ?_
                  exact ⟨rfl, congrArg bV (decide_eq_true (Or.inl (by omega))).symm⟩
                · have f2 : decide (X.1 = 1) = false := decide_eq_false c2
                  refine l_v (by first | exact (r_move (v := bV _) rfl) | exact (r_move rfl)) ?_
                  refine l_vg (by first | exact (r_move (v := iV _) rfl) | exact (r_move rfl)) rfl (f2) ?_
                  refine l_vg (r_quoi rfl rfl (by omega) (by omega)) rfl (f2) ?_
                  refine l_vg (by first | exact (r_move (v := iV _) rfl) | exact (r_move rfl)) rfl (f2) ?_
                  refine l_vg (by first | exact (r_move (v := sV _) rfl) | exact (r_move rfl)) rfl (f2) ?_
                  refine l_vg (r_len_s Try.underlying9 rfl) rfl (f2) ?_
                  refine l_vg (r_subi rfl rfl (by omega)) rfl (f2) ?_
                  refine l_vg (r_gtri rfl rfl) rfl (f2) ?_
                  refine l_v (r_pick_f rfl f2 rfl) ?_
                  refine l_nil (nrm_then ?_)
                  refine And.intro (by refine ⟨?_, ?_, ?_, ?_, ?_, ?_, ?_, ?_, trivial⟩ <;> ((conv => lhs; whnf); (try conv => rhs; whnf))) ?_
                  exact ⟨rfl, congrArg bV (decide_eq_decide.2 ⟨fun h => .inr h, fun h => h.elim (fun h => by omega) id⟩)⟩
            · rintro g w_ ⟨rfl, h57⟩
              show OkC _ _ _ _ _ _
              refine OkC.env ?_ (fixH (L := [(57, _)]) ⟨h57, trivial⟩)
              clear h57
              refine c_cond rfl (fun h5 => ?_) (fun h5 => ?_)
              · rw [if_pos (of_decide_eq_true h5)] at hD
                replace h5 := of_decide_eq_true h5
                refine c_rseq ?_
                refine l_v (by first | exact (r_assign (v := sV _) rfl) | exact (r_assign rfl)) ?_
                refine l_v (by first | exact (r_assign (v := iV _) rfl) | exact (r_assign rfl)) ?_
                refine l_nil (nrm_then ?_)
                refine c_ret (ret_then (ret_block (ret_then (ret_block (ret_then ?_)))))
                show Fin _ _ _ _ _
                refine fin2 rfl ?_
                rw [hfail 3 (by decide) (by rw [hD])]
                exact ⟨rfl, hs.below⟩
              · have h5' : ¬ (X.1 < 2 ∨ (z : Int) - out.length < X.1 / 2) := of_decide_eq_false h5
                rw [if_neg h5'] at hD
                obtain ⟨h52, h5m⟩ := not_or.1 h5'
                replace h5 := of_decide_eq_false h5
                refine c_skip (nrm_then ?_)
                refine c_seq ?_
                refine c_rseq ?_
                refine l_v (by first | exact (r_move (v := iV _) rfl) | exact (r_move rfl)) ?_
                refine l_v (r_remi rfl rfl (by omega) (by omega)) ?_
                refine l_v (r_eqli rfl rfl) ?_
                refine l_nil (nrm_then ?_)
                refine c_cond rfl (fun h6 => ?_) (fun h6 => ?_)
                · have h6' : X.1 % 2 = 0 := of_decide_eq_true h6
                  rw [if_pos h6'] at hD
                  replace h6 := of_decide_eq_true h6
                  refine c_seq ?_
                  refine c_rseq ?_
                  refine l_v (by first | exact (r_move (v := sV _) rfl) | exact (r_move rfl)) ?_
                  refine l_v (r_len_s Try.underlying9 rfl) ?_
                  refine l_v (by first | exact (r_move (v := iV _) rfl) | exact (r_move rfl)) ?_
                  refine l_v (r_subi rfl rfl (by omega)) ?_
                  refine l_v (by first | exact (r_move (v := iV _) rfl) | exact (r_move rfl)) ?_
                  refine l_v (r_quoi rfl rfl (by omega) (by omega)) ?_
                  refine l_v (r_lssi rfl rfl) ?_
                  refine l_nil (nrm_then ?_)
                  refine c_cond rfl (fun h7 => ?_) (fun h7 => ?_)
                  · have hraw : raw ((L.drop k).drop X.2.1) (X.1 / 2) = ([], 0, 2) := by
                      have h7' := of_decide_eq_true h7
                      unfold raw
                      rw [if_neg (by omega), if_pos (by rw [List.length_drop, List.length_drop]; omega)]
                    rw [hraw] at hD
                    replace h7 := of_decide_eq_true h7
                    refine c_rseq ?_
                    refine l_v (by first | exact (r_assign (v := sV _) rfl) | exact (r_assign rfl)) ?_
                    refine l_v (by first | exact (r_assign (v := iV _) rfl) | exact (r_assign rfl)) ?_
                    refine l_nil (nrm_then ?_)
                    refine c_ret (ret_then (ret_then (ret_block (ret_then (ret_block (ret_then ?_))))))
                    show Fin _ _ _ _ _
                    refine fin2 rfl ?_
                    rw [hfail 2 (by decide) (by rw [hD])]
                    exact ⟨rfl, hs.below⟩
                  · have h7' := of_decide_eq_false h7
                    have hraw : raw ((L.drop k).drop X.2.1) (X.1 / 2) = (((L.drop k).drop X.2.1).take (X.1 / 2).toNat, (X.1 / 2).toNat, 0) := by
                      unfold raw
                      rw [if_neg (by omega), if_neg (by rw [List.length_drop, List.length_drop]; omega)]
                    rw [hraw] at hD
                    rw [hD, if_neg (fun h => h rfl)] at hd
                    have ht1 : ((L.drop k).drop X.2.1).take (X.1 / 2).toNat = (L.drop (k + X.2.1)).take (X.1 / 2).toNat := by rw [List.drop_drop]
                    rw [ht1, List.drop_drop] at hd
                    have htl : ((L.drop (k + X.2.1)).take (X.1 / 2).toNat).length ≤ (X.1 / 2).toNat := by rw [List.length_take]; omega
                    replace h7 := of_decide_eq_false h7
                    refine c_skip (nrm_then ?_)
                    refine c_rseq ?_
                    refine l_v (by first | exact (r_move (v := sV _) rfl) | exact (r_move rfl)) ?_
                    refine l_v (by first | exact (r_move (v := sV _) rfl) | exact (r_move rfl)) ?_
                    refine l_v (by first | exact (r_move (v := iV _) rfl) | exact (r_move rfl)) ?_
                    refine l_v (r_slice_sl ((k : Int) + (X.2.1 : Int)) Try.underlying9 rfl rfl (by omega)) ?_
                    refine l_v (by first | exact (r_move (v := iV _) rfl) | exact (r_move rfl)) ?_
                    refine l_v (r_quoi rfl rfl (by omega) (by omega)) ?_
                    refine l_v (r_slice_sh (X.1 / 2) Try.underlying9 rfl rfl (by rw [ByteArray.size_extract]; omega)) ?_
                    refine l_v (r_adds rfl rfl (by rw [show ((k : Int) + (X.2.1 : Int)).toNat = k + X.2.1 by omega, extract_cut, cut_take]; show out.length + ((L.drop (k + X.2.1)).take (X.1 / 2).toNat).length ≤ _; omega)) ?_
                    refine l_v (by first | exact (r_assign (v := sV _) rfl) | exact (r_assign rfl)) ?_
                    refine l_nil (nrm_then ?_)
                    refine c_rseq ?_
                    refine l_v (by first | exact (r_move (v := iV _) rfl) | exact (r_move rfl)) ?_
                    refine l_v (by first | exact (r_move (v := iV _) rfl) | exact (r_move rfl)) ?_
                    refine l_v (r_quoi rfl rfl (by omega) (by omega)) ?_
                    refine l_v (r_addi rfl rfl (by omega)) ?_
                    refine l_v (by first | exact (r_assign (v := iV _) rfl) | exact (r_assign rfl)) ?_
                    refine l_nil (nrm_then ?_)
                    refine c_exit (ex_then (ex_hit (nrm_then ?_)))
                    rw [show ((k : Int) + (X.2.1 : Int)).toNat = k + X.2.1 by omega, extract_cut, cut_take, ofL_append]
                    refine And.intro (by refine ⟨?_, ?_, ?_, trivial⟩ <;> ((conv => lhs; whnf); (try conv => rhs; whnf))) ?_
                    exact ⟨L.length - (k + (X.2.1 + (X.1 / 2).toNat)), by omega, _, k + (X.2.1 + (X.1 / 2).toNat), j, rfl, congrArg iV (by omega), hs, by omega, rfl, by omega, by rw [List.length_append]; omega, hd⟩
                · rw [if_neg (of_decide_eq_false h6)] at hD
                  have hl1 : (toL (cut (ofL L) (k + X.2.1))) = (L.drop k).drop X.2.1 := by show L.drop _ = _; rw [List.drop_drop]
                  have hz1 : (cut (ofL L) (k + X.2.1)).size = L.length - (k + X.2.1) := List.length_drop ..
                  have hyn := count_nonneg ((L.drop k).drop X.2.1)
                  have hyb := count_bound ((L.drop k).drop X.2.1)
                  have hys := count_size ((L.drop k).drop X.2.1)
                  rw [List.length_drop, List.length_drop] at hys
                  replace h6 := of_decide_eq_false h6
                  refine c_skip (nrm_then ?_)
                  refine c_rseq ?_
                  refine l_v (by first | exact (r_move (v := sV _) rfl) | exact (r_move rfl)) ?_
                  refine l_v (by first | exact (r_move (v := iV _) rfl) | exact (r_move rfl)) ?_
                  refine l_v (r_slice_sl ((k : Int) + (X.2.1 : Int)) Try.underlying9 rfl rfl (by omega)) ?_
                  rw [show ((k : Int) + (X.2.1 : Int)).toNat = k + X.2.1 by omega, extract_cut]
                  refine l_call (r_call Try.func16 rfl rfl) ?_
                  refine Calls.mono (readcount_c (cut (ofL L) (k + X.2.1)) (by omega) _) ?_
                  rintro e w_ ⟨rfl, rfl⟩
                  refine ⟨_, rfl, ?_⟩
                  rw [hl1]
                  generalize count ((L.drop k).drop X.2.1) = Y at *
                  refine l_v (r_move rfl) ?_
                  refine l_v (r_extract rfl rfl) ?_
                  refine l_v (r_extract rfl rfl) ?_
                  refine l_v (r_extract rfl rfl) ?_
                  refine l_v (by first | exact (r_assign (v := iV _) rfl) | exact (r_assign rfl)) ?_
                  refine l_v (by first | exact (r_assign (v := iV _) rfl) | exact (r_assign rfl)) ?_
                  refine l_v (by first | exact (r_assign (v := iV _) rfl) | exact (r_assign rfl)) ?_
                  refine l_nil (nrm_then ?_)
                  refine c_seq ?_
                  refine c_rseq ?_
                  refine l_v (by first | exact (r_move (v := iV _) rfl) | exact (r_move rfl)) ?_
                  refine l_v (r_neqi rfl rfl) ?_
                  refine l_nil (nrm_then ?_)
                  refine c_cond rfl (fun h8 => ?_) (fun h8 => ?_)
                  · rw [if_pos (of_decide_eq_true h8)] at hD
                    replace h8 := of_decide_eq_true h8
                    refine c_rseq ?_
                    refine l_v (by first | exact (r_move (v := iV _) rfl) | exact (r_move rfl)) ?_
                    refine l_v (by first | exact (r_assign (v := sV _) rfl) | exact (r_assign rfl)) ?_
                    refine l_v (by first | exact (r_assign (v := iV _) rfl) | exact (r_assign rfl)) ?_
                    refine l_nil (nrm_then ?_)
                    refine c_ret (ret_then (ret_block (ret_then (ret_block (ret_then ?_)))))
                    show Fin _ _ _ _ _
                    refine fin2 rfl ?_
                    rw [hfail Y.2.2 h8 (by rw [hD])]
                    exact ⟨rfl, hs.below⟩
                  · rw [if_neg (of_decide_eq_false h8)] at hD
                    replace h8 := of_decide_eq_false h8
                    refine c_skip (nrm_then ?_)
                    refine c_rseq ?_
                    refine l_v (by first | exact (r_move (v := iV _) rfl) | exact (r_move rfl)) ?_
                    refine l_v (by first | exact (r_move (v := iV _) rfl) | exact (r_move rfl)) ?_
                    refine l_v (r_addi rfl rfl (by omega)) ?_
                    refine l_v (by first | exact (r_assign (v := iV _) rfl) | exact (r_assign rfl)) ?_
                    refine l_nil (nrm_then ?_)
                    refine c_seq ?_
                    refine c_rseq ?_
                    refine l_v (by first | exact (r_move (v := iV _) rfl) | exact (r_move rfl)) ?_
                    refine l_v (by first | exact (r_move (v := sV _) rfl) | exact (r_move rfl)) ?_
                    refine l_v (r_len_s Try.underlying9 rfl) ?_
                    refine l_v (r_gtri rfl rfl) ?_
                    by_cases c3 : Y.1 > (bs.length : Int)
                    · have f1 : decide (Y.1 > ((ofL bs).size : Int)) = true := decide_eq_true c3
                      rw [if_pos (Or.inl c3)] at hD
                      refine l_v (by first | exact (r_move (v := bV _) rfl) | exact (r_move rfl)) ?_
                      refine l_no rfl (f1) ?_
                      refine l_no rfl (f1) ?_
                      refine l_no rfl (f1) ?_
                      refine l_no rfl (f1) ?_
                      refine l_no rfl (f1) ?_
                      refine l_no rfl (f1) ?_
                      refine l_no rfl (f1) ?_
                      refine l_v (r_pick_t rfl f1 rfl) ?_
                      refine l_nil (nrm_then ?_)
                      refine c_true rfl (rfl) ?_
                      refine c_rseq ?_
                      refine l_v (by first | exact (r_assign (v := sV _) rfl) | exact (r_assign rfl)) ?_
                      refine l_v (by first | exact (r_assign (v := iV _) rfl) | exact (r_assign rfl)) ?_
                      refine l_nil (nrm_then ?_)
                      refine c_ret (ret_then (ret_block (ret_then (ret_block (ret_then ?_)))))
                      show Fin _ _ _ _ _
                      refine fin2 rfl ?_
                      rw [hfail 3 (by decide) (by rw [hD])]
                      exact ⟨rfl, hs.below⟩
                    · have f1 : decide (Y.1 > ((ofL bs).size : Int)) = false := decide_eq_false c3
                      refine l_v (by first | exact (r_move (v := bV _) rfl) | exact (r_move rfl)) ?_
                      refine l_vg (by first | exact (r_move (v := sV _) rfl) | exact (r_move rfl)) rfl (f1) ?_
                      refine l_vg (r_len_s Try.underlying9 rfl) rfl (f1) ?_
                      refine l_vg (by first | exact (r_move (v := iV _) rfl) | exact (r_move rfl)) rfl (f1) ?_
                      refine l_vg (r_subi rfl rfl (by omega)) rfl (f1) ?_
                      refine l_vg (by first | exact (r_move (v := iV _) rfl) | exact (r_move rfl)) rfl (f1) ?_
                      refine l_vg (r_quoi rfl rfl (by omega) (by omega)) rfl (f1) ?_
                      refine l_vg (r_lssi rfl rfl) rfl (f1) ?_
                      refine l_v (r_pick_f rfl f1 rfl) ?_
                      refine l_nil (nrm_then ?_)
                      refine c_cond rfl (fun h9 => ?_) (fun h9 => ?_)
                      · have h9' := of_decide_eq_true h9
                        rw [if_pos (Or.inr (by rw [← hbz2]; exact h9'))] at hD
                        replace h9 := of_decide_eq_true h9
                        refine c_rseq ?_
                        refine l_v (by first | exact (r_assign (v := sV _) rfl) | exact (r_assign rfl)) ?_
                        refine l_v (by first | exact (r_assign (v := iV _) rfl) | exact (r_assign rfl)) ?_
                        refine l_nil (nrm_then ?_)
                        refine c_ret (ret_then (ret_block (ret_then (ret_block (ret_then ?_)))))
                        show Fin _ _ _ _ _
                        refine fin2 rfl ?_
                        rw [hfail 3 (by decide) (by rw [hD])]
                        exact ⟨rfl, hs.below⟩
                      · have h9' := of_decide_eq_false h9
                        rw [if_neg (fun h => h.elim c3 (fun h => h9' (by rw [hbz2]; exact h)))] at hD
                        rw [hD, if_neg (fun h => h rfl)] at hd
                        rw [List.drop_drop] at hd
                        obtain ⟨x, hx⟩ : ∃ x : Nat, Y.1 = (x : Int) := ⟨Y.1.toNat, by omega⟩
                        rw [hx] at hd c3 h9' ⊢
                        rw [Int.toNat_natCast] at hd
                        have htl : ((bs.drop x).take (X.1 / 2).toNat).length ≤ (X.1 / 2).toNat := by rw [List.length_take]; omega
                        replace h9 := of_decide_eq_false h9
                        refine c_skip (nrm_then ?_)
                        refine c_region ?_
                        refine l_v (by first | exact (r_move (v := sV _) rfl) | exact (r_move rfl)) ?_
                        refine l_v (by first | exact (r_move (v := sV _) rfl) | exact (r_move rfl)) ?_
                        refine l_v (by first | exact (r_move (v := iV _) rfl) | exact (r_move rfl)) ?_
                        refine l_v (r_slice_sl (x : Int) Try.underlying9 rfl rfl (by omega)) ?_
                        refine l_v (by first | exact (r_move (v := iV _) rfl) | exact (r_move rfl)) ?_
                        refine l_v (r_quoi rfl rfl (by omega) (by omega)) ?_
                        refine l_v (r_slice_sh (X.1 / 2) Try.underlying9 rfl rfl (by rw [ByteArray.size_extract]; omega)) ?_
                        refine l_v (r_adds rfl rfl (by rw [Int.toNat_natCast, extract_cut, cut_take]; show out.length + ((bs.drop x).take (X.1 / 2).toNat).length ≤ _; omega)) ?_
                        refine l_v (by first | exact (r_assign (v := sV _) rfl) | exact (r_assign rfl)) ?_
                        refine l_nil (nrm_block (nrm_then ?_))
                        rw [Int.toNat_natCast, extract_cut, cut_take, ofL_append]
                        refine And.intro (by refine ⟨?_, ?_, ?_, trivial⟩ <;> ((conv => lhs; whnf); (try conv => rhs; whnf))) ?_
                        have hpos : 1 ≤ X.2.1 + Y.2.1 := by
                          have h := hnp (by rw [hD])
                          rw [hD] at h
                          exact h
                        exact ⟨L.length - (k + (X.2.1 + Y.2.1)), by omega, _, k + (X.2.1 + Y.2.1), j, rfl, congrArg iV (by omega), hs, by omega, rfl, by omega, by rw [List.length_append]; omega, hd⟩
        · have h3' : ¬ out.length < z := by have h := of_decide_eq_false h3; omega
          rw [if_neg h3'] at hd
          replace h3 := of_decide_eq_false h3
          refine c_exit (ex_then (ex_then (ex_hit (nrm_then ?_))))
          refine c_seq ?_
          refine c_rseq ?_
          refine l_v (by first | exact (r_move (v := iV _) rfl) | exact (r_move rfl)) ?_
          refine l_v (by first | exact (r_move (v := sV _) rfl) | exact (r_move rfl)) ?_
          refine l_v (r_len_s Try.underlying9 rfl) ?_
          refine l_v (r_lssi rfl rfl) ?_
          refine l_nil (nrm_then ?_)
          refine c_cond rfl (fun h10 => ?_) (fun h10 => ?_)
          · have h10' := of_decide_eq_true h10
            rw [if_neg (by rw [List.length_drop]; omega)] at hd
            replace h10 := of_decide_eq_true h10
            refine c_rseq ?_
            refine l_v (by first | exact (r_assign (v := sV _) rfl) | exact (r_assign rfl)) ?_
            refine l_v (by first | exact (r_assign (v := iV _) rfl) | exact (r_assign rfl)) ?_
            refine l_nil (nrm_then ?_)
            refine c_ret (ret_then ?_)
            show Fin _ _ _ _ _
            refine fin2 rfl ?_
            rw [hd]
            exact ⟨rfl, hs.below⟩
          · have h10' := of_decide_eq_false h10
            rw [if_pos (by rw [List.length_drop]; omega)] at hd
            replace h10 := of_decide_eq_false h10
            refine c_skip (nrm_then ?_)
            refine c_rseq ?_
            refine l_v (by first | exact (r_move (v := sV _) rfl) | exact (r_move rfl)) ?_
            refine l_v (by first | exact (r_assign (v := sV _) rfl) | exact (r_assign rfl)) ?_
            refine l_v (by first | exact (r_assign (v := iV _) rfl) | exact (r_assign rfl)) ?_
            refine l_nil (nrm_then ?_)
            refine c_ret ?_
            show Fin _ _ _ _ _
            refine fin2 rfl ?_
            rw [hd]
            exact ⟨rfl, hs.below⟩
end Go.Proofs.Ytmeikcifobfolaa.Del
