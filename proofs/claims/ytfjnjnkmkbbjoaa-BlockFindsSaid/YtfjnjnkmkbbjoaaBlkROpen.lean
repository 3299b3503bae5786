/- The walk of the document's Open. -/
import Derived.Test.YtfjnjnkmkbbjoaaBlkList
import Derived.Test.YtfjnjnkmkbbjoaaSixRr
import Derived.Test.YtfjnjnkmkbbjoaaRefTake
namespace Go.Proofs.Ytfjnjnkmkbbjoaa.Blk
open Go Go.RowKit Go.Proofs.Ytfjnjnkmkbbjoaa.Eng Go.Proofs.Ytfjnjnkmkbbjoaa.Six Go.Proofs.Ytfjnjnkmkbbjoaa.CrcFn
set_option linter.unusedVariables false
set_option maxRecDepth 100000
theorem stepE_fail {xs : List Ent} {l : List UInt8} (h : ¬ (entry (lastK xs) l).2.2 = 0) : (stepE xs l).2.2 = (entry (lastK xs) l).2.2 := by
  unfold stepE; rw [if_neg (fun h' => h h'.1)]
set_option maxHeartbeats 16000000 in
theorem ropen_c (s : ByteArray) (hz : s.size ≤ 16777216) (w0 w : World) (R : List HP) (hs : Eng.Sep w0 w R) :
    Calls Try.prog 16 #[sV s] w fun e w' => ∃ v, e = .returned (.tuple #[v, iV (openB (toL s)).2]) ∧ Eng.Sep w0 w' (rowE v (openB (toL s)).1 :: R) := by
  have hl := toL_size s
  have htl := take_len (toL s)
  unfold openB
  refine enter (P := Try.prog) Try.func16 rfl rfl ?_
  refine c_rseq ?_
  refine l_v (by first | exact (r_assign (v := .slice _ _ _) rfl) | exact (r_assign rfl)) ?_
  refine l_v (by first | exact (r_assign (v := iV _) rfl) | exact (r_assign rfl)) ?_
  refine l_nil (nrm_then ?_)
  refine c_rseq ?_
  refine l_v (by first | exact (r_move (v := sV _) rfl) | exact (r_move rfl)) ?_
  refine l_call (r_call Try.func39 rfl rfl) ?_
  refine Calls.mono (RefCrc.take_c s (by omega) _) ?_
  rintro e w_ ⟨rfl, hb⟩
  refine ⟨_, rfl, ?_⟩
  have hs := hs.below_ hb
  generalize Crc.take (toL s) = T at *
  have htz : (ofL T.1).size = T.1.length := rfl
  refine l_v (r_move rfl) ?_
  refine l_v (r_extract rfl rfl) ?_
  refine l_v (r_extract rfl rfl) ?_
  refine l_v (by first | exact (r_assign (v := sV _) rfl) | exact (r_assign rfl)) ?_
  refine l_v (by first | exact (r_assign (v := iV _) rfl) | exact (r_assign rfl)) ?_
  refine l_nil (nrm_then ?_)
  refine c_seq ?_
  refine c_rseq ?_
  refine l_v (by first | exact (r_move (v := iV _) rfl) | exact (r_move rfl)) ?_
  refine l_v (r_neqi rfl rfl) ?_
  refine l_nil (nrm_then ?_)
  refine c_cond rfl (fun h1 => ?_) (fun h1 => ?_)
  · replace h1 := of_decide_eq_true h1
    refine c_rseq ?_
    refine l_v (by first | exact (r_move (v := iV _) rfl) | exact (r_move rfl)) ?_
    refine l_v (by first | exact (r_assign (v := .slice _ _ _) rfl) | exact (r_assign rfl)) ?_
    refine l_v (by first | exact (r_assign (v := iV _) rfl) | exact (r_assign rfl)) ?_
    refine l_nil (nrm_then ?_)
    refine c_ret (ret_then ?_)
    show Fin _ _ _ _ _
    refine fin2 rfl ?_
    rw [if_pos h1]
    exact ⟨_, rfl, hs.rowNil 44 3⟩
  · replace h1 := of_decide_eq_false h1
    refine c_skip (nrm_then ?_)
    refine c_rseq ?_
    refine l_v (by first | exact (r_move (v := sV _) rfl) | exact (r_move rfl)) ?_
    rw [if_neg h1]
    generalize T.1 = L at *
    have hcn := count_nonneg L
    have hcb := count_bound L
    have hcs := count_size L
    have hcp := @count_pos L
    have hLE : takeLE L = if (count L).2.2 = 0 then takeE (count L).1.toNat [] (count L).2.1 (L.drop (count L).2.1) else ([], 0, (count L).2.2) := rfl
    have hOL : openL L = if (takeLE L).2.2 ≠ 0 then ([], (takeLE L).2.2) else if 65536 < (takeLE L).1.length then ([], 6) else if (takeLE L).2.1 < L.length then ([], 5) else ((takeLE L).1, 0) := rfl
    refine l_call (r_call Try.func40 rfl rfl) ?_
    refine Calls.mono (readcount_c (ofL L) (by omega) _) ?_
    rintro e w_ ⟨rfl, rfl⟩
    refine ⟨_, rfl, ?_⟩
    rw [Eng.toL_ofL]
    generalize count L = C at *
    refine l_v (r_move rfl) ?_
    refine l_v (r_extract rfl rfl) ?_
    refine l_v (r_extract rfl rfl) ?_
    refine l_v (r_extract rfl rfl) ?_
    refine l_v (by first | exact (r_assign (v := iV _) rfl) | exact (r_assign rfl)) ?_
    refine l_v (by first | exact (r_assign (v := iV _) rfl) | exact (r_assign rfl)) ?_
    refine l_v (by first | exact (r_assign (v := iV _) rfl) | exact (r_assign rfl)) ?_
    refine l_nil (nrm_then ?_)
    refine c_seq ?_
    refine c_rseq ?_
    refine l_v (by first | exact (r_move (v := iV _) rfl) | exact (r_move rfl)) ?_
    refine l_v (r_neqi rfl rfl) ?_
    refine l_nil (nrm_then ?_)
    refine c_cond rfl (fun h2 => ?_) (fun h2 => ?_)
    · replace h2 := of_decide_eq_true h2
      refine c_rseq ?_
      refine l_v (by first | exact (r_move (v := iV _) rfl) | exact (r_move rfl)) ?_
      refine l_v (by first | exact (r_assign (v := .slice _ _ _) rfl) | exact (r_assign rfl)) ?_
      refine l_v (by first | exact (r_assign (v := iV _) rfl) | exact (r_assign rfl)) ?_
      refine l_nil (nrm_then ?_)
      rw [if_neg h2] at hLE
      refine c_ret (ret_then ?_)
      show Fin _ _ _ _ _
      refine fin2 rfl ?_
      rw [hOL, hLE, if_pos h2]
      exact ⟨_, rfl, hs.rowNil 44 3⟩
    · replace h2 := of_decide_eq_false h2
      refine c_skip (nrm_then ?_)
      refine c_rseq ?_
      refine l_v (by first | exact (r_assign (v := .slice _ _ _) rfl) | exact (r_assign rfl)) ?_
      refine l_nil (nrm_then ?_)
      refine c_rseq ?_
      refine l_v (by first | exact (r_assign (v := sV _) rfl) | exact (r_assign rfl)) ?_
      refine l_nil (nrm_then ?_)
      refine c_seq ?_
      refine c_rseq ?_
      refine l_v (by first | exact (r_assign (v := iV _) rfl) | exact (r_assign rfl)) ?_
      refine l_nil (nrm_then ?_)
      refine c_block ?_
      have h2' : C.2.2 = 0 := Decidable.of_not_not h2
      have hcp := hcp h2'
      rw [if_pos h2'] at hLE
      have hs := hs.rowNil 44 3
      refine c_loopn [0, 5] (fun m f' w' => ∃ (i : Nat) (v : Value) (xs : List Ent) (k : Nat), f' 9 = iV (i : Int) ∧ f' 7 = v ∧ f' 8 = sV (ofL (lastK xs)) ∧ f' 6 = iV (k : Int) ∧ Eng.Sep w0 w' (rowE v xs :: R) ∧ xs.length = i ∧ k ≤ L.length ∧ i < k ∧ (lastK xs).length ≤ 65536 ∧ m = L.length - k ∧ i ≤ C.1.toNat ∧ takeLE L = takeE (C.1.toNat - i) xs k (L.drop k)) ?_ ?_
      · exact ⟨_, 0, .slice none 0 0, [], C.2.1, rfl, rfl, rfl, rfl, hs, rfl, hcs, by omega, by simp [lastK], rfl, by omega, hLE⟩
      · rintro m g w_ ⟨i, v, xs, k, h9, h7, h8, h6, hs, hxi, hk, hik, hlk, hm, hi, hta⟩
        have hcl : (toL (cut (ofL L) k)) = L.drop k := rfl
        have hcz : (cut (ofL L) k).size = L.length - k := List.length_drop ..
        refine OkC.env ?_ (fixH (L := [(9, _), (7, _), (8, _), (6, _)]) ⟨h9, h7, h8, h6, trivial⟩)
        clear h9 h7 h8 h6
        refine c_seq ?_
        refine c_rseq ?_
        refine l_v (by first | exact (r_move (v := iV _) rfl) | exact (r_move rfl)) ?_
        refine l_v (by first | exact (r_move (v := iV _) rfl) | exact (r_move rfl)) ?_
        refine l_v (r_lssi rfl rfl) ?_
        refine l_nil (nrm_then ?_)
        refine c_cond rfl (fun h3 => ?_) (fun h3 => ?_)
        · have hin : i < C.1.toNat := by have := of_decide_eq_true h3; omega
          rw [show C.1.toNat - i = C.1.toNat - (i + 1) + 1 by omega, takeE] at hta
          replace h3 := of_decide_eq_true h3
          refine c_skip (nrm_then ?_)
          refine c_seq ?_
          refine c_block ?_
          refine c_seq ?_
          refine c_rseq ?_
          refine l_v (by first | exact (r_move (v := iV _) rfl) | exact (r_move rfl)) ?_
          refine l_v (by first | exact (r_move (v := sV _) rfl) | exact (r_move rfl)) ?_
          refine l_v (r_len_s Try.underlying9 rfl) ?_
          refine l_v (r_eqli rfl rfl) ?_
          refine l_nil (nrm_then ?_)
          refine c_cond rfl (fun h4 => ?_) (fun h4 => ?_)
          · replace h4 := of_decide_eq_true h4
            refine c_rseq ?_
            refine l_v (by first | exact (r_assign (v := .slice _ _ _) rfl) | exact (r_assign rfl)) ?_
            refine l_v (by first | exact (r_assign (v := iV _) rfl) | exact (r_assign rfl)) ?_
            refine l_nil (nrm_then ?_)
            have hnil : L.drop k = [] := List.drop_of_length_le (by omega)
            rw [if_pos hnil] at hta
            refine c_ret (ret_then (ret_block (ret_then (ret_then (ret_block (ret_then ?_))))))
            show Fin _ _ _ _ _
            refine fin2 rfl ?_
            rw [hOL, hta]
            exact ⟨_, rfl, hs.drop.rowNil 44 3⟩
          · replace h4 := of_decide_eq_false h4
            refine c_skip (nrm_then ?_)
            refine c_rseq ?_
            refine l_v (by first | exact (r_move (v := sV _) rfl) | exact (r_move rfl)) ?_
            refine l_v (by first | exact (r_move (v := iV _) rfl) | exact (r_move rfl)) ?_
            refine l_v (r_slice_sl (k : Int) Try.underlying9 rfl rfl (by omega)) ?_
            rw [if_neg (fun h => by have := congrArg List.length h; rw [List.length_drop] at this; simp only [List.length_nil] at this; omega)] at hta
            rw [Int.toNat_natCast, extract_cut]
            have hfail : ∀ e, e ≠ 0 → (entry (lastK xs) (L.drop k)).2.2 = e → openL L = ([], e) := by
              intro e he h
              have h2 := stepE_fail (xs := xs) (l := L.drop k) (by rw [h]; exact he)
              rw [h] at h2
              rw [h2, if_neg he] at hta
              rw [hOL, hta]
              exact if_pos he
            have hE : entry (lastK xs) (L.drop k) = if (count (L.drop k)).2.2 ≠ 0 then no (count (L.drop k)).2.2 else entryK (lastK xs) (count (L.drop k)).1.toNat (count (L.drop k)).2.1 ((L.drop k).drop (count (L.drop k)).2.1) := rfl
            have hxn := count_nonneg (L.drop k)
            have hxb := count_bound (L.drop k)
            have hxs := count_size (L.drop k)
            have hxp := @count_pos (L.drop k)
            rw [List.length_drop] at hxs
            refine l_call (r_call Try.func40 rfl rfl) ?_
            refine Calls.mono (readcount_c (cut (ofL L) k) (by omega) _) ?_
            rintro e w_ ⟨rfl, rfl⟩
            refine ⟨_, rfl, ?_⟩
            rw [hcl]
            generalize count (L.drop k) = X at *
            refine l_v (r_move rfl) ?_
            refine l_v (r_extract rfl rfl) ?_
            refine l_v (r_extract rfl rfl) ?_
            refine l_v (r_extract rfl rfl) ?_
            refine l_v (by first | exact (r_assign (v := iV _) rfl) | exact (r_assign rfl)) ?_
            refine l_v (by first | exact (r_assign (v := iV _) rfl) | exact (r_assign rfl)) ?_
            refine l_v (by first | exact (r_assign (v := iV _) rfl) | exact (r_assign rfl)) ?_
            refine l_nil (nrm_then ?_)
            refine c_seq ?_
            refine c_rseq ?_
            refine l_v (by first | exact (r_move (v := iV _) rfl) | exact (r_move rfl)) ?_
            refine l_v (r_neqi rfl rfl) ?_
            refine l_nil (nrm_then ?_)
            refine c_cond rfl (fun h5 => ?_) (fun h5 => ?_)
            · replace h5 := of_decide_eq_true h5
              refine c_rseq ?_
              refine l_v (by first | exact (r_move (v := iV _) rfl) | exact (r_move rfl)) ?_
              refine l_v (by first | exact (r_assign (v := .slice _ _ _) rfl) | exact (r_assign rfl)) ?_
              refine l_v (by first | exact (r_assign (v := iV _) rfl) | exact (r_assign rfl)) ?_
              refine l_nil (nrm_then ?_)
              rw [if_pos h5] at hE
              refine c_ret (ret_then (ret_block (ret_then (ret_then (ret_block (ret_then ?_))))))
              show Fin _ _ _ _ _
              refine fin2 rfl ?_
              rw [hfail X.2.2 h5 (by rw [hE]; rfl)]
              exact ⟨_, rfl, hs.drop.rowNil 44 3⟩
            · replace h5 := of_decide_eq_false h5
              refine c_skip (nrm_then ?_)
              refine c_rseq ?_
              refine l_v (by first | exact (r_move (v := iV _) rfl) | exact (r_move rfl)) ?_
              refine l_v (by first | exact (r_move (v := iV _) rfl) | exact (r_move rfl)) ?_
              refine l_v (r_addi rfl rfl (by omega)) ?_
              refine l_v (by first | exact (r_assign (v := iV _) rfl) | exact (r_assign rfl)) ?_
              refine l_nil (nrm_then ?_)
              refine c_rseq ?_
              refine l_v (by first | exact (r_move (v := sV _) rfl) | exact (r_move rfl)) ?_
              refine l_v (by first | exact (r_move (v := iV _) rfl) | exact (r_move rfl)) ?_
              refine l_v (r_slice_sl ((k : Int) + (X.2.1 : Int)) Try.underlying9 rfl rfl (by omega)) ?_
              rw [if_neg h5] at hE
              unfold entryK at hE
              rw [show ((k : Int) + (X.2.1 : Int)).toNat = k + X.2.1 by omega, extract_cut]
              have hl1 : (toL (cut (ofL L) (k + X.2.1))) = (L.drop k).drop X.2.1 := by show L.drop _ = _; rw [List.drop_drop]
              have hz1 : (cut (ofL L) (k + X.2.1)).size = L.length - (k + X.2.1) := List.length_drop ..
              obtain ⟨N, hN⟩ : ∃ N : Nat, X.1 = (N : Int) := ⟨X.1.toNat, by omega⟩
              rw [hN, Int.toNat_natCast] at hE
              rw [hN]
              have hts := text_size ((L.drop k).drop X.2.1)
              have htl := @text_len ((L.drop k).drop X.2.1)
              rw [List.length_drop, List.length_drop] at hts htl
              refine l_call (r_call Try.func41 rfl rfl) ?_
              refine Calls.mono (readtext_c (cut (ofL L) (k + X.2.1)) (by omega) _) ?_
              rintro e w_ ⟨rfl, rfl⟩
              refine ⟨_, rfl, ?_⟩
              rw [hl1]
              generalize hTT : text ((L.drop k).drop X.2.1) = Y at *
              have hyz : (ofL Y.1).size = Y.1.length := rfl
              have hlz : (ofL (lastK xs)).size = (lastK xs).length := rfl
              refine l_v (r_move rfl) ?_
              refine l_v (r_extract rfl rfl) ?_
              refine l_v (r_extract rfl rfl) ?_
              refine l_v (r_extract rfl rfl) ?_
              refine l_v (by first | exact (r_assign (v := sV _) rfl) | exact (r_assign rfl)) ?_
              refine l_v (by first | exact (r_assign (v := iV _) rfl) | exact (r_assign rfl)) ?_
              refine l_v (by first | exact (r_assign (v := iV _) rfl) | exact (r_assign rfl)) ?_
              refine l_nil (nrm_then ?_)
              refine c_seq ?_
              refine c_rseq ?_
              refine l_v (by first | exact (r_move (v := iV _) rfl) | exact (r_move rfl)) ?_
              refine l_v (r_neqi rfl rfl) ?_
              refine l_nil (nrm_then ?_)
              refine c_cond rfl (fun h6 => ?_) (fun h6 => ?_)
              · replace h6 := of_decide_eq_true h6
                refine c_rseq ?_
                refine l_v (by first | exact (r_move (v := iV _) rfl) | exact (r_move rfl)) ?_
                refine l_v (by first | exact (r_assign (v := .slice _ _ _) rfl) | exact (r_assign rfl)) ?_
                refine l_v (by first | exact (r_assign (v := iV _) rfl) | exact (r_assign rfl)) ?_
                refine l_nil (nrm_then ?_)
                rw [if_pos h6] at hE
                refine c_ret (ret_then (ret_block (ret_then (ret_then (ret_block (ret_then ?_))))))
                show Fin _ _ _ _ _
                refine fin2 rfl ?_
                rw [hfail Y.2.2 h6 (by rw [hE]; rfl)]
                exact ⟨_, rfl, hs.drop.rowNil 44 3⟩
              · replace h6 := of_decide_eq_false h6
                refine c_skip (nrm_then ?_)
                refine c_rseq ?_
                refine l_v (by first | exact (r_move (v := iV _) rfl) | exact (r_move rfl)) ?_
                refine l_v (by first | exact (r_move (v := iV _) rfl) | exact (r_move rfl)) ?_
                refine l_v (r_addi rfl rfl (by omega)) ?_
                refine l_v (by first | exact (r_assign (v := iV _) rfl) | exact (r_assign rfl)) ?_
                refine l_nil (nrm_then ?_)
                refine c_seq ?_
                refine c_seq ?_
                rw [if_neg h6] at hE
                have ehi : ∀ h : N ≤ (lastK xs).length, (ofL (lastK xs)).extract 0 ((N : Int)).toNat ++ ofL Y.1 = ofL ((lastK xs).take N ++ Y.1) := fun h => Eng.toL_inj (by
                  rw [Eng.toL_append, Eng.toL_extract, Int.toNat_natCast]; simp only [Eng.toL_ofL, List.drop_zero, Nat.sub_zero])
                have hkl : ∀ h : N ≤ (lastK xs).length, ((lastK xs).take N ++ Y.1).length = N + Y.1.length := fun h => by rw [List.length_append, List.length_take, Nat.min_eq_left h]
                refine c_mid [0, 2, 3, 5, 6, 7, 8, 9, 10, 13] (fun f' w' => f' 84 = bV (decide ((lastK xs).length < N ∨ shareN (lastK xs) ((lastK xs).take N ++ Y.1) ≠ N)) ∧ Eng.Sep w0 w' (rowE v xs :: R)) ?_ ?_
                · refine c_region ?_
                  refine l_v (by first | exact (r_move (v := iV _) rfl) | exact (r_move rfl)) ?_
                  refine l_v (by first | exact (r_move (v := sV _) rfl) | exact (r_move rfl)) ?_
                  refine l_v (r_len_s Try.underlying9 rfl) ?_
                  refine l_v (r_gtri rfl rfl) ?_
                  by_cases c1 : (N : Int) > ((ofL (lastK xs)).size : Int)
                  · have f1 : decide ((N : Int) > ((ofL (lastK xs)).size : Int)) = true := decide_eq_true c1
                    refine l_v (by first | exact (r_move (v := bV _) rfl) | exact (r_move rfl)) ?_
                    refine l_no rfl (f1) ?_
                    refine l_no rfl (f1) ?_
                    refine l_no rfl (f1) ?_
                    refine l_no rfl (f1) ?_
                    refine l_no rfl (f1) ?_
                    refine l_no rfl (f1) ?_
                    refine l_no rfl (f1) ?_
                    refine l_no rfl (f1) ?_
                    refine l_no rfl (f1) ?_
                    refine l_v (r_pick_t rfl f1 rfl) ?_
                    refine l_nil (nrm_then ?_)
                    refine And.intro (by refine ⟨?_, ?_, ?_, ?_, ?_, ?_, ?_, ?_, ?_, ?_, trivial⟩ <;> ((conv => lhs; whnf); (try conv => rhs; whnf))) ?_
                    exact ⟨congrArg bV (decide_eq_true (Or.inl (by omega))).symm, hs⟩
                  · have f1 : decide ((N : Int) > ((ofL (lastK xs)).size : Int)) = false := decide_eq_false c1
                    refine l_v (by first | exact (r_move (v := bV _) rfl) | exact (r_move rfl)) ?_
                    refine l_vg (by first | exact (r_move (v := sV _) rfl) | exact (r_move rfl)) rfl (f1) ?_
                    refine l_vg (by first | exact (r_move (v := sV _) rfl) | exact (r_move rfl)) rfl (f1) ?_
                    refine l_vg (by first | exact (r_move (v := iV _) rfl) | exact (r_move rfl)) rfl (f1) ?_
                    refine l_vg (r_slice_sh (N : Int) Try.underlying9 rfl rfl (by omega)) rfl (f1) ?_
                    refine l_vg (by first | exact (r_move (v := sV _) rfl) | exact (r_move rfl)) rfl (f1) ?_
                    refine l_vg (r_adds rfl rfl (by have e := congrArg ByteArray.size (ehi (by omega)); rw [ByteArray.size_append] at e; rw [e]; show ((lastK xs).take N ++ Y.1).length ≤ _; rw [hkl (by omega)]; omega)) rfl (f1) ?_
                    rw [ehi (by omega)]
                    refine l_callg (r_call Try.func29 rfl rfl) rfl (f1) ?_
                    refine Calls.mono (rshared_c (ofL (lastK xs)) (ofL ((lastK xs).take N ++ Y.1)) (by omega) (by show ((lastK xs).take N ++ Y.1).length ≤ _; rw [hkl (by omega)]; omega) _) ?_
                    rintro e w_ ⟨rfl, hb⟩
                    refine ⟨_, rfl, ?_⟩
                    have hs := hs.below_ hb
                    rw [Eng.toL_ofL, Eng.toL_ofL]
                    refine l_vg (by first | exact (r_move (v := iV _) rfl) | exact (r_move rfl)) rfl (f1) ?_
                    refine l_vg (r_neqi rfl rfl) rfl (f1) ?_
                    refine l_v (r_pick_f rfl f1 rfl) ?_
                    refine l_nil (nrm_then ?_)
                    refine And.intro (by refine ⟨?_, ?_, ?_, ?_, ?_, ?_, ?_, ?_, ?_, ?_, trivial⟩ <;> ((conv => lhs; whnf); (try conv => rhs; whnf))) ?_
                    refine ⟨congrArg bV (decide_eq_decide.2 ⟨fun h => .inr (fun e => h (by rw [e])), fun h => ?_⟩), hs⟩
                    rcases h with h | h
                    · omega
                    · exact fun e => h (Int.ofNat.inj e)
                · rintro g w_ ⟨h84, hs⟩
                  show OkC _ _ _ _ _ _
                  refine OkC.env ?_ (fixH (L := [(84, _)]) ⟨h84, trivial⟩)
                  clear h84
                  refine c_cond rfl (fun h7 => ?_) (fun h7 => ?_)
                  · replace h7 := of_decide_eq_true h7
                    refine c_rseq ?_
                    refine l_v (by first | exact (r_assign (v := .slice _ _ _) rfl) | exact (r_assign rfl)) ?_
                    refine l_v (by first | exact (r_assign (v := iV _) rfl) | exact (r_assign rfl)) ?_
                    refine l_nil (nrm_then ?_)
                    rw [if_pos h7] at hE
                    refine c_ret (ret_then (ret_block (ret_then (ret_then (ret_block (ret_then ?_))))))
                    show Fin _ _ _ _ _
                    refine fin2 rfl ?_
                    rw [hfail 3 (by decide) (by rw [hE]; rfl)]
                    exact ⟨_, rfl, hs.drop.rowNil 44 3⟩
                  · replace h7 := of_decide_eq_false h7
                    refine c_skip (nrm_then ?_)
                    refine c_seq ?_
                    refine c_rseq ?_
                    refine l_v (by first | exact (r_move (v := iV _) rfl) | exact (r_move rfl)) ?_
                    refine l_v (by first | exact (r_move (v := sV _) rfl) | exact (r_move rfl)) ?_
                    refine l_v (r_len_s Try.underlying9 rfl) ?_
                    refine l_v (r_addi rfl rfl (by omega)) ?_
                    refine l_v (r_gtri rfl rfl) ?_
                    refine l_nil (nrm_then ?_)
                    rw [if_neg h7] at hE
                    have hNl : N ≤ (lastK xs).length := by omega
                    have hkl := hkl hNl
                    have ehi := ehi hNl
                    refine c_cond rfl (fun h8 => ?_) (fun h8 => ?_)
                    · replace h8 := of_decide_eq_true h8
                      refine c_rseq ?_
                      refine l_v (by first | exact (r_assign (v := .slice _ _ _) rfl) | exact (r_assign rfl)) ?_
                      refine l_v (by first | exact (r_assign (v := iV _) rfl) | exact (r_assign rfl)) ?_
                      refine l_nil (nrm_then ?_)
                      rw [if_pos (by omega)] at hE
                      refine c_ret (ret_then (ret_block (ret_then (ret_then (ret_block (ret_then ?_))))))
                      show Fin _ _ _ _ _
                      refine fin2 rfl ?_
                      rw [hfail 6 (by decide) (by rw [hE]; rfl)]
                      exact ⟨_, rfl, hs.drop.rowNil 44 3⟩
                    · replace h8 := of_decide_eq_false h8
                      refine c_skip (nrm_then ?_)
                      refine c_rseq ?_
                      refine l_v (by first | exact (r_move (v := sV _) rfl) | exact (r_move rfl)) ?_
                      refine l_v (by first | exact (r_move (v := iV _) rfl) | exact (r_move rfl)) ?_
                      refine l_v (r_slice_sh (N : Int) Try.underlying9 rfl rfl (by omega)) ?_
                      refine l_v (by first | exact (r_move (v := sV _) rfl) | exact (r_move rfl)) ?_
                      refine l_v (r_adds rfl rfl (by have e := congrArg ByteArray.size ehi; rw [ByteArray.size_append] at e; rw [e]; show ((lastK xs).take N ++ Y.1).length ≤ _; omega)) ?_
                      refine l_v (r_build (l := [(0, sV _)]) rfl ((fun (x0 : ByteArray) => (by kernel_rfl : Program.built Try.prog 44 [(0, sV x0)] = some #[sV x0, sV ByteArray.empty, bV false])) _)) ?_
                      refine l_alloc hs I44 ?_
                      intro b14 w14 hs hB14 hlt14
                      first | refine l_store_whole (i := 0) hs rfl I44 rfl rfl (by first | assumption | (simp; done)) (by first | assumption | (simp; done)) (by first | assumption | simp [Value.oneCell']) ?_ | refine l_store_whole (i := 1) hs rfl I44 rfl rfl (by first | assumption | (simp; done)) (by first | assumption | (simp; done)) (by first | assumption | simp [Value.oneCell']) ?_ | refine l_store_whole (i := 2) hs rfl I44 rfl rfl (by first | assumption | (simp; done)) (by first | assumption | (simp; done)) (by first | assumption | simp [Value.oneCell']) ?_ | refine l_store_whole (i := 3) hs rfl I44 rfl rfl (by first | assumption | (simp; done)) (by first | assumption | (simp; done)) (by first | assumption | simp [Value.oneCell']) ?_ | refine l_store_whole (i := 4) hs rfl I44 rfl rfl (by first | assumption | (simp; done)) (by first | assumption | (simp; done)) (by first | assumption | simp [Value.oneCell']) ?_ | refine l_store_whole (i := 5) hs rfl I44 rfl rfl (by first | assumption | (simp; done)) (by first | assumption | (simp; done)) (by first | assumption | simp [Value.oneCell']) ?_ | refine l_store_whole (i := 6) hs rfl I44 rfl rfl (by first | assumption | (simp; done)) (by first | assumption | (simp; done)) (by first | assumption | simp [Value.oneCell']) ?_
                      intro w_ hs
                      refine l_nil (nrm_then ?_)
                      refine c_rseq ?_
                      refine l_v (by first | exact (r_move (v := sV _) rfl) | exact (r_move rfl)) ?_
                      refine l_v (by first | exact (r_move (v := iV _) rfl) | exact (r_move rfl)) ?_
                      refine l_v (r_slice_sl ((k : Int) + (X.2.1 : Int) + (Y.2.1 : Int)) Try.underlying9 rfl rfl (by omega)) ?_
                      rw [if_neg (by omega)] at hE
                      rw [ehi] at hs ⊢
                      clear ehi
                      generalize (lastK xs).take N ++ Y.1 = key at *
                      unfold entryV at hE
                      rw [show ((k : Int) + (X.2.1 : Int) + (Y.2.1 : Int)).toNat = k + X.2.1 + Y.2.1 by omega, extract_cut]
                      have hl2 : (toL (cut (ofL L) (k + X.2.1 + Y.2.1))) = ((L.drop k).drop X.2.1).drop Y.2.1 := by show L.drop _ = _; rw [List.drop_drop, List.drop_drop, Nat.add_assoc]
                      have hz2 : (cut (ofL L) (k + X.2.1 + Y.2.1)).size = L.length - (k + X.2.1 + Y.2.1) := List.length_drop ..
                      have hvn := count_nonneg (((L.drop k).drop X.2.1).drop Y.2.1)
                      have hvb := count_bound (((L.drop k).drop X.2.1).drop Y.2.1)
                      have hvs := count_size (((L.drop k).drop X.2.1).drop Y.2.1)
                      rw [List.length_drop, List.length_drop, List.length_drop] at hvs
                      refine l_call (r_call Try.func40 rfl rfl) ?_
                      refine Calls.mono (readcount_c (cut (ofL L) (k + X.2.1 + Y.2.1)) (by omega) _) ?_
                      rintro e w_ ⟨rfl, rfl⟩
                      refine ⟨_, rfl, ?_⟩
                      rw [hl2]
                      generalize hV : count (((L.drop k).drop X.2.1).drop Y.2.1) = V at *
                      refine l_v (r_move rfl) ?_
                      refine l_v (r_extract rfl rfl) ?_
                      refine l_v (r_extract rfl rfl) ?_
                      refine l_v (r_extract rfl rfl) ?_
                      refine l_v (by first | exact (r_assign (v := iV _) rfl) | exact (r_assign rfl)) ?_
                      refine l_v (by first | exact (r_assign (v := iV _) rfl) | exact (r_assign rfl)) ?_
                      refine l_v (by first | exact (r_assign (v := iV _) rfl) | exact (r_assign rfl)) ?_
                      refine l_nil (nrm_then ?_)
                      refine c_seq ?_
                      refine c_rseq ?_
                      refine l_v (by first | exact (r_move (v := iV _) rfl) | exact (r_move rfl)) ?_
                      refine l_v (r_neqi rfl rfl) ?_
                      refine l_nil (nrm_then ?_)
                      have hs : Eng.Sep w0 w_ (blk b14 [sV (ofL key), sV ByteArray.empty, bV false] 44 :: rowE v xs :: R) := hs
                      refine c_cond rfl (fun h9 => ?_) (fun h9 => ?_)
                      · replace h9 := of_decide_eq_true h9
                        refine c_rseq ?_
                        refine l_v (by first | exact (r_move (v := iV _) rfl) | exact (r_move rfl)) ?_
                        refine l_v (by first | exact (r_assign (v := .slice _ _ _) rfl) | exact (r_assign rfl)) ?_
                        refine l_v (by first | exact (r_assign (v := iV _) rfl) | exact (r_assign rfl)) ?_
                        refine l_nil (nrm_then ?_)
                        rw [if_pos h9] at hE
                        refine c_ret (ret_then (ret_block (ret_then (ret_then (ret_block (ret_then ?_))))))
                        show Fin _ _ _ _ _
                        refine fin2 rfl ?_
                        rw [hfail V.2.2 h9 (by rw [hE]; rfl)]
                        exact ⟨_, rfl, hs.drop.drop.rowNil 44 3⟩
                      · replace h9 := of_decide_eq_false h9
                        refine c_skip (nrm_then ?_)
                        refine c_rseq ?_
                        refine l_v (by first | exact (r_move (v := iV _) rfl) | exact (r_move rfl)) ?_
                        refine l_v (by first | exact (r_move (v := iV _) rfl) | exact (r_move rfl)) ?_
                        refine l_v (r_addi rfl rfl (by omega)) ?_
                        refine l_v (by first | exact (r_assign (v := iV _) rfl) | exact (r_assign rfl)) ?_
                        refine l_nil (nrm_then ?_)
                        refine c_seq ?_
                        refine c_rseq ?_
                        refine l_v (by first | exact (r_move (v := iV _) rfl) | exact (r_move rfl)) ?_
                        refine l_v (r_gtri rfl rfl) ?_
                        refine l_nil (nrm_then ?_)
                        rw [if_neg h9] at hE
                        refine c_cond rfl (fun h10 => ?_) (fun h10 => ?_)
                        · replace h10 := of_decide_eq_true h10
                          refine c_rseq ?_
                          refine l_v (by first | exact (r_assign (v := .slice _ _ _) rfl) | exact (r_assign rfl)) ?_
                          refine l_v (by first | exact (r_assign (v := iV _) rfl) | exact (r_assign rfl)) ?_
                          refine l_nil (nrm_then ?_)
                          rw [if_neg (show ¬ V.1 = 0 by omega), if_pos (by omega)] at hE
                          refine c_ret (ret_then (ret_block (ret_then (ret_then (ret_block (ret_then ?_))))))
                          show Fin _ _ _ _ _
                          refine fin2 rfl ?_
                          rw [hfail 6 (by decide) (by rw [hE]; rfl)]
                          exact ⟨_, rfl, hs.drop.drop.rowNil 44 3⟩
                        · replace h10 := of_decide_eq_false h10
                          refine c_skip (nrm_then ?_)
                          refine c_rseq ?_
                          refine l_v (by first | exact (r_move (v := iV _) rfl) | exact (r_move rfl)) ?_
                          refine l_v (r_eqli rfl rfl) ?_
                          refine l_v (by first | exact (r_fieldAddr0 (off := 2) (T := 4) (by kernel_rfl) rfl) | exact (r_fieldAddr (off := 2) (T := 4) (by kernel_rfl) rfl)) ?_
                          first | refine l_store (i := 0) (v := bV _) hs rfl I4 rfl rfl (by first | (simp; done) | (simp; omega) | omega) ?_ | refine l_store (i := 1) (v := bV _) hs rfl I4 rfl rfl (by first | (simp; done) | (simp; omega) | omega) ?_ | refine l_store (i := 2) (v := bV _) hs rfl I4 rfl rfl (by first | (simp; done) | (simp; omega) | omega) ?_ | refine l_store (i := 3) (v := bV _) hs rfl I4 rfl rfl (by first | (simp; done) | (simp; omega) | omega) ?_ | refine l_store (i := 4) (v := bV _) hs rfl I4 rfl rfl (by first | (simp; done) | (simp; omega) | omega) ?_ | refine l_store (i := 5) (v := bV _) hs rfl I4 rfl rfl (by first | (simp; done) | (simp; omega) | omega) ?_ | refine l_store (i := 6) (v := bV _) hs rfl I4 rfl rfl (by first | (simp; done) | (simp; omega) | omega) ?_
                          intro w_ hs
                          refine l_nil (nrm_then ?_)
                          refine c_seq ?_
                          refine c_rseq ?_
                          refine l_v (by first | exact (r_move (v := iV _) rfl) | exact (r_move rfl)) ?_
                          refine l_v (r_gtri rfl rfl) ?_
                          refine l_nil (nrm_then ?_)
                          refine c_mid [0, 5, 7, 8, 9, 14] (fun f' w' => ∃ (x : Ent) (n' : Nat), entry (lastK xs) (L.drop k) = (x, n', 0) ∧ x.key = key ∧ k + n' ≤ L.length ∧ f' 6 = iV ((k + n' : Nat) : Int) ∧ Eng.Sep w0 w' (blk b14 (entC x) 44 :: rowE v xs :: R)) ?_ ?_
                          · skip
                            refine c_cond rfl (fun h11 => ?_) (fun h11 => ?_)
                            · replace h11 := of_decide_eq_true h11
                              refine c_seq ?_
                              refine c_rseq ?_
                              refine l_v (by first | exact (r_move (v := sV _) rfl) | exact (r_move rfl)) ?_
                              refine l_v (r_len_s Try.underlying9 rfl) ?_
                              refine l_v (by first | exact (r_move (v := iV _) rfl) | exact (r_move rfl)) ?_
                              refine l_v (r_subi rfl rfl (by omega)) ?_
                              refine l_v (by first | exact (r_move (v := iV _) rfl) | exact (r_move rfl)) ?_
                              refine l_v (r_subi rfl rfl (by omega)) ?_
                              refine l_v (r_lssi rfl rfl) ?_
                              refine l_nil (nrm_then ?_)
                              rw [if_neg (show ¬ V.1 = 0 by omega), if_neg (show ¬ 65537 < V.1 by omega)] at hE
                              have hl3 : ((((L.drop k).drop X.2.1).drop Y.2.1).drop V.2.1).length = L.length - (k + X.2.1 + Y.2.1 + V.2.1) := by simp only [List.length_drop]; omega
                              refine c_cond rfl (fun h12 => ?_) (fun h12 => ?_)
                              · replace h12 := of_decide_eq_true h12
                                refine c_rseq ?_
                                refine l_v (by first | exact (r_assign (v := .slice _ _ _) rfl) | exact (r_assign rfl)) ?_
                                refine l_v (by first | exact (r_assign (v := iV _) rfl) | exact (r_assign rfl)) ?_
                                refine l_nil (nrm_then ?_)
                                have hraw : raw ((((L.drop k).drop X.2.1).drop Y.2.1).drop V.2.1) (V.1 - 1) = ([], 0, 2) := by
                                  unfold raw; rw [if_neg (by omega), if_pos (by omega)]
                                rw [hraw, if_pos (by decide)] at hE
                                refine c_ret (ret_then (ret_then (ret_block (ret_then (ret_then (ret_block (ret_then ?_)))))))
                                show Fin _ _ _ _ _
                                refine fin2 rfl ?_
                                rw [hfail 2 (by decide) (by rw [hE]; rfl)]
                                exact ⟨_, rfl, hs.drop.drop.rowNil 44 3⟩
                              · have hraw : raw ((((L.drop k).drop X.2.1).drop Y.2.1).drop V.2.1) (V.1 - 1) = (((((L.drop k).drop X.2.1).drop Y.2.1).drop V.2.1).take (V.1 - 1).toNat, (V.1 - 1).toNat, 0) := by
                                  have h12' := of_decide_eq_false h12
                                  unfold raw; rw [if_neg (by omega), if_neg (by omega)]
                                rw [hraw, if_neg (fun h => h rfl)] at hE
                                replace h12 := of_decide_eq_false h12
                                refine c_skip (nrm_then ?_)
                                refine c_rseq ?_
                                refine l_v (by first | exact (r_move (v := sV _) rfl) | exact (r_move rfl)) ?_
                                refine l_v (by first | exact (r_move (v := iV _) rfl) | exact (r_move rfl)) ?_
                                refine l_v (r_slice_sl ((k : Int) + (X.2.1 : Int) + (Y.2.1 : Int) + (V.2.1 : Int)) Try.underlying9 rfl rfl (by omega)) ?_
                                refine l_v (by first | exact (r_move (v := iV _) rfl) | exact (r_move rfl)) ?_
                                refine l_v (r_subi rfl rfl (by omega)) ?_
                                refine l_v (r_slice_sh (V.1 - 1) Try.underlying9 rfl rfl (by rw [ByteArray.size_extract]; omega)) ?_
                                refine l_v (by first | exact (r_fieldAddr0 (off := 1) (T := 9) (by kernel_rfl) rfl) | exact (r_fieldAddr (off := 1) (T := 9) (by kernel_rfl) rfl)) ?_
                                first | refine l_store (i := 0) (v := sV _) hs rfl I9 rfl rfl (by first | (simp; done) | (simp; omega) | omega) ?_ | refine l_store (i := 1) (v := sV _) hs rfl I9 rfl rfl (by first | (simp; done) | (simp; omega) | omega) ?_ | refine l_store (i := 2) (v := sV _) hs rfl I9 rfl rfl (by first | (simp; done) | (simp; omega) | omega) ?_ | refine l_store (i := 3) (v := sV _) hs rfl I9 rfl rfl (by first | (simp; done) | (simp; omega) | omega) ?_ | refine l_store (i := 4) (v := sV _) hs rfl I9 rfl rfl (by first | (simp; done) | (simp; omega) | omega) ?_ | refine l_store (i := 5) (v := sV _) hs rfl I9 rfl rfl (by first | (simp; done) | (simp; omega) | omega) ?_ | refine l_store (i := 6) (v := sV _) hs rfl I9 rfl rfl (by first | (simp; done) | (simp; omega) | omega) ?_
                                intro w_ hs
                                refine l_nil (nrm_then ?_)
                                refine c_region ?_
                                refine l_v (by first | exact (r_move (v := iV _) rfl) | exact (r_move rfl)) ?_
                                refine l_v (by first | exact (r_move (v := iV _) rfl) | exact (r_move rfl)) ?_
                                refine l_v (r_addi rfl rfl (by omega)) ?_
                                refine l_v (r_subi rfl rfl (by omega)) ?_
                                refine l_v (by first | exact (r_assign (v := iV _) rfl) | exact (r_assign rfl)) ?_
                                refine l_nil (nrm_then ?_)
                                have ev : ((ofL L).extract ((k : Int) + (X.2.1 : Int) + (Y.2.1 : Int) + (V.2.1 : Int)).toNat (ofL L).size).extract 0 (V.1 - 1).toNat = ofL (((((L.drop k).drop X.2.1).drop Y.2.1).drop V.2.1).take (V.1 - 1).toNat) := Eng.toL_inj (by
                                  rw [show ((k : Int) + (X.2.1 : Int) + (Y.2.1 : Int) + (V.2.1 : Int)).toNat = k + X.2.1 + Y.2.1 + V.2.1 by omega, extract_cut, Eng.toL_extract]
                                  show ((L.drop _).drop 0).take _ = List.take _ _
                                  simp only [List.drop_drop, List.drop_zero, Nat.sub_zero, Nat.add_assoc, Nat.add_zero])
                                refine And.intro (by refine ⟨?_, ?_, ?_, ?_, ?_, ?_, trivial⟩ <;> ((conv => lhs; whnf); (try conv => rhs; whnf))) ?_
                                refine ⟨⟨key, ((((L.drop k).drop X.2.1).drop Y.2.1).drop V.2.1).take (V.1 - 1).toNat, false⟩, X.2.1 + Y.2.1 + V.2.1 + (V.1 - 1).toNat, hE, rfl, by omega, congrArg iV (by omega), ?_⟩
                                have hV0 : decide (V.1 = 0) = false := decide_eq_false (by omega)
                                rw [ev, hV0] at hs
                                exact hs
                            · replace h11 := of_decide_eq_false h11
                              refine c_skip (nrm_then ?_)
                              rw [if_pos (show V.1 = 0 by omega)] at hE
                              refine And.intro (by refine ⟨?_, ?_, ?_, ?_, ?_, ?_, trivial⟩ <;> ((conv => lhs; whnf); (try conv => rhs; whnf))) ?_
                              refine ⟨⟨key, [], true⟩, X.2.1 + Y.2.1 + V.2.1, hE, rfl, by omega, congrArg iV (by omega), ?_⟩
                              have hV0 : decide (V.1 = 0) = true := decide_eq_true (by omega)
                              rw [hV0] at hs
                              exact hs
                          · rintro g w_ ⟨x, n', hEx, hxk, hkn, h6, hs⟩
                            show OkC _ _ _ _ _ _
                            refine OkC.env ?_ (fixH (L := [(6, _)]) ⟨h6, trivial⟩)
                            clear h6
                            have hone := ent_one x
                            have hel : (entC x).length = 3 := rfl
                            have hseq : stepE xs (L.drop k) = if notUp xs x.key = true then (x, n', 3) else (x, n', 0) := by
                              unfold stepE
                              rw [hEx]
                              by_cases hu : notUp xs x.key = true
                              · rw [if_pos hu, if_pos ⟨rfl, hu⟩]
                              · rw [if_neg hu, if_neg (fun h => hu h.2)]
                            have hi0 : decide ((i : Int) > 0) = !decide (xs = []) := by
                              rw [← hxi]
                              cases xs with
                              | nil => rfl
                              | cons a l => simp
                            refine c_seq ?_
                            refine c_seq ?_
                            refine c_mid [0, 2, 3, 5, 6, 7, 8, 9, 14] (fun f' w' => w' = w_ ∧ f' 142 = bV (notUp xs x.key)) ?_ ?_
                            · refine c_region ?_
                              refine l_v (by first | exact (r_move (v := iV _) rfl) | exact (r_move rfl)) ?_
                              refine l_v (r_gtri rfl rfl) ?_
                              rcases Bool.eq_false_or_eq_true (!decide (xs = [])) with hq | hq
                              · have f1 := hi0.trans hq
                                refine l_v (by first | exact (r_move (v := bV _) rfl) | exact (r_move rfl)) ?_
                                refine l_vg (by first | exact (r_fieldAddr0 (off := 0) (T := 9) (by kernel_rfl) rfl) | exact (r_fieldAddr (off := 0) (T := 9) (by kernel_rfl) rfl)) rfl (f1) ?_
                                refine l_vg (by first | exact (r_load_at (i := 0) hs rfl Try.underlying9 rfl rfl) | exact (r_load_at (i := 1) hs rfl Try.underlying9 rfl rfl) | exact (r_load_at (i := 2) hs rfl Try.underlying9 rfl rfl) | exact (r_load_at (i := 3) hs rfl Try.underlying9 rfl rfl) | exact (r_load_at (i := 4) hs rfl Try.underlying9 rfl rfl) | exact (r_load_at (i := 5) hs rfl Try.underlying9 rfl rfl) | exact (r_load_at (i := 6) hs rfl Try.underlying9 rfl rfl)) rfl (f1) ?_
                                refine l_vg (by first | exact (r_move (v := sV _) rfl) | exact (r_move rfl)) rfl (f1) ?_
                                refine l_vg (r_leqs rfl rfl) rfl (f1) ?_
                                refine l_v (r_pick_t rfl f1 rfl) ?_
                                refine l_nil (nrm_then ?_)
                                refine And.intro (by refine ⟨?_, ?_, ?_, ?_, ?_, ?_, ?_, ?_, ?_, trivial⟩ <;> ((conv => lhs; whnf); (try conv => rhs; whnf))) ?_
                                exact ⟨rfl, congrArg bV (by unfold notUp; rw [hq, Bool.true_and])⟩
                              · have f1 := hi0.trans hq
                                refine l_v (by first | exact (r_move (v := bV _) rfl) | exact (r_move rfl)) ?_
                                refine l_no rfl (f1) ?_
                                refine l_no rfl (f1) ?_
                                refine l_no rfl (f1) ?_
                                refine l_no rfl (f1) ?_
                                refine l_v (r_pick_f rfl f1 rfl) ?_
                                refine l_nil (nrm_then ?_)
                                refine And.intro (by refine ⟨?_, ?_, ?_, ?_, ?_, ?_, ?_, ?_, ?_, trivial⟩ <;> ((conv => lhs; whnf); (try conv => rhs; whnf))) ?_
                                exact ⟨rfl, congrArg bV (by unfold notUp; rw [hq, Bool.false_and])⟩
                            · rintro g w_ ⟨rfl, h142⟩
                              show OkC _ _ _ _ _ _
                              refine OkC.env ?_ (fixH (L := [(142, _)]) ⟨h142, trivial⟩)
                              clear h142
                              rcases Bool.eq_false_or_eq_true (notUp xs x.key) with hq | hq
                              · rw [if_pos hq] at hseq
                                rw [hseq, if_neg (fun h : (3 : Int) = 0 => by cases h)] at hta
                                refine c_true rfl (hq) ?_
                                refine c_rseq ?_
                                refine l_v (by first | exact (r_assign (v := .slice _ _ _) rfl) | exact (r_assign rfl)) ?_
                                refine l_v (by first | exact (r_assign (v := iV _) rfl) | exact (r_assign rfl)) ?_
                                refine l_nil (nrm_then ?_)
                                refine c_ret (ret_then (ret_block (ret_then (ret_then (ret_block (ret_then ?_))))))
                                show Fin _ _ _ _ _
                                refine fin2 rfl ?_
                                rw [hOL, hta]
                                exact ⟨_, rfl, hs.drop.drop.rowNil 44 3⟩
                              · rw [if_neg (by rw [hq]; decide)] at hseq
                                rw [hseq, if_pos rfl, List.drop_drop] at hta
                                refine c_false rfl (hq) ?_
                                refine c_skip (nrm_then ?_)
                                refine c_rseq ?_
                                refine l_v (by first | exact (r_fieldAddr0 (off := 0) (T := 9) (by kernel_rfl) rfl) | exact (r_fieldAddr (off := 0) (T := 9) (by kernel_rfl) rfl)) ?_
                                refine l_v (by first | exact (r_load_at (i := 0) hs rfl Try.underlying9 rfl rfl) | exact (r_load_at (i := 1) hs rfl Try.underlying9 rfl rfl) | exact (r_load_at (i := 2) hs rfl Try.underlying9 rfl rfl) | exact (r_load_at (i := 3) hs rfl Try.underlying9 rfl rfl) | exact (r_load_at (i := 4) hs rfl Try.underlying9 rfl rfl) | exact (r_load_at (i := 5) hs rfl Try.underlying9 rfl rfl) | exact (r_load_at (i := 6) hs rfl Try.underlying9 rfl rfl)) ?_
                                refine l_v (by first | exact (r_assign (v := sV _) rfl) | exact (r_assign rfl)) ?_
                                refine l_nil (nrm_then ?_)
                                refine c_region ?_
                                refine l_v (by first | exact (r_move (v := .slice _ _ _) rfl) | exact (r_move rfl)) ?_
                                have hs := hs.pull 1
                                refine l_v (r_load_whole (i := 1) hs rfl Try.underlying44 I44 rfl hel) ?_
                                refine l_lit [.agg (entC x).toArray] hs Try.underlying22 I44 rfl (by intro u hu; rw [List.mem_singleton.1 hu]; exact hel) (by decide) rfl (by decide) (by decide) ?_
                                intro b147 w147 hs hB147 hlt147
                                have e1 : ([Value.agg (entC x).toArray].flatMap fun v => v.cells.toList) = entC x := by simp [Value.cells]
                                rw [e1] at hs
                                refine l_append_lit Try.underlying22 I44 (by kernel_rfl) (by decide) rfl rfl hs hel hone (by omega) (by omega) ?_
                                intro v148 w148 hs
                                have hs := rowE_app hs
                                refine l_v (by first | exact (r_assign (v := .slice _ _ _) rfl) | exact (r_assign rfl)) ?_
                                refine l_nil (nrm_block (nrm_then ?_))
                                refine c_region ?_
                                refine l_v (by first | exact (r_move (v := iV _) rfl) | exact (r_move rfl)) ?_
                                refine l_v (r_addi rfl rfl (by omega)) ?_
                                refine l_v (by first | exact (r_assign (v := iV _) rfl) | exact (r_assign rfl)) ?_
                                refine l_nil (nrm_then ?_)
                                have hs : Eng.Sep w0 w148 (rowE v148 (xs ++ [x]) :: blk b14 (entC x) 44 :: R) := hs
                                have hs := (hs.pull 1).drop
                                have hnp : 1 ≤ n' := by
                                  have h := @stepE_pos xs (L.drop k)
                                  rw [hseq] at h
                                  exact (h rfl).1
                                have hkl2 : x.key.length ≤ 65536 := by
                                  have h := @stepE_pos xs (L.drop k)
                                  rw [hseq] at h
                                  exact (h rfl).2.2
                                refine And.intro (by refine ⟨?_, ?_, trivial⟩ <;> ((conv => lhs; whnf); (try conv => rhs; whnf))) ?_
                                exact ⟨L.length - (k + n'), by omega, i + 1, v148, xs ++ [x], k + n', rfl, rfl, congrArg (fun l => sV (ofL l)) (lastK_next xs x).symm, rfl, hs, by rw [List.length_append, hxi]; rfl, hkn, by omega, by rw [lastK_next]; exact hkl2, rfl, by omega, hta⟩
        · have hin : i = C.1.toNat := by have := of_decide_eq_false h3; omega
          rw [hin, Nat.sub_self, takeE] at hta
          obtain ⟨A, c, rfl, hc⟩ := hs.rowForm
          replace h3 := of_decide_eq_false h3
          refine c_exit (ex_then (ex_then (ex_hit (nrm_then ?_))))
          refine c_seq ?_
          refine c_rseq ?_
          refine l_v (by first | exact (r_move (v := .slice _ _ _) rfl) | exact (r_move rfl)) ?_
          refine l_v (r_len_l Try.underlying22 rfl) ?_
          refine l_v (r_gtri rfl rfl) ?_
          refine l_nil (nrm_then ?_)
          refine c_cond rfl (fun h13 => ?_) (fun h13 => ?_)
          · replace h13 := of_decide_eq_true h13
            refine c_rseq ?_
            refine l_v (by first | exact (r_assign (v := .slice _ _ _) rfl) | exact (r_assign rfl)) ?_
            refine l_v (by first | exact (r_assign (v := iV _) rfl) | exact (r_assign rfl)) ?_
            refine l_nil (nrm_then ?_)
            refine c_ret (ret_then ?_)
            show Fin _ _ _ _ _
            refine fin2 rfl ?_
            rw [hOL, hta, if_neg (fun h => h rfl), if_pos (by show 65536 < xs.length; omega)]
            exact ⟨_, rfl, hs.drop.rowNil 44 3⟩
          · rw [hta, if_neg (fun h => h rfl), if_neg (by have := of_decide_eq_false h13; show ¬ 65536 < xs.length; omega)] at hOL
            replace h13 := of_decide_eq_false h13
            refine c_skip (nrm_then ?_)
            refine c_seq ?_
            refine c_rseq ?_
            refine l_v (by first | exact (r_move (v := iV _) rfl) | exact (r_move rfl)) ?_
            refine l_v (by first | exact (r_move (v := sV _) rfl) | exact (r_move rfl)) ?_
            refine l_v (r_len_s Try.underlying9 rfl) ?_
            refine l_v (r_lssi rfl rfl) ?_
            refine l_nil (nrm_then ?_)
            refine c_cond rfl (fun h14 => ?_) (fun h14 => ?_)
            · replace h14 := of_decide_eq_true h14
              refine c_rseq ?_
              refine l_v (by first | exact (r_assign (v := .slice _ _ _) rfl) | exact (r_assign rfl)) ?_
              refine l_v (by first | exact (r_assign (v := iV _) rfl) | exact (r_assign rfl)) ?_
              refine l_nil (nrm_then ?_)
              refine c_ret (ret_then ?_)
              show Fin _ _ _ _ _
              refine fin2 rfl ?_
              rw [hOL, if_pos (by show k < L.length; omega)]
              exact ⟨_, rfl, hs.drop.rowNil 44 3⟩
            · rw [if_neg (by have := of_decide_eq_false h14; show ¬ k < L.length; omega)] at hOL
              replace h14 := of_decide_eq_false h14
              refine c_skip (nrm_then ?_)
              refine c_rseq ?_
              refine l_v (by first | exact (r_move (v := .slice _ _ _) rfl) | exact (r_move rfl)) ?_
              refine l_v (by first | exact (r_assign (v := .slice _ _ _) rfl) | exact (r_assign rfl)) ?_
              refine l_v (by first | exact (r_assign (v := iV _) rfl) | exact (r_assign rfl)) ?_
              refine l_nil (nrm_then ?_)
              refine c_ret ?_
              show Fin _ _ _ _ _
              refine fin2 rfl ?_
              rw [hOL]
              exact ⟨_, rfl, hs⟩
end Go.Proofs.Ytfjnjnkmkbbjoaa.Blk
