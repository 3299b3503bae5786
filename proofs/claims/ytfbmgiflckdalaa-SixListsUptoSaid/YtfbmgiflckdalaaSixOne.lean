/- The walks of awake and of the law SixOne. -/
import Derived.Test.YtfbmgiflckdalaaSixRm
import Derived.Test.YtfbmgiflckdalaaSixWr
namespace Go.Proofs.Ytfbmgiflckdalaa.Six
open Go Go.RowKit Go.Proofs.Ytfbmgiflckdalaa.Eng
set_option linter.unusedVariables false
set_option maxRecDepth 100000
theorem enc_small (m x : Nat) (h : x < 64) : enc m x = [UInt8.ofNat (m + x)] := by
  unfold enc
  rw [show x / 64 = 0 by omega, high_zero, Nat.mod_eq_of_lt h]; rfl
theorem awake_bytes : [] ++ enc (UInt8.toNat 64) (Int.toNat 64) ++ encW (-65) ++ encT (toL (⟨#[97, 98]⟩ : ByteArray)) = [1, 64, 1, 128, 66, 97, 98] := by
  have e1 : enc (UInt8.toNat 64) (Int.toNat 64) = [1, 64] := by
    show enc 64 64 = _
    unfold enc
    rw [show 64 / 64 = 1 by rfl, high_pos (by decide), show 1 / 64 = 0 by rfl, high_zero]; rfl
  have e2 : encW (-65) = [1, 128] := by
    unfold encW
    rw [if_pos (by decide), show (-(-65 + 1) : Int).toNat = 64 by rfl]
    unfold enc
    rw [show 64 / 64 = 1 by rfl, high_pos (by decide), show 1 / 64 = 0 by rfl, high_zero]; rfl
  have e3 : encT (toL (⟨#[97, 98]⟩ : ByteArray)) = [66, 97, 98] := by
    unfold encT
    rw [show (toL (⟨#[97, 98]⟩ : ByteArray)).length = 2 by rfl, enc_small _ _ (by decide)]; rfl
  rw [e1, e2, e3]; rfl
theorem whole_fail {l : List UInt8} (h : ¬ (whole l).2.2 = 0) : (whole l).2.1 = 0 := by
  unfold whole at *
  split
  · rename_i h0; rw [if_pos h0] at h; exact absurd rfl h
  · rfl
theorem text_fail {l : List UInt8} (h : ¬ (text l).2.2 = 0) : (text l).2.1 = 0 := by
  unfold text at *
  split
  · rename_i h0
    rw [if_pos h0] at h
    split
    · rename_i h1; rw [if_pos h1] at h; exact absurd rfl h
    · rfl
  · rfl
theorem whole_bound (l : List UInt8) : -9223372036854775808 ≤ (whole l).1 ∧ (whole l).1 ≤ 9223372036854775807 := by
  have := num_bound l 0 0
  unfold whole
  split
  · split <;> (dsimp only; omega)
  · dsimp only; omega
theorem text_len (l : List UInt8) : (text l).1.length ≤ l.length := by
  unfold text
  split
  · split
    · unfold raw
      split
      · simp
      · split
        · simp
        · dsimp only; rw [List.length_take, List.length_drop]; omega
    · simp
  · simp
set_option maxHeartbeats 2000000 in
theorem awake_c (w : World) :
    Calls Try.prog 10 #[] w fun e w' => e = .returned (bV true) ∧ Below w.heap.size w w' := by
  refine enter (P := Try.prog) Try.func10 rfl rfl ?_
  have hs := Sep.init w
  refine c_rseq ?_
  refine l_v (by first | exact (r_assign (v := bV _) rfl) | exact (r_assign rfl)) ?_
  refine l_nil (nrm_then ?_)
  refine c_rseq ?_
  refine l_call (r_call Try.func14 rfl rfl) ?_
  refine Calls.mono (new_c w _ _ hs) ?_
  rintro e w_ ⟨b1, rfl, hs⟩
  refine ⟨_, rfl, ?_⟩
  refine l_v (r_assign (v := .pointer _) rfl) ?_
  refine l_nil (nrm_then ?_)
  refine c_seq ?_
  refine c_rseq ?_
  refine l_v (r_move (v := .pointer _) rfl) ?_
  refine l_call (r_call Try.func20 rfl rfl) ?_
  refine Calls.mono (wcount_c 64 (by decide) [] (by decide) b1 w _ _ hs) ?_
  rintro e w_ ⟨rfl, hs⟩
  refine ⟨_, rfl, ?_⟩
  rw [if_neg (by decide)] at hs
  refine l_v (r_neqi rfl rfl) ?_
  refine l_v (by first | exact (r_move (v := bV _) rfl) | exact (r_move rfl)) ?_
  refine l_vg (r_move (v := .pointer _) rfl) rfl (rfl) ?_
  refine l_callg (r_call Try.func15 rfl rfl) rfl (rfl) ?_
  refine Calls.mono (wwhole_c (-65) (by decide) _ (by rw [List.length_append]; have := enc_len 64 (Int.toNat 64) (by decide); simp only [List.length_nil]; omega) b1 w _ _ hs) ?_
  rintro e w_ ⟨rfl, hs⟩
  refine ⟨_, rfl, ?_⟩
  refine l_vg (r_neqi rfl rfl) rfl (rfl) ?_
  refine l_v (r_pick_f rfl rfl rfl) ?_
  refine l_v (by first | exact (r_move (v := bV _) rfl) | exact (r_move rfl)) ?_
  refine l_vg (r_move (v := .pointer _) rfl) rfl (rfl) ?_
  refine l_callg (r_call Try.func16 rfl rfl) rfl (rfl) ?_
  refine Calls.mono (wtext_c (⟨#[97, 98]⟩ : ByteArray) _ (by rw [List.length_append, List.length_append]; have := enc_len 64 (Int.toNat 64) (by decide); have := encW_len (-65) (by decide); simp only [List.length_nil]; show _ + 11 + 2 ≤ _; omega) b1 w _ _ hs) ?_
  rintro e w_ ⟨rfl, hs⟩
  refine ⟨_, rfl, ?_⟩
  have hs : Sep w _ [wtr b1 ([] ++ enc (UInt8.toNat 64) (Int.toNat 64) ++ encW (-65) ++ encT (toL (⟨#[97, 98]⟩ : ByteArray)))] := hs
  rw [awake_bytes] at hs
  refine l_vg (r_neqi rfl rfl) rfl (rfl) ?_
  refine l_v (r_pick_f rfl rfl rfl) ?_
  refine l_nil (nrm_then ?_)
  refine c_false rfl (rfl) ?_
  refine c_skip (nrm_then ?_)
  refine c_rseq ?_
  refine l_v (r_move (v := .pointer _) rfl) ?_
  refine l_call (r_call Try.func17 rfl rfl) ?_
  refine Calls.mono (bytes_c _ b1 w _ _ hs) ?_
  rintro e w_ ⟨rfl, rfl⟩
  refine ⟨_, rfl, ?_⟩
  refine l_call (r_call Try.func9 rfl rfl) ?_
  refine Calls.mono (over_c _ w _ _ hs) ?_
  rintro e w_ ⟨b2, rfl, hs⟩
  refine ⟨_, rfl, ?_⟩
  refine l_v (r_assign (v := .pointer _) rfl) ?_
  refine l_nil (nrm_then ?_)
  refine c_rseq ?_
  refine l_v (r_move (v := .pointer _) rfl) ?_
  refine l_call (r_call Try.func30 rfl rfl) ?_
  refine Calls.mono (count_c _ (by decide) b2 w _ _ hs) ?_
  rintro e w_ ⟨rfl, hs⟩
  refine ⟨_, rfl, ?_⟩
  refine l_v (r_move rfl) ?_
  refine l_v (r_extract rfl rfl) ?_
  refine l_v (r_extract rfl rfl) ?_
  refine l_v (by first | exact (r_assign (v := iV _) rfl) | exact (r_assign rfl)) ?_
  refine l_v (by first | exact (r_assign (v := iV _) rfl) | exact (r_assign rfl)) ?_
  refine l_nil (nrm_then ?_)
  refine c_rseq ?_
  refine l_v (r_move (v := .pointer _) rfl) ?_
  refine l_call (r_call Try.func18 rfl rfl) ?_
  refine Calls.mono (whole_c _ (by decide) b2 w _ _ hs) ?_
  rintro e w_ ⟨rfl, hs⟩
  refine ⟨_, rfl, ?_⟩
  refine l_v (r_move rfl) ?_
  refine l_v (r_extract rfl rfl) ?_
  refine l_v (r_extract rfl rfl) ?_
  refine l_v (by first | exact (r_assign (v := iV _) rfl) | exact (r_assign rfl)) ?_
  refine l_v (by first | exact (r_assign (v := iV _) rfl) | exact (r_assign rfl)) ?_
  refine l_nil (nrm_then ?_)
  refine c_rseq ?_
  refine l_v (r_move (v := .pointer _) rfl) ?_
  refine l_call (r_call Try.func19 rfl rfl) ?_
  refine Calls.mono (text_c _ (by decide) b2 w _ _ hs) ?_
  rintro e w_ ⟨rfl, hs⟩
  refine ⟨_, rfl, ?_⟩
  refine l_v (r_move rfl) ?_
  refine l_v (r_extract rfl rfl) ?_
  refine l_v (r_extract rfl rfl) ?_
  refine l_v (by first | exact (r_assign (v := sV _) rfl) | exact (r_assign rfl)) ?_
  refine l_v (by first | exact (r_assign (v := iV _) rfl) | exact (r_assign rfl)) ?_
  refine l_nil (nrm_then ?_)
  refine c_rseq ?_
  refine l_v (r_move (v := .pointer _) rfl) ?_
  refine l_call (r_call Try.func17 rfl rfl) ?_
  refine Calls.mono (bytes_c _ b1 w _ _ (hs.pull 1)) ?_
  rintro e w_ ⟨rfl, rfl⟩
  refine ⟨_, rfl, ?_⟩
  refine l_v (r_eqls rfl rfl) ?_
  refine l_v (by first | exact (r_move (v := bV _) rfl) | exact (r_move rfl)) ?_
  refine l_vg (by first | exact (r_move (v := iV _) rfl) | exact (r_move rfl)) rfl (rfl) ?_
  refine l_vg (r_eqli rfl rfl) rfl (rfl) ?_
  refine l_v (r_pick_t rfl rfl rfl) ?_
  refine l_v (by first | exact (r_move (v := bV _) rfl) | exact (r_move rfl)) ?_
  refine l_vg (by first | exact (r_move (v := iV _) rfl) | exact (r_move rfl)) rfl (rfl) ?_
  refine l_vg (r_eqli rfl rfl) rfl (rfl) ?_
  refine l_v (r_pick_t rfl rfl rfl) ?_
  refine l_v (by first | exact (r_move (v := bV _) rfl) | exact (r_move rfl)) ?_
  refine l_vg (by first | exact (r_move (v := iV _) rfl) | exact (r_move rfl)) rfl (rfl) ?_
  refine l_vg (r_eqli rfl rfl) rfl (rfl) ?_
  refine l_v (r_pick_t rfl rfl rfl) ?_
  refine l_v (by first | exact (r_move (v := bV _) rfl) | exact (r_move rfl)) ?_
  refine l_vg (by first | exact (r_move (v := iV _) rfl) | exact (r_move rfl)) rfl (rfl) ?_
  refine l_vg (r_eqli rfl rfl) rfl (rfl) ?_
  refine l_v (r_pick_t rfl rfl rfl) ?_
  refine l_v (by first | exact (r_move (v := bV _) rfl) | exact (r_move rfl)) ?_
  refine l_vg (by first | exact (r_move (v := sV _) rfl) | exact (r_move rfl)) rfl (rfl) ?_
  refine l_vg (r_eqls rfl rfl) rfl (rfl) ?_
  refine l_v (r_pick_t rfl rfl rfl) ?_
  refine l_v (by first | exact (r_move (v := bV _) rfl) | exact (r_move rfl)) ?_
  refine l_vg (by first | exact (r_move (v := iV _) rfl) | exact (r_move rfl)) rfl (rfl) ?_
  refine l_vg (r_eqli rfl rfl) rfl (rfl) ?_
  refine l_v (r_pick_t rfl rfl rfl) ?_
  refine l_v (by first | exact (r_move (v := bV _) rfl) | exact (r_move rfl)) ?_
  refine l_vg (r_move (v := .pointer _) rfl) rfl (rfl) ?_
  refine l_callg (r_call Try.func13 rfl rfl) rfl (rfl) ?_
  refine Calls.mono (end_c _ b2 w _ _ hs) ?_
  rintro e w_ ⟨rfl, rfl⟩
  refine ⟨_, rfl, ?_⟩
  refine l_vg (r_eqli rfl rfl) rfl (rfl) ?_
  refine l_v (r_pick_t rfl rfl rfl) ?_
  refine l_v (by first | exact (r_assign (v := bV _) rfl) | exact (r_assign rfl)) ?_
  refine l_nil (nrm_then ?_)
  refine c_ret ?_
  show Fin _ _ _ _ _
  refine fin1 rfl ?_
  exact ⟨rfl, hs.below⟩
theorem whole_again (s : ByteArray) : ofL (if (whole (toL s)).2.2 = 0 then encW (whole (toL s)).1 else []) ++ cut s (whole (toL s)).2.1 = s := by
  apply toL_inj
  rw [toL_append, toL_ofL, toL_cut]
  split
  · rename_i h
    rw [← whole_canon h, List.take_append_drop]
  · rename_i h
    rw [whole_fail h]; rfl
theorem text_again (s : ByteArray) : ofL (if (text (toL s)).2.2 = 0 then encT (text (toL s)).1 else []) ++ cut s (text (toL s)).2.1 = s := by
  apply toL_inj
  rw [toL_append, toL_ofL, toL_cut]
  split
  · rename_i h
    unfold encT
    rw [← (text_canon h).1, List.take_append_drop]
  · rename_i h
    rw [text_fail h]; rfl
set_option maxHeartbeats 4000000 in
theorem sixOne_walk (s : ByteArray) (hz : s.size ≤ 140737488351232) (A : Option Addr) (c : Nat) (ks : List UInt8) {w : World} (hr : Rd w 1 A ks.length (ks.map u8V)) (hc : ks.length ≤ c) :
    Calls Try.prog 5 #[sV s, .slice A ks.length c] w fun e w' => e = .returned (bV true) ∧ Below w.heap.size w w' := by
  have hn := hr.2.1
  refine enter (P := Try.prog) Try.func5 rfl rfl ?_
  have hs := Sep.init w
  refine c_rseq ?_
  refine l_v (by first | exact (r_assign (v := bV _) rfl) | exact (r_assign rfl)) ?_
  refine l_nil (nrm_then ?_)
  refine c_rseq ?_
  refine l_v (by first | exact (r_move (v := sV _) rfl) | exact (r_move rfl)) ?_
  refine l_call (r_call Try.func9 rfl rfl) ?_
  refine Calls.mono (over_c s w _ _ hs) ?_
  rintro e w_ ⟨b5, rfl, hs⟩
  refine ⟨_, rfl, ?_⟩
  refine l_v (r_assign (v := .pointer _) rfl) ?_
  refine l_nil (nrm_then ?_)
  refine c_seq ?_
  refine c_rseq ?_
  refine l_call (r_call Try.func10 rfl rfl) ?_
  refine Calls.mono (awake_c _) ?_
  rintro e w_ ⟨rfl, hb⟩
  refine ⟨_, rfl, ?_⟩
  have hs := hs.below_ hb
  refine l_v (r_not rfl) ?_
  refine l_v (by first | exact (r_move (v := bV _) rfl) | exact (r_move rfl)) ?_
  refine l_vg (r_move (v := .pointer _) rfl) rfl (rfl) ?_
  refine l_vg (by first | exact (r_eqlp_some Try.underlying23 rfl rfl) | exact (r_eqlp_none Try.underlying23 rfl rfl)) rfl (rfl) ?_
  refine l_v (r_pick_f rfl rfl rfl) ?_
  refine l_nil (nrm_then ?_)
  refine c_false rfl (rfl) ?_
  refine c_skip (nrm_then ?_)
  refine c_seq ?_
  refine c_rseq ?_
  refine l_v (by first | exact (r_assign (v := iV _) rfl) | exact (r_assign rfl)) ?_
  refine l_nil (nrm_then ?_)
  refine c_block ?_
  refine c_loopn [1, 5] (fun m f' w' => ∃ i s', i + m = ks.length ∧ f' 6 = iV (i : Int) ∧ s'.size ≤ s.size ∧ Sep w w' [rdr b5 s']) ?_ ?_
  · exact ⟨ks.length, 0, s, by omega, rfl, Nat.le_refl _, hs⟩
  · rintro m g w_ ⟨i, s', hi, h6, hs', hs⟩
    refine OkC.env ?_ (fixH (L := [(6, _)]) ⟨h6, trivial⟩)
    clear h6
    refine c_seq ?_
    refine c_rseq ?_
    refine l_v (by first | exact (r_move (v := iV _) rfl) | exact (r_move rfl)) ?_
    refine l_v (by first | exact (r_move (v := .slice _ _ _) rfl) | exact (r_move rfl)) ?_
    refine l_v (r_len_l Try.underlying22 rfl) ?_
    refine l_v (r_lssi rfl rfl) ?_
    by_cases hin : (i : Int) < (ks.length : Int)
    · have f1 : decide ((i : Int) < (ks.length : Int)) = true := decide_eq_true hin
      refine l_v (by first | exact (r_move (v := bV _) rfl) | exact (r_move rfl)) ?_
      refine l_vg (by first | exact (r_move (v := iV _) rfl) | exact (r_move rfl)) rfl (f1) ?_
      refine l_vg (r_lssi rfl rfl) rfl (f1) ?_
      refine l_v (r_pick_t rfl f1 rfl) ?_
      refine l_nil (nrm_then ?_)
      refine c_cond rfl (fun h3 => ?_) (fun h3 => ?_)
      · replace h3 := of_decide_eq_true h3
        refine c_skip (nrm_then ?_)
        refine c_seq ?_
        refine c_block ?_
        refine c_rseq ?_
        refine l_v (r_move (v := .pointer _) rfl) ?_
        refine l_call (r_call Try.func11 rfl rfl) ?_
        refine Calls.mono (rest_c s' b5 w _ _ hs) ?_
        rintro e w_ ⟨rfl, rfl⟩
        refine ⟨_, rfl, ?_⟩
        refine l_v (by first | exact (r_assign (v := sV _) rfl) | exact (r_assign rfl)) ?_
        refine l_nil (nrm_then ?_)
        refine c_rseq ?_
        refine l_call (r_call Try.func14 rfl rfl) ?_
        refine Calls.mono (new_c w _ _ hs) ?_
        rintro e w_ ⟨b8, rfl, hs⟩
        refine ⟨_, rfl, ?_⟩
        have hik : i < ks.length := by omega
        obtain ⟨ad, rfl, hcell⟩ := hr.ad (by omega)
        have hld := hcell i (u8V ks[i]) (by simp [hik])
        have hld := (hs.below.cell (World.block_lt_of_cell? _ _ hld)).trans hld
        refine l_v (r_assign (v := .pointer _) rfl) ?_
        refine l_nil (nrm_then ?_)
        refine c_seq ?_
        refine c_rseq ?_
        refine l_v (by first | exact (r_move (v := .slice _ _ _) rfl) | exact (r_move rfl)) ?_
        refine l_v (by first | exact (r_move (v := iV _) rfl) | exact (r_move rfl)) ?_
        refine l_v (by first | exact (r_indexAddr_o1 Try.underlying22 I5 rfl rfl (by omega)) | exact (r_indexAddr_l1 Try.underlying22 I5 rfl rfl (by omega)) | exact (r_indexAddr_l Try.underlying22 I5 rfl rfl (by omega))) ?_
        refine l_v (r_load Try.underlying5 rfl hld) ?_
        refine l_v (r_rem8 (b := 2) rfl rfl (by first | decide | omega)) ?_
        refine l_v (r_eql8 (b := 0) rfl rfl) ?_
        refine l_nil (nrm_then ?_)
        refine c_mid [1, 4, 5, 6, 7, 8] ((fun f' w' => ∃ l s2, ofL l ++ s2 = s' ∧ Sep w w' [wtr b8 l, rdr b5 s2])) ?_ ?_
        · skip
          have hz' : s'.size ≤ 9223372036854775807 := by omega
          refine c_cond rfl (fun h4 => ?_) (fun h4 => ?_)
          · replace h4 := of_decide_eq_true h4
            refine c_rseq ?_
            refine l_v (r_move (v := .pointer _) rfl) ?_
            refine l_call (r_call Try.func18 rfl rfl) ?_
            refine Calls.mono (whole_c s' hz' b5 w _ _ (hs.pull 1)) ?_
            rintro e w_ ⟨rfl, hs⟩
            refine ⟨_, rfl, ?_⟩
            have hag := whole_again s'
            refine l_v (r_move rfl) ?_
            refine l_v (r_extract rfl rfl) ?_
            refine l_v (r_extract rfl rfl) ?_
            refine l_v (by first | exact (r_assign (v := iV _) rfl) | exact (r_assign rfl)) ?_
            refine l_v (by first | exact (r_assign (v := iV _) rfl) | exact (r_assign rfl)) ?_
            refine l_nil (nrm_then ?_)
            refine c_rseq ?_
            refine l_v (by first | exact (r_move (v := iV _) rfl) | exact (r_move rfl)) ?_
            refine l_v (r_eqli rfl rfl) ?_
            refine l_nil (nrm_then ?_)
            refine c_cond rfl (fun h5 => ?_) (fun h5 => ?_)
            · replace h5 := of_decide_eq_true h5
              refine c_region ?_
              refine l_v (r_move (v := .pointer _) rfl) ?_
              refine l_v (by first | exact (r_move (v := iV _) rfl) | exact (r_move rfl)) ?_
              refine l_call (r_call Try.func15 rfl rfl) ?_
              refine Calls.mono (wwhole_c _ (whole_bound _) [] (by decide) b8 w _ _ (hs.pull 1)) ?_
              rintro e w_ ⟨rfl, hs⟩
              refine ⟨_, rfl, ?_⟩
              rw [if_pos h5] at hag
              refine l_nil (nrm_then ?_)
              refine And.intro (by refine ⟨?_, ?_, ?_, ?_, ?_, ?_, trivial⟩ <;> ((conv => lhs; whnf); (try conv => rhs; whnf))) ?_
              exact ⟨_, _, hag, hs⟩
            · replace h5 := of_decide_eq_false h5
              refine c_skip (nrm_then ?_)
              rw [if_neg h5] at hag
              refine And.intro (by refine ⟨?_, ?_, ?_, ?_, ?_, ?_, trivial⟩ <;> ((conv => lhs; whnf); (try conv => rhs; whnf))) ?_
              exact ⟨_, _, hag, hs.pull 1⟩
          · replace h4 := of_decide_eq_false h4
            refine c_rseq ?_
            refine l_v (r_move (v := .pointer _) rfl) ?_
            refine l_call (r_call Try.func19 rfl rfl) ?_
            refine Calls.mono (text_c s' hz' b5 w _ _ (hs.pull 1)) ?_
            rintro e w_ ⟨rfl, hs⟩
            refine ⟨_, rfl, ?_⟩
            have hag := text_again s'
            have htl := text_len (toL s')
            have hts := toL_size s'
            refine l_v (r_move rfl) ?_
            refine l_v (r_extract rfl rfl) ?_
            refine l_v (r_extract rfl rfl) ?_
            refine l_v (by first | exact (r_assign (v := sV _) rfl) | exact (r_assign rfl)) ?_
            refine l_v (by first | exact (r_assign (v := iV _) rfl) | exact (r_assign rfl)) ?_
            refine l_nil (nrm_then ?_)
            refine c_rseq ?_
            refine l_v (by first | exact (r_move (v := iV _) rfl) | exact (r_move rfl)) ?_
            refine l_v (r_eqli rfl rfl) ?_
            refine l_nil (nrm_then ?_)
            refine c_cond rfl (fun h5 => ?_) (fun h5 => ?_)
            · replace h5 := of_decide_eq_true h5
              refine c_region ?_
              refine l_v (r_move (v := .pointer _) rfl) ?_
              refine l_v (by first | exact (r_move (v := sV _) rfl) | exact (r_move rfl)) ?_
              refine l_call (r_call Try.func16 rfl rfl) ?_
              refine Calls.mono (wtext_c (ofL (text (toL s')).1) [] (by show 0 + 11 + (text (toL s')).1.length ≤ _; omega) b8 w _ _ (hs.pull 1)) ?_
              rintro e w_ ⟨rfl, hs⟩
              refine ⟨_, rfl, ?_⟩
              rw [if_pos h5] at hag
              refine l_nil (nrm_then ?_)
              refine And.intro (by refine ⟨?_, ?_, ?_, ?_, ?_, ?_, trivial⟩ <;> ((conv => lhs; whnf); (try conv => rhs; whnf))) ?_
              exact ⟨_, _, hag, hs⟩
            · replace h5 := of_decide_eq_false h5
              refine c_skip (nrm_then ?_)
              rw [if_neg h5] at hag
              refine And.intro (by refine ⟨?_, ?_, ?_, ?_, ?_, ?_, trivial⟩ <;> ((conv => lhs; whnf); (try conv => rhs; whnf))) ?_
              exact ⟨_, _, hag, hs.pull 1⟩
        · rintro g w_ ⟨l, s2, hag, hs⟩
          show OkC _ _ _ _ _ _
          have hsum : (ofL l).size + s2.size = s'.size := by rw [← ByteArray.size_append, hag]
          refine c_rseq ?_
          refine l_v (r_move (v := .pointer _) rfl) ?_
          refine l_call (r_call Try.func17 rfl rfl) ?_
          refine Calls.mono (bytes_c l b8 w _ _ hs) ?_
          rintro e w_ ⟨rfl, rfl⟩
          refine ⟨_, rfl, ?_⟩
          refine l_v (r_move (v := .pointer _) rfl) ?_
          refine l_call (r_call Try.func11 rfl rfl) ?_
          refine Calls.mono (rest_c s2 b5 w _ _ (hs.pull 1)) ?_
          rintro e w_ ⟨rfl, rfl⟩
          refine ⟨_, rfl, ?_⟩
          refine l_v (r_adds rfl rfl (by omega)) ?_
          refine l_v (by first | exact (r_move (v := sV _) rfl) | exact (r_move rfl)) ?_
          refine l_v (r_neqs rfl rfl) ?_
          refine l_nil (nrm_then ?_)
          refine c_false rfl (decide_eq_false (fun h => h hag)) ?_
          refine c_skip (nrm_block (nrm_then ?_))
          refine c_region ?_
          refine l_v (by first | exact (r_move (v := iV _) rfl) | exact (r_move rfl)) ?_
          refine l_v (r_addi rfl rfl (by omega)) ?_
          refine l_v (by first | exact (r_assign (v := iV _) rfl) | exact (r_assign rfl)) ?_
          refine l_nil (nrm_then ?_)
          refine And.intro (by refine ⟨?_, ?_, trivial⟩ <;> ((conv => lhs; whnf); (try conv => rhs; whnf))) ?_
          exact ⟨ks.length - (i + 1), by omega, i + 1, s2, by omega, rfl, by omega, (hs.pull 1).pull 1 |>.drop⟩
      · replace h3 := of_decide_eq_false h3
        refine c_exit (ex_then (ex_then (ex_hit (nrm_then ?_))))
        refine c_rseq ?_
        refine l_v (by first | exact (r_assign (v := bV _) rfl) | exact (r_assign rfl)) ?_
        refine l_nil (nrm_then ?_)
        refine c_ret ?_
        show Fin _ _ _ _ _
        refine fin1 rfl ?_
        exact ⟨rfl, hs.below⟩
    · have f1 : decide ((i : Int) < (ks.length : Int)) = false := decide_eq_false hin
      refine l_v (by first | exact (r_move (v := bV _) rfl) | exact (r_move rfl)) ?_
      refine l_no rfl (f1) ?_
      refine l_no rfl (f1) ?_
      refine l_v (r_pick_f rfl f1 rfl) ?_
      refine l_nil (nrm_then ?_)
      refine c_false rfl (rfl) ?_
      refine c_exit (ex_then (ex_then (ex_hit (nrm_then ?_))))
      refine c_rseq ?_
      refine l_v (by first | exact (r_assign (v := bV _) rfl) | exact (r_assign rfl)) ?_
      refine l_nil (nrm_then ?_)
      refine c_ret ?_
      show Fin _ _ _ _ _
      refine fin1 rfl ?_
      exact ⟨rfl, hs.below⟩
end Go.Proofs.Ytfbmgiflckdalaa.Six
