/- The walks of the box's Pack and Open. -/
import Derived.Test.YtiipibmliffghaaBoxWalk
namespace Go.Proofs.Ytiipibmliffghaa.Box
open Go Go.RowKit Go.Proofs.Ytiipibmliffghaa.Eng Go.Proofs.Ytiipibmliffghaa.Six Go.Proofs.Ytiipibmliffghaa.CrcFn Go.Proofs.Ytiipibmliffghaa.Crc
set_option linter.unusedVariables false
set_option maxRecDepth 100000
theorem body_len (r : Rec) (h : r.ok) : (bodyOf r).length ≤ 76 + r.body.length + 32 ∨ 2 ^ 63 < r.body.length := by
  by_cases hb : r.body.length < 2 ^ 64
  · left
    have := enc_len 64 r.body.length hb
    unfold bodyOf encT
    rw [List.length_append, List.length_append, List.length_append, h.1]
    split
    · rw [List.length_append, h.2]; simp only [List.length_cons, List.length_nil]; omega
    · simp only [List.length_cons, List.length_nil]; omega
  · right; omega
set_option maxHeartbeats 4000000 in
theorem pack_c (r : Rec) (h : r.ok) (hz : r.body.length ≤ 9223372036854775807) (w : World) :
    Calls Try.prog 10 #[rV r] w fun e w' => e = .returned (.tuple #[sV (ofL (packR r).1), iV (packR r).2]) ∧ Below w.heap.size w w' := by
  have hol := recC_length h
  have hb := rec_body r h
  have hbl0 := body_len r h
  have hp64 := rec_patch r h
  have hbase := rec_base r h
  have hkey := rec_key r h
  have hkl : (r.key.map u8V).length = 32 := (List.length_map u8V).trans h.1
  have hbl : (r.base.map u8V).length = 32 := (List.length_map u8V).trans h.2
  refine enter (P := Try.prog) Try.func10 rfl rfl ?_
  have hs := Sep.init w
  refine c_rseq ?_
  refine l_box hs rfl ?_
  intro b1 w1 hs hB1 hlt1
  refine l_v (by first | exact (r_assign (v := sV _) rfl) | exact (r_assign rfl)) ?_
  refine l_v (by first | exact (r_assign (v := iV _) rfl) | exact (r_assign rfl)) ?_
  refine l_nil (nrm_then ?_)
  refine c_seq ?_
  refine c_rseq ?_
  refine l_v (by first | exact (r_fieldAddr0 (off := 65) (T := 9) (by kernel_rfl) rfl) | exact (r_fieldAddr (off := 65) (T := 9) (by kernel_rfl) rfl)) ?_
  refine l_v (r_load_at (i := 0) hs rfl Try.underlying9 rfl hb) ?_
  refine l_v (r_len_s Try.underlying9 rfl) ?_
  refine l_v (r_gtri rfl rfl) ?_
  refine l_nil (nrm_then ?_)
  refine c_cond rfl (fun hlen => ?_) (fun hlen => ?_)
  · have hlen' : 8192 < r.body.length := by have h : ((r.body.length : Nat) : Int) > 8192 := of_decide_eq_true hlen; omega
    replace hlen := of_decide_eq_true hlen
    refine c_rseq ?_
    refine l_v (by first | exact (r_assign (v := sV _) rfl) | exact (r_assign rfl)) ?_
    refine l_v (by first | exact (r_assign (v := iV _) rfl) | exact (r_assign rfl)) ?_
    refine l_nil (nrm_then ?_)
    refine c_ret (ret_then ?_)
    show Fin _ _ _ _ _
    refine fin2 rfl ?_
    have e : packR r = ([], 6) := if_pos hlen'
    rw [e]
    exact ⟨rfl, hs.below⟩
  · have hlen' : ¬ 8192 < r.body.length := by have h : ¬ ((r.body.length : Nat) : Int) > 8192 := of_decide_eq_false hlen; omega
    replace hlen := of_decide_eq_false hlen
    refine c_skip (nrm_then ?_)
    refine c_seq ?_
    refine c_rseq ?_
    refine l_v (by first | exact (r_fieldAddr0 (off := 64) (T := 4) (by kernel_rfl) rfl) | exact (r_fieldAddr (off := 64) (T := 4) (by kernel_rfl) rfl)) ?_
    refine l_v (r_load_at (i := 0) hs rfl Try.underlying4 rfl hp64) ?_
    refine l_v (r_not rfl) ?_
    have hpz : (ofL (bodyOf r)).size ≤ 9223372036854775800 := by show (bodyOf r).length ≤ _; omega
    rcases Bool.eq_false_or_eq_true r.patch with hp | hp
    · have f : (!r.patch) = false := by rw [hp]; rfl
      have hbo : bodyOf r = r.key ++ ([65] ++ r.base) ++ encT r.body := by unfold bodyOf; rw [hp]; rfl
      have he : packR r = (put (bodyOf r), 0) := by
        unfold packR
        rw [if_neg hlen', if_neg (by rw [hp]; intro hh; cases hh.1)]
      refine l_v (by first | exact (r_move (v := bV _) rfl) | exact (r_move rfl)) ?_
      refine l_no rfl (f) ?_
      refine l_no rfl (f) ?_
      refine l_no rfl (f) ?_
      refine l_no rfl (f) ?_
      refine l_v (r_pick_f rfl f rfl) ?_
      refine l_nil (nrm_then ?_)
      refine c_false rfl (rfl) ?_
      refine c_skip (nrm_then ?_)
      refine c_rseq ?_
      refine l_call (r_call Try.func31 rfl rfl) ?_
      refine Calls.mono (new_c w _ _ hs) ?_
      rintro e w_ ⟨b18, rfl, hs⟩
      refine ⟨_, rfl, ?_⟩
      refine l_v (r_assign (v := .pointer _) rfl) ?_
      refine l_nil (nrm_then ?_)
      refine c_rseq ?_
      refine l_v (r_move (v := .pointer _) rfl) ?_
      refine l_v (by first | exact (r_fieldAddr0 (off := 0) (T := 23) (by kernel_rfl) rfl) | exact (r_fieldAddr (off := 0) (T := 23) (by kernel_rfl) rfl)) ?_
      refine l_v (r_slice_all Try.underlying23 I5 rfl (by decide)) ?_
      refine l_v (r_cv_bs (l := r.key) Try.underlying61 Try.underlying5 Try.underlying9 rfl (rd_part (hs.at_ 1).1 hkey hkl (by decide))) ?_
      refine l_call (r_call Try.func32 rfl rfl) ?_
      refine Calls.mono (wraw_c (ofL r.key) [] (by show 0 + r.key.length ≤ _; rw [h.1]; decide) b18 w _ _ hs) ?_
      rintro e w_ ⟨rfl, hs⟩
      refine ⟨_, rfl, ?_⟩
      refine l_nil (nrm_then ?_)
      refine c_seq ?_
      refine c_rseq ?_
      refine l_v (by first | exact (r_fieldAddr0 (off := 64) (T := 4) (by kernel_rfl) rfl) | exact (r_fieldAddr (off := 64) (T := 4) (by kernel_rfl) rfl)) ?_
      refine l_v (r_load_at (i := 1) hs rfl Try.underlying4 rfl hp64) ?_
      refine l_nil (nrm_then ?_)
      refine c_true rfl (hp) ?_
      refine c_rseq ?_
      refine l_v (r_move (v := .pointer _) rfl) ?_
      refine l_call (r_call Try.func33 rfl rfl) ?_
      refine Calls.mono (wcount_c 1 (by decide) _ (by rw [List.length_append]; show 0 + r.key.length + 11 ≤ _; rw [h.1]; decide) b18 w _ _ hs) ?_
      rintro e w_ ⟨rfl, hs⟩
      refine ⟨_, rfl, ?_⟩
      rw [if_neg (by decide)] at hs
      refine l_nil (nrm_then ?_)
      refine c_region ?_
      refine l_v (r_move (v := .pointer _) rfl) ?_
      refine l_v (by first | exact (r_fieldAddr0 (off := 32) (T := 23) (by kernel_rfl) rfl) | exact (r_fieldAddr (off := 32) (T := 23) (by kernel_rfl) rfl)) ?_
      refine l_v (r_slice_all Try.underlying23 I5 rfl (by decide)) ?_
      refine l_v (r_cv_bs (l := r.base) Try.underlying61 Try.underlying5 Try.underlying9 rfl (rd_part (hs.at_ 1).1 hbase hbl (by decide))) ?_
      refine l_call (r_call Try.func32 rfl rfl) ?_
      refine Calls.mono (wraw_c (ofL r.base) _ (by rw [List.length_append, List.length_append, show (1 : Int).toNat = 1 from rfl, enc1]; show 0 + r.key.length + 1 + r.base.length ≤ _; rw [h.1, h.2]; decide) b18 w _ _ hs) ?_
      rintro e w_ ⟨rfl, hs⟩
      refine ⟨_, rfl, ?_⟩
      have e1 : [] ++ toL (ofL r.key) ++ enc 64 (Int.toNat 1) ++ toL (ofL r.base) = r.key ++ ([65] ++ r.base) := by rw [show (1 : Int).toNat = 1 from rfl, enc1]; simp
      rw [e1] at hs
      refine l_nil (nrm_then ?_)
      refine c_rseq ?_
      refine l_v (r_move (v := .pointer _) rfl) ?_
      refine l_v (by first | exact (r_fieldAddr0 (off := 65) (T := 9) (by kernel_rfl) rfl) | exact (r_fieldAddr (off := 65) (T := 9) (by kernel_rfl) rfl)) ?_
      refine l_v (r_load_at (i := 1) hs rfl Try.underlying9 rfl hb) ?_
      refine l_call (r_call Try.func34 rfl rfl) ?_
      refine Calls.mono (wtext_c (ofL r.body) _ (by rw [List.length_append, List.length_append, h.1, h.2]; show _ + r.body.length ≤ _; simp only [List.length_cons, List.length_nil]; omega) b18 w _ _ hs) ?_
      rintro e w_ ⟨rfl, hs⟩
      refine ⟨_, rfl, ?_⟩
      have hs : Sep w w_ (wtr b18 (r.key ++ ([65] ++ r.base) ++ encT r.body) :: [blk b1 (recC r) 30]) := hs
      rw [← hbo] at hs
      refine l_nil (nrm_then ?_)
      refine c_rseq ?_
      refine l_v (r_move (v := .pointer _) rfl) ?_
      refine l_call (r_call Try.func36 rfl rfl) ?_
      refine Calls.mono (bytes_c _ b18 w _ _ hs) ?_
      rintro e w_ ⟨rfl, rfl⟩
      refine ⟨_, rfl, ?_⟩
      refine l_call (r_call Try.func35 rfl rfl) ?_
      refine Calls.mono (put_c (ofL (bodyOf r)) _ hpz) ?_
      rintro e w_ ⟨rfl, hb2⟩
      refine ⟨_, rfl, ?_⟩
      have hs := hs.below_ hb2
      refine l_v (by first | exact (r_assign (v := sV _) rfl) | exact (r_assign rfl)) ?_
      refine l_v (by first | exact (r_assign (v := iV _) rfl) | exact (r_assign rfl)) ?_
      refine l_nil (nrm_then ?_)
      refine c_ret ?_
      show Fin _ _ _ _ _
      refine fin2 rfl ?_
      rw [he]
      exact ⟨rfl, hs.below⟩
    · have f : (!r.patch) = true := by rw [hp]; rfl
      have hbo : bodyOf r = r.key ++ [64] ++ encT r.body := by unfold bodyOf; rw [hp]; rfl
      refine l_v (by first | exact (r_move (v := bV _) rfl) | exact (r_move rfl)) ?_
      refine l_vg (by first | exact (r_fieldAddr0 (off := 32) (T := 23) (by kernel_rfl) rfl) | exact (r_fieldAddr (off := 32) (T := 23) (by kernel_rfl) rfl)) rfl (f) ?_
      refine l_vg (r_load_part (i := 0) hs rfl Try.underlying23 I23 rfl hbase hbl) rfl (f) ?_
      refine l_vg (r_build0 Try.underlying23 I23 I5) rfl (f) ?_
      refine l_vg (r_neA (a := r.base) (b := zeros) Try.underlying23 Try.underlying5 I5 (by kernel_rfl) rfl rfl h.2 rfl) rfl (f) ?_
      refine l_v (r_pick_t rfl f rfl) ?_
      refine l_nil (nrm_then ?_)
      refine c_cond rfl (fun hne => ?_) (fun hne => ?_)
      · replace hne := of_decide_eq_true hne
        refine c_rseq ?_
        refine l_v (by first | exact (r_assign (v := sV _) rfl) | exact (r_assign rfl)) ?_
        refine l_v (by first | exact (r_assign (v := iV _) rfl) | exact (r_assign rfl)) ?_
        refine l_nil (nrm_then ?_)
        refine c_ret (ret_then ?_)
        show Fin _ _ _ _ _
        refine fin2 rfl ?_
        have e : packR r = ([], 1) := by
          unfold packR
          rw [if_neg hlen', if_pos ⟨hp, hne⟩]
        rw [e]
        exact ⟨rfl, hs.below⟩
      · have he : packR r = (put (bodyOf r), 0) := by
          unfold packR
          rw [if_neg hlen', if_neg (fun hh => (of_decide_eq_false hne) hh.2)]
        replace hne := of_decide_eq_false hne
        refine c_skip (nrm_then ?_)
        refine c_rseq ?_
        refine l_call (r_call Try.func31 rfl rfl) ?_
        refine Calls.mono (new_c w _ _ hs) ?_
        rintro e w_ ⟨b18, rfl, hs⟩
        refine ⟨_, rfl, ?_⟩
        refine l_v (r_assign (v := .pointer _) rfl) ?_
        refine l_nil (nrm_then ?_)
        refine c_rseq ?_
        refine l_v (r_move (v := .pointer _) rfl) ?_
        refine l_v (by first | exact (r_fieldAddr0 (off := 0) (T := 23) (by kernel_rfl) rfl) | exact (r_fieldAddr (off := 0) (T := 23) (by kernel_rfl) rfl)) ?_
        refine l_v (r_slice_all Try.underlying23 I5 rfl (by decide)) ?_
        refine l_v (r_cv_bs (l := r.key) Try.underlying61 Try.underlying5 Try.underlying9 rfl (rd_part (hs.at_ 1).1 hkey hkl (by decide))) ?_
        refine l_call (r_call Try.func32 rfl rfl) ?_
        refine Calls.mono (wraw_c (ofL r.key) [] (by show 0 + r.key.length ≤ _; rw [h.1]; decide) b18 w _ _ hs) ?_
        rintro e w_ ⟨rfl, hs⟩
        refine ⟨_, rfl, ?_⟩
        refine l_nil (nrm_then ?_)
        refine c_seq ?_
        refine c_rseq ?_
        refine l_v (by first | exact (r_fieldAddr0 (off := 64) (T := 4) (by kernel_rfl) rfl) | exact (r_fieldAddr (off := 64) (T := 4) (by kernel_rfl) rfl)) ?_
        refine l_v (r_load_at (i := 1) hs rfl Try.underlying4 rfl hp64) ?_
        refine l_nil (nrm_then ?_)
        refine c_false rfl (hp) ?_
        refine c_region ?_
        refine l_v (r_move (v := .pointer _) rfl) ?_
        refine l_call (r_call Try.func33 rfl rfl) ?_
        refine Calls.mono (wcount_c 0 (by decide) _ (by rw [List.length_append]; show 0 + r.key.length + 11 ≤ _; rw [h.1]; decide) b18 w _ _ hs) ?_
        rintro e w_ ⟨rfl, hs⟩
        refine ⟨_, rfl, ?_⟩
        rw [if_neg (by decide)] at hs
        have e1 : [] ++ toL (ofL r.key) ++ enc 64 (Int.toNat 0) = r.key ++ [64] := by rw [show (0 : Int).toNat = 0 from rfl, enc0]; simp
        rw [e1] at hs
        refine l_nil (nrm_then ?_)
        refine c_rseq ?_
        refine l_v (r_move (v := .pointer _) rfl) ?_
        refine l_v (by first | exact (r_fieldAddr0 (off := 65) (T := 9) (by kernel_rfl) rfl) | exact (r_fieldAddr (off := 65) (T := 9) (by kernel_rfl) rfl)) ?_
        refine l_v (r_load_at (i := 1) hs rfl Try.underlying9 rfl hb) ?_
        refine l_call (r_call Try.func34 rfl rfl) ?_
        refine Calls.mono (wtext_c (ofL r.body) _ (by rw [List.length_append, h.1]; show _ + r.body.length ≤ _; simp only [List.length_cons, List.length_nil]; omega) b18 w _ _ hs) ?_
        rintro e w_ ⟨rfl, hs⟩
        refine ⟨_, rfl, ?_⟩
        have hs : Sep w w_ (wtr b18 (r.key ++ [64] ++ encT r.body) :: [blk b1 (recC r) 30]) := hs
        rw [← hbo] at hs
        refine l_nil (nrm_then ?_)
        refine c_rseq ?_
        refine l_v (r_move (v := .pointer _) rfl) ?_
        refine l_call (r_call Try.func36 rfl rfl) ?_
        refine Calls.mono (bytes_c _ b18 w _ _ hs) ?_
        rintro e w_ ⟨rfl, rfl⟩
        refine ⟨_, rfl, ?_⟩
        refine l_call (r_call Try.func35 rfl rfl) ?_
        refine Calls.mono (put_c (ofL (bodyOf r)) _ hpz) ?_
        rintro e w_ ⟨rfl, hb2⟩
        refine ⟨_, rfl, ?_⟩
        have hs := hs.below_ hb2
        refine l_v (by first | exact (r_assign (v := sV _) rfl) | exact (r_assign rfl)) ?_
        refine l_v (by first | exact (r_assign (v := iV _) rfl) | exact (r_assign rfl)) ?_
        refine l_nil (nrm_then ?_)
        refine c_ret ?_
        show Fin _ _ _ _ _
        refine fin2 rfl ?_
        rw [he]
        exact ⟨rfl, hs.below⟩
theorem take_len (l : List UInt8) : (take l).1.length ≤ l.length := by
  unfold take
  split
  · exact Nat.zero_le _
  · split
    · dsimp only; rw [List.length_take]; omega
    · exact Nat.zero_le _
set_option maxHeartbeats 4000000 in
theorem open_c (s : ByteArray) (hz : s.size ≤ 9223372036854775800) (w : World) :
    Calls Try.prog 14 #[sV s] w fun e w' => e = .returned (.tuple #[rV (openR (toL s)).1, iV (openR (toL s)).2]) ∧ Below w.heap.size w w' := by
  have hl := toL_size s
  have hzl := recC_length zero_ok
  have htl := take_len (toL s)
  refine enter (P := Try.prog) Try.func14 rfl rfl ?_
  have hs := Sep.init w
  refine c_rseq ?_
  refine l_alloc hs I30 ?_
  intro b2 w2 hs hB2 hlt2
  refine l_v (by first | exact (r_assign (v := iV _) rfl) | exact (r_assign rfl)) ?_
  refine l_nil (nrm_then ?_)
  refine c_rseq ?_
  refine l_v (by first | exact (r_move (v := sV _) rfl) | exact (r_move rfl)) ?_
  have hs : Sep w _ [blk b2 (recC .zero) 30] := hs
  refine l_call (r_call Try.func41 rfl rfl) ?_
  refine Calls.mono (take_c s _ hz) ?_
  rintro e w_ ⟨rfl, hb⟩
  refine ⟨_, rfl, ?_⟩
  have hs := hs.below_ hb
  unfold openR
  generalize take (toL s) = K at *
  refine l_v (r_move rfl) ?_
  refine l_v (r_extract rfl rfl) ?_
  refine l_v (r_extract rfl rfl) ?_
  refine l_v (by first | exact (r_assign (v := sV _) rfl) | exact (r_assign rfl)) ?_
  refine l_v (by first | exact (r_assign (v := iV _) rfl) | exact (r_assign rfl)) ?_
  refine l_nil (nrm_then ?_)
  refine c_seq ?_
  refine c_rseq ?_
  refine l_v (by first | exact (r_move (v := iV _) rfl) | exact (r_move rfl)) ?_
  refine l_v (r_neqi rfl rfl) ?_
  refine l_nil (nrm_then ?_)
  refine c_cond rfl (fun h1 => ?_) (fun h1 => ?_)
  · replace h1 := of_decide_eq_true h1
    refine c_rseq ?_
    refine l_v (r_build (l := []) rfl bz) ?_
    refine l_v (by first | exact (r_move (v := iV _) rfl) | exact (r_move rfl)) ?_
    refine l_store_whole (i := 0) hs rfl I30 rfl rfl hzl hzl (rec_one _) ?_
    intro w_ hs
    refine l_v (by first | exact (r_assign (v := iV _) rfl) | exact (r_assign rfl)) ?_
    refine l_nil (nrm_then ?_)
    refine c_ret (ret_then ?_)
    show Fin _ _ _ _ _
    refine fin2c rfl rfl (run_loadVar_agg Try.underlying30 rfl I30 hzl (cells_whole (hs.at_ 0).1)) ?_
    rw [if_pos h1]
    exact ⟨rfl, hs.below⟩
  · replace h1 := of_decide_eq_false h1
    refine c_skip (nrm_then ?_)
    refine c_rseq ?_
    refine l_v (by first | exact (r_move (v := sV _) rfl) | exact (r_move rfl)) ?_
    rw [if_neg h1]
    refine l_call (r_call Try.func42 rfl rfl) ?_
    refine Calls.mono (over_c _ w _ _ hs) ?_
    rintro e w_ ⟨b5, rfl, hs⟩
    refine ⟨_, rfl, ?_⟩
    refine l_v (r_assign (v := .pointer _) rfl) ?_
    refine l_nil (nrm_then ?_)
    refine c_rseq ?_
    refine l_v (r_move (v := .pointer _) rfl) ?_
    refine l_call (r_call Try.func43 rfl rfl) ?_
    refine Calls.mono (next_c (ofL K.1) (by show K.1.length ≤ _; omega) b5 w _ _ hs) ?_
    rintro e w_ ⟨rfl, s', hs', hs⟩
    refine ⟨_, rfl, ?_⟩
    rw [Eng.toL_ofL] at *
    have hnok := nextR_ok K.1
    have hnsz := nextR_size K.1
    generalize nextR K.1 = M at *
    have hml := recC_length hnok
    have hone := rec_one M.1
    refine l_v (r_move rfl) ?_
    refine l_v (r_extract rfl rfl) ?_
    refine l_v (r_extract rfl rfl) ?_
    refine l_alloc hs I30 ?_
    intro b6 w6 hs hB6 hlt6
    first | refine l_store_whole (i := 0) hs rfl I30 rfl rfl (by first | assumption | (simp; done)) (by first | assumption | (simp; done)) (by first | assumption | simp [Value.oneCell']) ?_ | refine l_store_whole (i := 1) hs rfl I30 rfl rfl (by first | assumption | (simp; done)) (by first | assumption | (simp; done)) (by first | assumption | simp [Value.oneCell']) ?_ | refine l_store_whole (i := 2) hs rfl I30 rfl rfl (by first | assumption | (simp; done)) (by first | assumption | (simp; done)) (by first | assumption | simp [Value.oneCell']) ?_ | refine l_store_whole (i := 3) hs rfl I30 rfl rfl (by first | assumption | (simp; done)) (by first | assumption | (simp; done)) (by first | assumption | simp [Value.oneCell']) ?_ | refine l_store_whole (i := 4) hs rfl I30 rfl rfl (by first | assumption | (simp; done)) (by first | assumption | (simp; done)) (by first | assumption | simp [Value.oneCell']) ?_ | refine l_store_whole (i := 5) hs rfl I30 rfl rfl (by first | assumption | (simp; done)) (by first | assumption | (simp; done)) (by first | assumption | simp [Value.oneCell']) ?_ | refine l_store_whole (i := 6) hs rfl I30 rfl rfl (by first | assumption | (simp; done)) (by first | assumption | (simp; done)) (by first | assumption | simp [Value.oneCell']) ?_
    intro w_ hs
    refine l_v (by first | exact (r_assign (v := iV _) rfl) | exact (r_assign rfl)) ?_
    refine l_nil (nrm_then ?_)
    refine c_seq ?_
    refine c_rseq ?_
    refine l_v (by first | exact (r_move (v := iV _) rfl) | exact (r_move rfl)) ?_
    refine l_v (r_eqli rfl rfl) ?_
    refine l_nil (nrm_then ?_)
    have hs : Sep w _ [blk b6 (recC M.1) 30, rdr b5 s', blk b2 (recC .zero) 30] := hs
    refine c_cond rfl (fun h2 => ?_) (fun h2 => ?_)
    · have h2' : M.2.2 = 0 := of_decide_eq_true h2
      have hs' := hs' h2'
      subst hs'
      rw [if_neg (fun h => h h2')]
      replace h2 := of_decide_eq_true h2
      refine c_region ?_
      refine l_v (r_move (v := .pointer _) rfl) ?_
      refine l_call (r_call Try.func44 rfl rfl) ?_
      refine Calls.mono (end_c _ b5 w _ _ (hs.pull 1)) ?_
      rintro e w_ ⟨rfl, rfl⟩
      refine ⟨_, rfl, ?_⟩
      have hcl : (toL (cut (ofL K.1) M.2.1)).length = K.1.length - M.2.1 := by rw [toL_cut, Eng.toL_ofL, List.length_drop]
      rw [hcl]
      refine l_v (by first | exact (r_assign (v := iV _) rfl) | exact (r_assign rfl)) ?_
      refine l_nil (nrm_then ?_)
      refine c_seq ?_
      refine c_rseq ?_
      refine l_v (by first | exact (r_move (v := iV _) rfl) | exact (r_move rfl)) ?_
      refine l_v (r_neqi rfl rfl) ?_
      refine l_nil (nrm_then ?_)
      refine c_cond rfl (fun h3 => ?_) (fun h3 => ?_)
      · have h3' : M.2.1 < K.1.length := by
          rcases Nat.lt_or_ge M.2.1 K.1.length with hh | hh
          · exact hh
          · have h3 := of_decide_eq_true h3
            rw [if_pos (by omega)] at h3
            exact absurd rfl h3
        replace h3 := of_decide_eq_true h3
        refine c_rseq ?_
        refine l_v (r_build (l := []) rfl bz) ?_
        refine l_v (by first | exact (r_move (v := iV _) rfl) | exact (r_move rfl)) ?_
        refine l_store_whole (i := 2) hs rfl I30 rfl rfl hzl hzl (rec_one _) ?_
        intro w_ hs
        refine l_v (by first | exact (r_assign (v := iV _) rfl) | exact (r_assign rfl)) ?_
        refine l_nil (nrm_then ?_)
        refine c_ret (ret_then ?_)
        show Fin _ _ _ _ _
        refine fin2c rfl rfl (run_loadVar_agg Try.underlying30 rfl I30 hzl (cells_whole (hs.at_ 2).1)) ?_
        rw [if_pos h3', if_neg (by omega)]
        exact ⟨rfl, hs.below⟩
      · have h3' : ¬ M.2.1 < K.1.length := by
          intro hh
          have h3 := of_decide_eq_false h3
          rw [if_neg (by omega)] at h3
          exact h3 (by decide)
        replace h3 := of_decide_eq_false h3
        refine c_skip (nrm_then ?_)
        refine c_rseq ?_
        refine l_v (r_load_whole (i := 0) hs rfl Try.underlying30 I30 rfl hml) ?_
        refine l_store_whole (i := 2) hs rfl I30 rfl rfl hml hzl (rec_one _) ?_
        intro w_ hs
        refine l_v (by first | exact (r_assign (v := iV _) rfl) | exact (r_assign rfl)) ?_
        refine l_nil (nrm_then ?_)
        refine c_ret ?_
        show Fin _ _ _ _ _
        refine fin2c rfl rfl (run_loadVar_agg Try.underlying30 rfl I30 hml (cells_whole (hs.at_ 2).1)) ?_
        rw [if_neg h3']
        exact ⟨rfl, hs.below⟩
    · have h2' : M.2.2 ≠ 0 := of_decide_eq_false h2
      replace h2 := of_decide_eq_false h2
      refine c_skip (nrm_then ?_)
      refine c_seq ?_
      refine c_rseq ?_
      refine l_v (by first | exact (r_move (v := iV _) rfl) | exact (r_move rfl)) ?_
      refine l_v (r_neqi rfl rfl) ?_
      refine l_nil (nrm_then ?_)
      refine c_true rfl (decide_eq_true h2') ?_
      refine c_rseq ?_
      refine l_v (r_build (l := []) rfl bz) ?_
      refine l_v (by first | exact (r_move (v := iV _) rfl) | exact (r_move rfl)) ?_
      refine l_store_whole (i := 2) hs rfl I30 rfl rfl hzl hzl (rec_one _) ?_
      intro w_ hs
      refine l_v (by first | exact (r_assign (v := iV _) rfl) | exact (r_assign rfl)) ?_
      refine l_nil (nrm_then ?_)
      refine c_ret (ret_then ?_)
      show Fin _ _ _ _ _
      refine fin2c rfl rfl (run_loadVar_agg Try.underlying30 rfl I30 hzl (cells_whole (hs.at_ 2).1)) ?_
      rw [if_pos h2']
      exact ⟨rfl, hs.below⟩
end Go.Proofs.Ytiipibmliffghaa.Box
