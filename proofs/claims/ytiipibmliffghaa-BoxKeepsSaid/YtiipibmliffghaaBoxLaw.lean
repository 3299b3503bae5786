/- The walks of the document's Open and Pack, of awake, and of the laws BoxPacks and BoxOpens. -/
import Derived.Test.YtiipibmliffghaaBoxRef
namespace Go.Proofs.Ytiipibmliffghaa.Box
open Go Go.RowKit Go.Proofs.Ytiipibmliffghaa.Eng Go.Proofs.Ytiipibmliffghaa.Six Go.Proofs.Ytiipibmliffghaa.CrcFn Go.Proofs.Ytiipibmliffghaa.Crc
set_option linter.unusedVariables false
set_option maxRecDepth 100000
set_option maxHeartbeats 4000000 in
theorem ropen_c (s : ByteArray) (hz : s.size ≤ 9223372036854775800) (w : World) :
    Calls Try.prog 15 #[sV s] w fun e w' => e = .returned (.tuple #[rV (openR (toL s)).1, iV (openR (toL s)).2]) ∧ Below w.heap.size w w' := by
  have hl := toL_size s
  have hzl := recC_length zero_ok
  have htl := take_len (toL s)
  refine enter (P := Try.prog) Try.func15 rfl rfl ?_
  have hs := Sep.init w
  refine c_rseq ?_
  refine l_alloc hs I25 ?_
  intro b2 w2 hs hB2 hlt2
  refine l_v (by first | exact (r_assign (v := iV _) rfl) | exact (r_assign rfl)) ?_
  refine l_nil (nrm_then ?_)
  refine c_rseq ?_
  refine l_v (by first | exact (r_move (v := sV _) rfl) | exact (r_move rfl)) ?_
  have hs : Sep w _ [blk b2 (recC .zero) 25] := hs
  refine l_call (r_call Try.func45 rfl rfl) ?_
  refine Calls.mono (RefCrc.take_c s hz _) ?_
  rintro e w_ ⟨rfl, hb⟩
  refine ⟨_, rfl, ?_⟩
  have hs := hs.below_ hb
  unfold openR
  generalize take (toL s) = K at *
  refine l_v (r_move rfl) ?_
  refine l_v (r_extract rfl rfl) ?_
  refine l_v (r_extract rfl rfl) ?_
  refine l_v (by first | exact (r_assign (v := sV _) rfl) | exact (r_assign rfl)) ?_
  refine l_v (by first | exact (r_assign (v := iV _) rfl) | exact (r_assign rfl)) ?_
  refine l_nil (nrm_then ?_)
  refine c_seq ?_
  refine c_rseq ?_
  refine l_v (by first | exact (r_move (v := iV _) rfl) | exact (r_move rfl)) ?_
  refine l_v (r_neqi rfl rfl) ?_
  refine l_nil (nrm_then ?_)
  refine c_cond rfl (fun h1 => ?_) (fun h1 => ?_)
  · replace h1 := of_decide_eq_true h1
    refine c_rseq ?_
    refine l_v (r_build (l := []) rfl bzr) ?_
    refine l_v (by first | exact (r_move (v := iV _) rfl) | exact (r_move rfl)) ?_
    refine l_store_whole (i := 0) hs rfl I25 rfl rfl hzl hzl (rec_one _) ?_
    intro w_ hs
    refine l_v (by first | exact (r_assign (v := iV _) rfl) | exact (r_assign rfl)) ?_
    refine l_nil (nrm_then ?_)
    refine c_ret (ret_then ?_)
    show Fin _ _ _ _ _
    refine fin2c rfl rfl (run_loadVar_agg Try.underlying25 rfl I25 hzl (cells_whole (hs.at_ 0).1)) ?_
    rw [if_pos h1]
    exact ⟨rfl, hs.below⟩
  · replace h1 := of_decide_eq_false h1
    refine c_skip (nrm_then ?_)
    refine c_rseq ?_
    refine l_v (by first | exact (r_move (v := sV _) rfl) | exact (r_move rfl)) ?_
    rw [if_neg h1]
    refine l_call (r_call Try.func46 rfl rfl) ?_
    refine Calls.mono (begin_c (ofL K.1) (by show K.1.length ≤ _; omega) _) ?_
    rintro e w_ ⟨rfl, hb⟩
    refine ⟨_, rfl, ?_⟩
    have hs := hs.below_ hb
    rw [Eng.toL_ofL]
    have hnok := nextR_ok K.1
    have hnsz := nextR_size K.1
    generalize nextR K.1 = M at *
    have hml := recC_length hnok
    have hone := rec_one M.1
    refine l_v (r_move rfl) ?_
    refine l_v (r_extract rfl rfl) ?_
    refine l_v (r_extract rfl rfl) ?_
    refine l_v (r_extract rfl rfl) ?_
    refine l_alloc hs I25 ?_
    intro b5 w5 hs hB5 hlt5
    first | refine l_store_whole (i := 0) hs rfl I25 rfl rfl (by first | assumption | (simp; done)) (by first | assumption | (simp; done)) (by first | assumption | simp [Value.oneCell']) ?_ | refine l_store_whole (i := 1) hs rfl I25 rfl rfl (by first | assumption | (simp; done)) (by first | assumption | (simp; done)) (by first | assumption | simp [Value.oneCell']) ?_ | refine l_store_whole (i := 2) hs rfl I25 rfl rfl (by first | assumption | (simp; done)) (by first | assumption | (simp; done)) (by first | assumption | simp [Value.oneCell']) ?_ | refine l_store_whole (i := 3) hs rfl I25 rfl rfl (by first | assumption | (simp; done)) (by first | assumption | (simp; done)) (by first | assumption | simp [Value.oneCell']) ?_ | refine l_store_whole (i := 4) hs rfl I25 rfl rfl (by first | assumption | (simp; done)) (by first | assumption | (simp; done)) (by first | assumption | simp [Value.oneCell']) ?_ | refine l_store_whole (i := 5) hs rfl I25 rfl rfl (by first | assumption | (simp; done)) (by first | assumption | (simp; done)) (by first | assumption | simp [Value.oneCell']) ?_ | refine l_store_whole (i := 6) hs rfl I25 rfl rfl (by first | assumption | (simp; done)) (by first | assumption | (simp; done)) (by first | assumption | simp [Value.oneCell']) ?_
    intro w_ hs
    refine l_v (by first | exact (r_assign (v := iV _) rfl) | exact (r_assign rfl)) ?_
    refine l_v (by first | exact (r_assign (v := iV _) rfl) | exact (r_assign rfl)) ?_
    refine l_nil (nrm_then ?_)
    refine c_seq ?_
    refine c_rseq ?_
    refine l_v (by first | exact (r_move (v := iV _) rfl) | exact (r_move rfl)) ?_
    refine l_v (r_neqi rfl rfl) ?_
    refine l_nil (nrm_then ?_)
    have hs : Sep w _ [blk b5 (recC M.1) 25, blk b2 (recC .zero) 25] := hs
    refine c_cond rfl (fun h2 => ?_) (fun h2 => ?_)
    · replace h2 := of_decide_eq_true h2
      refine c_rseq ?_
      refine l_v (r_build (l := []) rfl bzr) ?_
      refine l_v (by first | exact (r_move (v := iV _) rfl) | exact (r_move rfl)) ?_
      refine l_store_whole (i := 1) hs rfl I25 rfl rfl hzl hzl (rec_one _) ?_
      intro w_ hs
      refine l_v (by first | exact (r_assign (v := iV _) rfl) | exact (r_assign rfl)) ?_
      refine l_nil (nrm_then ?_)
      refine c_ret (ret_then ?_)
      show Fin _ _ _ _ _
      refine fin2c rfl rfl (run_loadVar_agg Try.underlying25 rfl I25 hzl (cells_whole (hs.at_ 1).1)) ?_
      rw [if_pos h2]
      exact ⟨rfl, hs.below⟩
    · replace h2 := of_decide_eq_false h2
      refine c_skip (nrm_then ?_)
      refine c_seq ?_
      refine c_rseq ?_
      refine l_v (by first | exact (r_move (v := iV _) rfl) | exact (r_move rfl)) ?_
      refine l_v (by first | exact (r_move (v := sV _) rfl) | exact (r_move rfl)) ?_
      refine l_v (r_len_s Try.underlying9 rfl) ?_
      refine l_v (r_lssi rfl rfl) ?_
      refine l_nil (nrm_then ?_)
      rw [if_neg h2]
      refine c_cond rfl (fun h3 => ?_) (fun h3 => ?_)
      · have h3' : M.2.1 < K.1.length := by have h : (M.2.1 : Int) < ((K.1.length : Nat) : Int) := of_decide_eq_true h3; omega
        replace h3 := of_decide_eq_true h3
        refine c_rseq ?_
        refine l_v (r_build (l := []) rfl bzr) ?_
        refine l_store_whole (i := 1) hs rfl I25 rfl rfl hzl hzl (rec_one _) ?_
        intro w_ hs
        refine l_v (by first | exact (r_assign (v := iV _) rfl) | exact (r_assign rfl)) ?_
        refine l_nil (nrm_then ?_)
        refine c_ret (ret_then ?_)
        show Fin _ _ _ _ _
        refine fin2c rfl rfl (run_loadVar_agg Try.underlying25 rfl I25 hzl (cells_whole (hs.at_ 1).1)) ?_
        rw [if_pos h3']
        exact ⟨rfl, hs.below⟩
      · have h3' : ¬ M.2.1 < K.1.length := by have h : ¬ (M.2.1 : Int) < ((K.1.length : Nat) : Int) := of_decide_eq_false h3; omega
        replace h3 := of_decide_eq_false h3
        refine c_skip (nrm_then ?_)
        refine c_rseq ?_
        refine l_v (r_load_whole (i := 0) hs rfl Try.underlying25 I25 rfl hml) ?_
        refine l_store_whole (i := 1) hs rfl I25 rfl rfl hml hzl (rec_one _) ?_
        intro w_ hs
        refine l_v (by first | exact (r_assign (v := iV _) rfl) | exact (r_assign rfl)) ?_
        refine l_nil (nrm_then ?_)
        refine c_ret ?_
        show Fin _ _ _ _ _
        refine fin2c rfl rfl (run_loadVar_agg Try.underlying25 rfl I25 hml (cells_whole (hs.at_ 1).1)) ?_
        rw [if_neg h3']
        exact ⟨rfl, hs.below⟩
theorem refwhole_c' (n : Int) (hn : -9223372036854775808 ≤ n ∧ n ≤ 9223372036854775807) (w : World) :
    Calls Try.prog 37 #[iV n] w fun e w' => e = .returned (sV (ofL (encW n))) ∧ Below w.heap.size w w' :=
  (refwhole_c n hn w w [] (Sep.init w)).mono fun e w' h => ⟨h.1, h.2.below⟩
set_option maxHeartbeats 4000000 in
theorem rpack_c (r : Rec) (h : r.ok) (hz : r.body.length ≤ 9223372036854775807) (w : World) :
    Calls Try.prog 12 #[rV r] w fun e w' => e = .returned (.tuple #[sV (ofL (packR r).1), iV (packR r).2]) ∧ Below w.heap.size w w' := by
  have hol := recC_length h
  have hbody := rec_body r h
  have hp64 := rec_patch r h
  have hbase := rec_base r h
  have hkey := rec_key r h
  have hbl0 := body_len r h
  have hkl : (r.key.map u8V).length = 32 := (List.length_map u8V).trans h.1
  have hBL : (r.base.map u8V).length = 32 := (List.length_map u8V).trans h.2
  refine enter (P := Try.prog) Try.func12 rfl rfl ?_
  have hs := Sep.init w
  refine c_rseq ?_
  refine l_box hs rfl ?_
  intro b1 w1 hs hB1 hlt1
  refine l_v (by first | exact (r_assign (v := sV _) rfl) | exact (r_assign rfl)) ?_
  refine l_v (by first | exact (r_assign (v := iV _) rfl) | exact (r_assign rfl)) ?_
  refine l_nil (nrm_then ?_)
  refine c_seq ?_
  refine c_rseq ?_
  refine l_v (by first | exact (r_fieldAddr0 (off := 65) (T := 9) (by kernel_rfl) rfl) | exact (r_fieldAddr (off := 65) (T := 9) (by kernel_rfl) rfl)) ?_
  refine l_v (r_load_at (i := 0) hs rfl Try.underlying9 rfl hbody) ?_
  refine l_v (r_len_s Try.underlying9 rfl) ?_
  refine l_v (r_gtri rfl rfl) ?_
  refine l_nil (nrm_then ?_)
  refine c_cond rfl (fun hlen => ?_) (fun hlen => ?_)
  · have hlen' : 8192 < r.body.length := by have h : ((r.body.length : Nat) : Int) > 8192 := of_decide_eq_true hlen; omega
    replace hlen := of_decide_eq_true hlen
    refine c_rseq ?_
    refine l_v (by first | exact (r_assign (v := sV _) rfl) | exact (r_assign rfl)) ?_
    refine l_v (by first | exact (r_assign (v := iV _) rfl) | exact (r_assign rfl)) ?_
    refine l_nil (nrm_then ?_)
    refine c_ret (ret_then ?_)
    show Fin _ _ _ _ _
    refine fin2 rfl ?_
    have e : packR r = ([], 6) := if_pos hlen'
    rw [e]
    exact ⟨rfl, hs.below⟩
  · have hlen' : ¬ 8192 < r.body.length := by have h : ¬ ((r.body.length : Nat) : Int) > 8192 := of_decide_eq_false hlen; omega
    have hel := enc_len 64 r.body.length (by omega)
    have het : (encT r.body).length ≤ 11 + r.body.length := by unfold encT; rw [List.length_append]; omega
    replace hlen := of_decide_eq_false hlen
    refine c_skip (nrm_then ?_)
    refine c_seq ?_
    refine c_rseq ?_
    refine l_v (by first | exact (r_fieldAddr0 (off := 64) (T := 4) (by kernel_rfl) rfl) | exact (r_fieldAddr (off := 64) (T := 4) (by kernel_rfl) rfl)) ?_
    refine l_v (r_load_at (i := 0) hs rfl Try.underlying4 rfl hp64) ?_
    refine l_v (r_not rfl) ?_
    have hpz : (ofL (bodyOf r)).size ≤ 9223372036854775800 := by show (bodyOf r).length ≤ _; omega
    rcases Bool.eq_false_or_eq_true r.patch with hp | hp
    · have f : (!r.patch) = false := by rw [hp]; rfl
      have hbo : bodyOf r = r.key ++ ([65] ++ r.base) ++ encT r.body := by unfold bodyOf; rw [hp]; rfl
      have he : packR r = (put (bodyOf r), 0) := by
        unfold packR
        rw [if_neg hlen', if_neg (by rw [hp]; intro hh; cases hh.1)]
      refine l_v (by first | exact (r_move (v := bV _) rfl) | exact (r_move rfl)) ?_
      refine l_no rfl (f) ?_
      refine l_no rfl (f) ?_
      refine l_no rfl (f) ?_
      refine l_no rfl (f) ?_
      refine l_v (r_pick_f rfl f rfl) ?_
      refine l_nil (nrm_then ?_)
      refine c_false rfl (rfl) ?_
      refine c_skip (nrm_then ?_)
      refine c_rseq ?_
      refine l_v (by first | exact (r_fieldAddr0 (off := 0) (T := 23) (by kernel_rfl) rfl) | exact (r_fieldAddr (off := 0) (T := 23) (by kernel_rfl) rfl)) ?_
      refine l_v (r_slice_all Try.underlying23 I5 rfl (by decide)) ?_
      refine l_v (r_cv_bs (l := r.key) Try.underlying61 Try.underlying5 Try.underlying9 rfl (rd_part (hs.at_ 0).1 hkey hkl (by decide))) ?_
      refine l_v (by first | exact (r_assign (v := sV _) rfl) | exact (r_assign rfl)) ?_
      refine l_nil (nrm_then ?_)
      refine c_seq ?_
      refine c_rseq ?_
      refine l_v (by first | exact (r_fieldAddr0 (off := 64) (T := 4) (by kernel_rfl) rfl) | exact (r_fieldAddr (off := 64) (T := 4) (by kernel_rfl) rfl)) ?_
      refine l_v (r_load_at (i := 0) hs rfl Try.underlying4 rfl hp64) ?_
      refine l_nil (nrm_then ?_)
      refine c_true rfl (hp) ?_
      have e65 : encW 1 = [65] := by unfold encW; rw [if_neg (by decide), show (1 : Int).toNat = 1 from rfl, enc1]
      refine c_float [1] 6 (by kernel_rfl) (by kernel_rfl) ?_
      intro hbF
      show OkF _ _ _ _ _ _ (_ :: _) 0 _ _
      refine f_v (fun wl hbl => by have hs := hs.below_ hbl; first | exact (r_move (v := sV _) rfl) | exact (r_move rfl)) ?_
      refine f_call (r_call Try.func37 rfl rfl) ?_
      refine Calls.mono (refwhole_c' 1 (by decide) _) ?_
      rintro e w_ ⟨rfl, hb⟩
      have hbF := hbF.trans (Below.mono hb hbF.size)
      refine ⟨_, rfl, hb, ?_⟩
      rw [e65]
      refine f_v (fun wl hbl => by have hs := hs.below_ hbl; exact (r_adds rfl rfl (by show r.key.length + 1 ≤ _; rw [h.1]; decide))) ?_
      refine f_v (fun wl hbl => by have hs := hs.below_ hbl; first | exact (r_fieldAddr0 (off := 32) (T := 23) (by kernel_rfl) rfl) | exact (r_fieldAddr (off := 32) (T := 23) (by kernel_rfl) rfl)) ?_
      refine f_v (fun wl hbl => by have hs := hs.below_ hbl; exact (r_slice_all Try.underlying23 I5 rfl (by decide))) ?_
      refine f_v (fun wl hbl => by have hs := hs.below_ hbl; exact (r_cv_bs (l := r.base) Try.underlying61 Try.underlying5 Try.underlying9 rfl (rd_part (hs.at_ 0).1 hbase hBL (by decide)))) ?_
      refine f_nil ?_
      have hs := hs.below_ hbF
      show OkL _ _ _ _ (_ :: _) _ _
      refine l_v (r_adds rfl rfl (by rw [ByteArray.size_append]; show r.key.length + 1 + r.base.length ≤ _; rw [h.1, h.2]; decide)) ?_
      refine l_v (by first | exact (r_assign (v := sV _) rfl) | exact (r_assign rfl)) ?_
      refine l_nil (nrm_then ?_)
      refine c_rseq ?_
      refine l_v (by first | exact (r_move (v := sV _) rfl) | exact (r_move rfl)) ?_
      refine l_v (by first | exact (r_fieldAddr0 (off := 65) (T := 9) (by kernel_rfl) rfl) | exact (r_fieldAddr (off := 65) (T := 9) (by kernel_rfl) rfl)) ?_
      refine l_v (r_load_at (i := 0) hs rfl Try.underlying9 rfl hbody) ?_
      refine l_call (r_call Try.func38 rfl rfl) ?_
      refine Calls.mono (reftext_c (ofL r.body) (by show r.body.length ≤ _; omega) w _ _ hs) ?_
      rintro e w_ ⟨rfl, hs⟩
      refine ⟨_, rfl, ?_⟩
      refine l_v (r_adds rfl rfl (by rw [ByteArray.size_append, ByteArray.size_append]; show r.key.length + 1 + r.base.length + (encT r.body).length ≤ _; rw [h.1, h.2]; omega)) ?_
      have e1 : ofL r.key ++ ofL [65] ++ ofL r.base ++ ofL (encT (toL (ofL r.body))) = ofL (bodyOf r) := Eng.toL_inj (by
        rw [Eng.toL_append, Eng.toL_append, Eng.toL_append, hbo]; simp only [Eng.toL_ofL, List.append_assoc])
      rw [e1]
      refine l_call (r_call Try.func13 rfl rfl) ?_
      refine Calls.mono (RefCrc.put_c _ hpz _) ?_
      rintro e w_ ⟨rfl, hb2⟩
      refine ⟨_, rfl, ?_⟩
      have hs := hs.below_ hb2
      refine l_v (by first | exact (r_assign (v := sV _) rfl) | exact (r_assign rfl)) ?_
      refine l_v (by first | exact (r_assign (v := iV _) rfl) | exact (r_assign rfl)) ?_
      refine l_nil (nrm_then ?_)
      refine c_ret ?_
      show Fin _ _ _ _ _
      refine fin2 rfl ?_
      rw [he]
      exact ⟨rfl, hs.below⟩
    · have f : (!r.patch) = true := by rw [hp]; rfl
      have hbo : bodyOf r = r.key ++ [64] ++ encT r.body := by unfold bodyOf; rw [hp]; rfl
      refine l_v (by first | exact (r_move (v := bV _) rfl) | exact (r_move rfl)) ?_
      refine l_vg (by first | exact (r_fieldAddr0 (off := 32) (T := 23) (by kernel_rfl) rfl) | exact (r_fieldAddr (off := 32) (T := 23) (by kernel_rfl) rfl)) rfl (f) ?_
      refine l_vg (r_load_part (i := 0) hs rfl Try.underlying23 I23 rfl hbase hBL) rfl (f) ?_
      refine l_vg (r_build0 Try.underlying23 I23 I5) rfl (f) ?_
      refine l_vg (r_neA (a := r.base) (b := zeros) Try.underlying23 Try.underlying5 I5 (by kernel_rfl) rfl rfl h.2 rfl) rfl (f) ?_
      refine l_v (r_pick_t rfl f rfl) ?_
      refine l_nil (nrm_then ?_)
      refine c_cond rfl (fun hne => ?_) (fun hne => ?_)
      · replace hne := of_decide_eq_true hne
        refine c_rseq ?_
        refine l_v (by first | exact (r_assign (v := sV _) rfl) | exact (r_assign rfl)) ?_
        refine l_v (by first | exact (r_assign (v := iV _) rfl) | exact (r_assign rfl)) ?_
        refine l_nil (nrm_then ?_)
        refine c_ret (ret_then ?_)
        show Fin _ _ _ _ _
        refine fin2 rfl ?_
        have e : packR r = ([], 1) := by
          unfold packR
          rw [if_neg hlen', if_pos ⟨hp, hne⟩]
        rw [e]
        exact ⟨rfl, hs.below⟩
      · have he : packR r = (put (bodyOf r), 0) := by
          unfold packR
          rw [if_neg hlen', if_neg (fun hh => (of_decide_eq_false hne) hh.2)]
        replace hne := of_decide_eq_false hne
        refine c_skip (nrm_then ?_)
        refine c_rseq ?_
        refine l_v (by first | exact (r_fieldAddr0 (off := 0) (T := 23) (by kernel_rfl) rfl) | exact (r_fieldAddr (off := 0) (T := 23) (by kernel_rfl) rfl)) ?_
        refine l_v (r_slice_all Try.underlying23 I5 rfl (by decide)) ?_
        refine l_v (r_cv_bs (l := r.key) Try.underlying61 Try.underlying5 Try.underlying9 rfl (rd_part (hs.at_ 0).1 hkey hkl (by decide))) ?_
        refine l_v (by first | exact (r_assign (v := sV _) rfl) | exact (r_assign rfl)) ?_
        refine l_nil (nrm_then ?_)
        refine c_seq ?_
        refine c_rseq ?_
        refine l_v (by first | exact (r_fieldAddr0 (off := 64) (T := 4) (by kernel_rfl) rfl) | exact (r_fieldAddr (off := 64) (T := 4) (by kernel_rfl) rfl)) ?_
        refine l_v (r_load_at (i := 0) hs rfl Try.underlying4 rfl hp64) ?_
        refine l_nil (nrm_then ?_)
        refine c_false rfl (hp) ?_
        have e64 : encW 0 = [64] := by unfold encW; rw [if_neg (by decide), show (0 : Int).toNat = 0 from rfl, enc0]
        refine c_region ?_
        refine l_v (by first | exact (r_move (v := sV _) rfl) | exact (r_move rfl)) ?_
        refine l_call (r_call Try.func37 rfl rfl) ?_
        refine Calls.mono (refwhole_c 0 (by decide) w _ _ hs) ?_
        rintro e w_ ⟨rfl, hs⟩
        refine ⟨_, rfl, ?_⟩
        rw [e64]
        refine l_v (r_adds rfl rfl (by show r.key.length + 1 ≤ _; rw [h.1]; decide)) ?_
        refine l_v (by first | exact (r_assign (v := sV _) rfl) | exact (r_assign rfl)) ?_
        refine l_nil (nrm_then ?_)
        refine c_rseq ?_
        refine l_v (by first | exact (r_move (v := sV _) rfl) | exact (r_move rfl)) ?_
        refine l_v (by first | exact (r_fieldAddr0 (off := 65) (T := 9) (by kernel_rfl) rfl) | exact (r_fieldAddr (off := 65) (T := 9) (by kernel_rfl) rfl)) ?_
        refine l_v (r_load_at (i := 0) hs rfl Try.underlying9 rfl hbody) ?_
        refine l_call (r_call Try.func38 rfl rfl) ?_
        refine Calls.mono (reftext_c (ofL r.body) (by show r.body.length ≤ _; omega) w _ _ hs) ?_
        rintro e w_ ⟨rfl, hs⟩
        refine ⟨_, rfl, ?_⟩
        refine l_v (r_adds rfl rfl (by rw [ByteArray.size_append]; show r.key.length + 1 + (encT r.body).length ≤ _; rw [h.1]; omega)) ?_
        have e1 : ofL r.key ++ ofL [64] ++ ofL (encT (toL (ofL r.body))) = ofL (bodyOf r) := Eng.toL_inj (by
          rw [Eng.toL_append, Eng.toL_append, hbo])
        rw [e1]
        refine l_call (r_call Try.func13 rfl rfl) ?_
        refine Calls.mono (RefCrc.put_c _ hpz _) ?_
        rintro e w_ ⟨rfl, hb2⟩
        refine ⟨_, rfl, ?_⟩
        have hs := hs.below_ hb2
        refine l_v (by first | exact (r_assign (v := sV _) rfl) | exact (r_assign rfl)) ?_
        refine l_v (by first | exact (r_assign (v := iV _) rfl) | exact (r_assign rfl)) ?_
        refine l_nil (nrm_then ?_)
        refine c_ret ?_
        show Fin _ _ _ _ _
        refine fin2 rfl ?_
        rw [he]
        exact ⟨rfl, hs.below⟩
end Go.Proofs.Ytiipibmliffghaa.Box
