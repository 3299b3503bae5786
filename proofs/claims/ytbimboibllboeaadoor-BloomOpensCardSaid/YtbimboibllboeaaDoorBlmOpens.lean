/- The walk of BloomOpens. -/
import Derived.Test.YtbimboibllboeaaDoorBlmMakes
namespace Go.Proofs.YtbimboibllboeaaDoor.Blm
open Go Go.RowKit Go.ChangeShapes Go.WideShapes Go.Proofs.YtbimboibllboeaaDoor.Eng Go.Proofs.YtbimboibllboeaaDoor.Sha Go.Proofs.YtbimboibllboeaaDoor.Six
set_option linter.unusedVariables false
set_option maxRecDepth 100000
theorem pack_open {l : List UInt8} (h : openE l = 0) : packF (openH l) (openB l) = l ∧ (1 ≤ openH l ∧ openH l ≤ 8) ∧ (openB l).length ≠ 0 ∧ (openB l).length ≤ l.length := by
  unfold openE at h
  split at h
  · rename_i h1; exact absurd h h1
  · rename_i h1
    split at h
    · cases h
    · rename_i h2
      split at h
      · rename_i h3; exact absurd h h3
      · rename_i h3
        split at h
        · cases h
        · rename_i h4
          split at h
          · cases h
          · rename_i h5
            have c1 := count_canon (Classical.not_not.1 h1)
            have c2 := (text_canon (Classical.not_not.1 h3)).1
            have h5' := Classical.not_not.1 h5
            have hle := text_le (l.drop (count l).2.1)
            rw [List.length_drop] at hle
            have h2' := not_or.1 h2
            have h4' := not_or.1 h4
            refine ⟨?_, ⟨by unfold openH; omega, by unfold openH; omega⟩, h4'.1, by unfold openB; omega⟩
            have e1 : l = l.take (count l).2.1 ++ ((l.drop (count l).2.1).take (text (l.drop (count l).2.1)).2.1 ++ (l.drop (count l).2.1).drop (text (l.drop (count l).2.1)).2.1) := by
              rw [List.take_append_drop, List.take_append_drop]
            unfold packF openH openB encT
            conv => rhs; rw [e1, h5', List.append_nil, c1, c2]
section
variable {s : ByteArray} {w0 w : World} {R : List HP}
theorem ropen_no (hE : openE (toL s) ≠ 0) (hz : s.size ≤ 100000) (hs : Eng.Sep w0 w R) :
    Calls Tryd.prog 17 #[sV s] w fun e w' => e = .returned (.tuple #[.agg #[iV 0, .slice none 0 0], iV (openE (toL s))]) ∧ Eng.Sep w0 w' R :=
  (ropen_c s hz w0 w R hs).mono fun e w' h => h.elim (fun h => h.2) (fun h => absurd h.1 hE)
theorem ropen_yes (hE : openE (toL s) = 0) (hz : s.size ≤ 100000) (hs : Eng.Sep w0 w R) :
    Calls Tryd.prog 17 #[sV s] w fun e w' => ∃ (A : Option Addr) (c : Nat), e = .returned (.tuple #[rfV (openH (toL s)) A (8 * (openB (toL s)).length) c, iV 0]) ∧ Eng.Sep w0 w' (RowC 4 1 (.slice A (8 * (openB (toL s)).length) c) (8 * (openB (toL s)).length) (bvs (openB (toL s))) :: R) := by
  refine (ropen_c s hz w0 w R hs).mono fun e w' h => h.elim (fun h => absurd hE h.1) ?_
  rintro ⟨_, v, he, h⟩
  obtain ⟨A, c, rfl, hc⟩ := h.rowForm
  rw [BL_len] at he
  unfold rowT at h
  rw [BL_len] at h
  exact ⟨A, c, he, h⟩
end
set_option maxHeartbeats 8000000 in
theorem opens_walk {w : World} (s : ByteArray) (_ : s.size ≤ 140737488351232) (A3 : Option Addr) (c3 : Nat) (ks : List ByteArray) (hr3 : Rd w 1 A3 ks.length (ks.map sV)) (hcap3 : ks.length ≤ c3) (hsz3 : ∀ s ∈ ks, s.size ≤ 9223372036854775807) (h0 : Ok0 w) :
    Calls Tryd.prog 7 #[sV s, .slice A3 ks.length c3] w fun e w' => e = .returned (bV true) ∧ Below w.heap.size w w' := by
  have hsl := toL_size s
  refine enter (P := Tryd.prog) Tryd.func7 rfl rfl ?_
  have hs := Eng.Sep.init w
  refine c_rseq ?_
  refine l_v (by first | exact (r_assign (v := bV _) rfl) | exact (r_assign rfl)) ?_
  refine l_nil (nrm_then ?_)
  refine c_seq ?_
  refine c_rseq ?_
  refine l_call (r_call Tryd.func8 rfl rfl) ?_
  refine Calls.mono (awake_c _ h0) ?_
  rintro e w_ ⟨rfl, hb⟩
  refine ⟨_, rfl, ?_⟩
  have hs := hs.below_ hb
  refine l_v (r_not rfl) ?_
  refine l_v (by first | exact (r_move (v := bV _) rfl) | exact (r_move rfl)) ?_
  refine l_vg (by first | exact (r_move (v := .slice _ _ _) rfl) | exact (r_move rfl)) rfl (rfl) ?_
  refine l_callg (r_call Tryd.func9 rfl rfl) rfl (rfl) ?_
  refine Calls.mono (few_c A3 c3 ks _ (hr3.below hs.below)) ?_
  rintro e w_ ⟨bf3, rfl, hfew3, hb⟩
  refine ⟨_, rfl, ?_⟩
  have hs := hs.below_ hb
  refine l_vg (r_not rfl) rfl (rfl) ?_
  refine l_v (r_pick_f rfl rfl rfl) ?_
  refine l_v (by first | exact (r_move (v := bV _) rfl) | exact (r_move rfl)) ?_
  rcases Bool.eq_false_or_eq_true bf3 with hbf | hbf
  · obtain ⟨hn3, hz3⟩ := hfew3 hbf
    have fb : (!bf3) = false := by rw [hbf]; rfl
    refine l_vg (by first | exact (r_move (v := sV _) rfl) | exact (r_move rfl)) rfl (fb) ?_
    refine l_vg (r_len_s Tryd.underlying9 rfl) rfl (fb) ?_
    refine l_vg (r_gtri rfl rfl) rfl (fb) ?_
    refine l_v (r_pick_f rfl fb rfl) ?_
    refine l_nil (nrm_then ?_)
    refine c_cond rfl (fun h1 => ?_) (fun h1 => ?_)
    · replace h1 := of_decide_eq_true h1
      refine c_rseq ?_
      refine l_call (r_call Tryd.func8 rfl rfl) ?_
      refine Calls.mono (awake_c _ (h0.sep hs)) ?_
      rintro e w_ ⟨rfl, hb⟩
      refine ⟨_, rfl, ?_⟩
      have hs := hs.below_ hb
      refine l_v (by first | exact (r_assign (v := bV _) rfl) | exact (r_assign rfl)) ?_
      refine l_nil (nrm_then ?_)
      refine c_ret (ret_then ?_)
      show Fin _ _ _ _ _
      refine fin1 rfl ?_
      exact ⟨rfl, hs.below⟩
    · have hz : s.size ≤ 100000 := by have := of_decide_eq_false h1; omega
      replace h1 := of_decide_eq_false h1
      refine c_skip (nrm_then ?_)
      refine c_rseq ?_
      refine l_v (by first | exact (r_move (v := sV _) rfl) | exact (r_move rfl)) ?_
      refine l_call (r_call Tryd.func16 rfl rfl) ?_
      refine Calls.mono (open_c s (by omega) w _ _ hs) ?_
      rintro e w_ ⟨q, rfl, hq, hs⟩
      refine ⟨_, rfl, ?_⟩
      by_cases hE : openE (toL s) = 0
      · obtain ⟨bf, rfl⟩ : ∃ bf, q = some bf := by
          cases q with
          | none => exact absurd hE (hq.1 rfl)
          | some bf => exact ⟨bf, rfl⟩
        have hs : Eng.Sep w w_ (filH bf (openH (toL s)) (openB (toL s)) :: []) := hs
        obtain ⟨o1, o2, o3, o4⟩ := pack_open hE
        rw [hE]
        refine l_v (r_move rfl) ?_
        refine l_v (r_extract rfl rfl) ?_
        refine l_v (r_extract rfl rfl) ?_
        refine l_v (r_assign (v := .pointer _) rfl) ?_
        refine l_v (by first | exact (r_assign (v := iV _) rfl) | exact (r_assign rfl)) ?_
        refine l_nil (nrm_then ?_)
        refine c_rseq ?_
        refine l_v (by first | exact (r_move (v := sV _) rfl) | exact (r_move rfl)) ?_
        refine l_call (r_call Tryd.func17 rfl rfl) ?_
        refine Calls.mono (ropen_yes hE hz hs) ?_
        rintro e w_ ⟨A2, c2, rfl, hs⟩
        refine ⟨_, rfl, ?_⟩
        generalize openB (toL s) = B at *
        generalize openH (toL s) = H at *
        have hBz : 0 < B.length ∧ B.length ≤ 1099511627 := by omega
        refine l_v (r_move rfl) ?_
        refine l_v (r_extract rfl rfl) ?_
        refine l_v (r_extract rfl rfl) ?_
        refine l_alloc hs I31 ?_
        intro b7 w7 hs hB7 hlt7
        first | refine l_store_whole (i := 0) hs rfl I31 rfl rfl (by first | assumption | (simp; done)) (by first | assumption | (simp; done)) (by first | assumption | simp [Value.oneCell']) ?_ | refine l_store_whole (i := 1) hs rfl I31 rfl rfl (by first | assumption | (simp; done)) (by first | assumption | (simp; done)) (by first | assumption | simp [Value.oneCell']) ?_ | refine l_store_whole (i := 2) hs rfl I31 rfl rfl (by first | assumption | (simp; done)) (by first | assumption | (simp; done)) (by first | assumption | simp [Value.oneCell']) ?_ | refine l_store_whole (i := 3) hs rfl I31 rfl rfl (by first | assumption | (simp; done)) (by first | assumption | (simp; done)) (by first | assumption | simp [Value.oneCell']) ?_ | refine l_store_whole (i := 4) hs rfl I31 rfl rfl (by first | assumption | (simp; done)) (by first | assumption | (simp; done)) (by first | assumption | simp [Value.oneCell']) ?_ | refine l_store_whole (i := 5) hs rfl I31 rfl rfl (by first | assumption | (simp; done)) (by first | assumption | (simp; done)) (by first | assumption | simp [Value.oneCell']) ?_ | refine l_store_whole (i := 6) hs rfl I31 rfl rfl (by first | assumption | (simp; done)) (by first | assumption | (simp; done)) (by first | assumption | simp [Value.oneCell']) ?_
        intro w_ hs
        refine l_v (by first | exact (r_assign (v := iV _) rfl) | exact (r_assign rfl)) ?_
        refine l_nil (nrm_then ?_)
        refine c_seq ?_
        refine c_rseq ?_
        refine l_v (by first | exact (r_move (v := iV _) rfl) | exact (r_move rfl)) ?_
        refine l_v (by first | exact (r_move (v := iV _) rfl) | exact (r_move rfl)) ?_
        refine l_v (r_neqi rfl rfl) ?_
        refine l_v (by first | exact (r_move (v := bV _) rfl) | exact (r_move rfl)) ?_
        refine l_vg (r_move (v := .pointer _) rfl) rfl (rfl) ?_
        refine l_vg (by first | exact (r_eqlp_some Tryd.underlying25 rfl rfl) | exact (r_eqlp_none Tryd.underlying25 rfl rfl)) rfl (rfl) ?_
        refine l_vg (by first | exact (r_move (v := iV _) rfl) | exact (r_move rfl)) rfl (rfl) ?_
        refine l_vg (r_neqi rfl rfl) rfl (rfl) ?_
        refine l_vg (r_neqb Tryd.underlying4 rfl rfl) rfl (rfl) ?_
        refine l_v (r_pick_f rfl rfl rfl) ?_
        refine l_nil (nrm_then ?_)
        refine c_false rfl (rfl) ?_
        have hs : Eng.Sep w w_ (blk b7 [iV (H : Int), .slice A2 (8 * B.length) c2] 31 :: RowC 4 1 (.slice A2 (8 * B.length) c2) (8 * B.length) (bvs B) :: filH bf H B :: []) := hs
        obtain ⟨A1, c1, hf1⟩ := fil_at (hs.pull 2)
        refine c_skip (nrm_then ?_)
        refine c_rseq ?_
        refine l_v (r_move (v := .pointer _) rfl) ?_
        refine l_v (by first | exact (r_eqlp_some Tryd.underlying25 rfl rfl) | exact (r_eqlp_none Tryd.underlying25 rfl rfl)) ?_
        refine l_v (by first | exact (r_move (v := bV _) rfl) | exact (r_move rfl)) ?_
        refine l_vg (r_move (v := .pointer _) rfl) rfl (rfl) ?_
        refine l_vg (r_load_whole (i := 0) hs rfl Tryd.underlying31 I31 rfl rfl) rfl (rfl) ?_
        refine l_vg (by first | exact (r_move (v := .slice _ _ _) rfl) | exact (r_move rfl)) rfl (rfl) ?_
        refine l_callg (r_call Tryd.func12 rfl rfl) rfl (rfl) ?_
        refine Calls.mono (same_c bf H c1 c2 c3 A1 A2 A3 B ks o2.2 hBz.1 hBz.2 hz3 _ (h0.sep hs) hf1 (hs.pull 1).rd (hr3.below hs.below)) ?_
        rintro e w_ ⟨rfl, hb⟩
        refine ⟨_, rfl, ?_⟩
        have hs := hs.below_ hb
        have hf1 := hf1.below hb
        refine l_vg (by first | exact (r_move (v := bV _) rfl) | exact (r_move rfl)) rfl (rfl) ?_
        refine l_vg (r_move (v := .pointer _) rfl) rfl (rfl) ?_
        refine l_callg (r_call Tryd.func13 rfl rfl) rfl (rfl) ?_
        refine Calls.mono (pack_c bf H c1 A1 B _ o2.2 (by omega) hf1) ?_
        rintro e w_ ⟨rfl, hb⟩
        refine ⟨_, rfl, ?_⟩
        have hs := hs.below_ hb
        have f53 : decide (ofL (packF H B) = s) = true := decide_eq_true (Eng.toL_inj (by rw [Eng.toL_ofL, o1]))
        refine l_vg (by first | exact (r_move (v := sV _) rfl) | exact (r_move rfl)) rfl (rfl) ?_
        refine l_vg (r_eqls rfl rfl) rfl (rfl) ?_
        refine l_vg (r_pick_t rfl rfl rfl) rfl (rfl) ?_
        refine l_v (r_pick_f rfl rfl rfl) ?_
        refine l_v (by first | exact (r_assign (v := bV _) rfl) | exact (r_assign rfl)) ?_
        refine l_nil (nrm_then ?_)
        refine c_ret ?_
        show Fin _ _ _ _ _
        refine fin1 rfl ?_
        exact ⟨congrArg Ending.returned (congrArg Value.bool f53), hs.below⟩
      · obtain rfl : q = none := hq.2 hE
        have hs : Eng.Sep w w_ [] := hs
        have f34 : decide (openE (toL s) ≠ openE (toL s)) = false := by simp
        have f40 : (true != decide (openE (toL s) ≠ 0)) = false := by rw [decide_eq_true hE]; rfl
        refine l_v (r_move rfl) ?_
        refine l_v (r_extract rfl rfl) ?_
        refine l_v (r_extract rfl rfl) ?_
        refine l_v (r_assign (v := .pointer _) rfl) ?_
        refine l_v (by first | exact (r_assign (v := iV _) rfl) | exact (r_assign rfl)) ?_
        refine l_nil (nrm_then ?_)
        refine c_rseq ?_
        refine l_v (by first | exact (r_move (v := sV _) rfl) | exact (r_move rfl)) ?_
        refine l_call (r_call Tryd.func17 rfl rfl) ?_
        refine Calls.mono (ropen_no hE hz hs) ?_
        rintro e w_ ⟨rfl, hs⟩
        refine ⟨_, rfl, ?_⟩
        refine l_v (r_move rfl) ?_
        refine l_v (r_extract rfl rfl) ?_
        refine l_v (r_extract rfl rfl) ?_
        refine l_alloc hs I31 ?_
        intro b7 w7 hs hB7 hlt7
        first | refine l_store_whole (i := 0) hs rfl I31 rfl rfl (by first | assumption | (simp; done)) (by first | assumption | (simp; done)) (by first | assumption | simp [Value.oneCell']) ?_ | refine l_store_whole (i := 1) hs rfl I31 rfl rfl (by first | assumption | (simp; done)) (by first | assumption | (simp; done)) (by first | assumption | simp [Value.oneCell']) ?_ | refine l_store_whole (i := 2) hs rfl I31 rfl rfl (by first | assumption | (simp; done)) (by first | assumption | (simp; done)) (by first | assumption | simp [Value.oneCell']) ?_ | refine l_store_whole (i := 3) hs rfl I31 rfl rfl (by first | assumption | (simp; done)) (by first | assumption | (simp; done)) (by first | assumption | simp [Value.oneCell']) ?_ | refine l_store_whole (i := 4) hs rfl I31 rfl rfl (by first | assumption | (simp; done)) (by first | assumption | (simp; done)) (by first | assumption | simp [Value.oneCell']) ?_ | refine l_store_whole (i := 5) hs rfl I31 rfl rfl (by first | assumption | (simp; done)) (by first | assumption | (simp; done)) (by first | assumption | simp [Value.oneCell']) ?_ | refine l_store_whole (i := 6) hs rfl I31 rfl rfl (by first | assumption | (simp; done)) (by first | assumption | (simp; done)) (by first | assumption | simp [Value.oneCell']) ?_
        intro w_ hs
        refine l_v (by first | exact (r_assign (v := iV _) rfl) | exact (r_assign rfl)) ?_
        refine l_nil (nrm_then ?_)
        refine c_seq ?_
        refine c_rseq ?_
        refine l_v (by first | exact (r_move (v := iV _) rfl) | exact (r_move rfl)) ?_
        refine l_v (by first | exact (r_move (v := iV _) rfl) | exact (r_move rfl)) ?_
        refine l_v (r_neqi rfl rfl) ?_
        refine l_v (by first | exact (r_move (v := bV _) rfl) | exact (r_move rfl)) ?_
        refine l_vg (r_move (v := .pointer _) rfl) rfl (f34) ?_
        refine l_vg (by first | exact (r_eqlp_some Tryd.underlying25 rfl rfl) | exact (r_eqlp_none Tryd.underlying25 rfl rfl)) rfl (f34) ?_
        refine l_vg (by first | exact (r_move (v := iV _) rfl) | exact (r_move rfl)) rfl (f34) ?_
        refine l_vg (r_neqi rfl rfl) rfl (f34) ?_
        refine l_vg (r_neqb Tryd.underlying4 rfl rfl) rfl (f34) ?_
        refine l_v (r_pick_f rfl f34 rfl) ?_
        refine l_nil (nrm_then ?_)
        refine c_false rfl (f40) ?_
        refine c_skip (nrm_then ?_)
        refine c_rseq ?_
        refine l_v (r_move (v := .pointer _) rfl) ?_
        refine l_v (by first | exact (r_eqlp_some Tryd.underlying25 rfl rfl) | exact (r_eqlp_none Tryd.underlying25 rfl rfl)) ?_
        refine l_v (by first | exact (r_move (v := bV _) rfl) | exact (r_move rfl)) ?_
        refine l_no rfl (rfl) ?_
        refine l_no rfl (rfl) ?_
        refine l_no rfl (rfl) ?_
        refine l_no rfl (rfl) ?_
        refine l_no rfl (rfl) ?_
        refine l_skip (.inr rfl) ?_
        refine l_skip (.inr rfl) ?_
        refine l_skip (.inr rfl) ?_
        refine l_skip (.inr rfl) ?_
        refine l_no rfl (rfl) ?_
        refine l_v (r_pick_t rfl rfl rfl) ?_
        refine l_v (by first | exact (r_assign (v := bV _) rfl) | exact (r_assign rfl)) ?_
        refine l_nil (nrm_then ?_)
        refine c_ret ?_
        show Fin _ _ _ _ _
        refine fin1 rfl ?_
        exact ⟨rfl, hs.below⟩
  · skip
    have fb : (!bf3) = true := by rw [hbf]; rfl
    refine l_no rfl (fb) ?_
    refine l_no rfl (fb) ?_
    refine l_no rfl (fb) ?_
    refine l_v (r_pick_t rfl fb rfl) ?_
    refine l_nil (nrm_then ?_)
    refine c_true rfl (rfl) ?_
    refine c_rseq ?_
    refine l_call (r_call Tryd.func8 rfl rfl) ?_
    refine Calls.mono (awake_c _ (h0.sep hs)) ?_
    rintro e w_ ⟨rfl, hb⟩
    refine ⟨_, rfl, ?_⟩
    have hs := hs.below_ hb
    refine l_v (by first | exact (r_assign (v := bV _) rfl) | exact (r_assign rfl)) ?_
    refine l_nil (nrm_then ?_)
    refine c_ret (ret_then ?_)
    show Fin _ _ _ _ _
    refine fin1 rfl ?_
    exact ⟨rfl, hs.below⟩
end Go.Proofs.YtbimboibllboeaaDoor.Blm
