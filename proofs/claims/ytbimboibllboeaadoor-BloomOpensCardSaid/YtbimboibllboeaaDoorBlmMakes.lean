/- The walks of BloomMakes and BloomOpens. -/
import Derived.Test.YtbimboibllboeaaDoorBlmSame
import Derived.Test.YtbimboibllboeaaDoorBlmMore
namespace Go.Proofs.YtbimboibllboeaaDoor.Blm
open Go Go.RowKit Go.ChangeShapes Go.WideShapes Go.Proofs.YtbimboibllboeaaDoor.Eng Go.Proofs.YtbimboibllboeaaDoor.Sha Go.Proofs.YtbimboibllboeaaDoor.Six
set_option linter.unusedVariables false
set_option maxRecDepth 100000
theorem rowB_appl {w0 w : World} {v : Value} {l q : List ByteArray} {L : List HP} (hs : Eng.Sep w0 w (RowC 9 1 v (l.length + q.length) (l.map sV ++ q.map sV) :: L)) : Eng.Sep w0 w (rowB v (l ++ q) :: L) := by
  unfold rowB; rw [List.length_append, List.map_append]; exact hs
section
variable {per : Int} {A : Option Addr} {c : Nat} {keys : List ByteArray} {w0 w : World} {R : List HP}
theorem rmake_no (hE : makeE per keys.length ≠ 0) (hn : keys.length ≤ 2000) (hz : ∀ s ∈ keys, s.size ≤ 100000) (hs : Eng.Sep w0 w R) (hr0 : ∀ w', Eng.Sep w0 w' R → Rd w' 1 A keys.length (keys.map sV)) :
    Calls Tryd.prog 11 #[iV per, .slice A keys.length c] w fun e w' => e = .returned (.tuple #[.agg #[iV 0, .slice none 0 0], iV (makeE per keys.length)]) ∧ Eng.Sep w0 w' R :=
  (rmake_c per A c keys hn hz w0 w R hs hr0).mono fun e w' h => h.elim (fun h => h.2) (fun h => absurd h.1 hE)
theorem rmake_yes (hE : makeE per keys.length = 0) (hn : keys.length ≤ 2000) (hz : ∀ s ∈ keys, s.size ≤ 100000) (hs : Eng.Sep w0 w R) (hr0 : ∀ w', Eng.Sep w0 w' R → Rd w' 1 A keys.length (keys.map sV)) :
    Calls Tryd.prog 11 #[iV per, .slice A keys.length c] w fun e w' => ∃ bb, e = .returned (.tuple #[rfV (hashN per.toNat) (some ⟨bb, 0, none⟩) (8 * (8 * wordsN per.toNat keys.length)) (8 * (8 * wordsN per.toNat keys.length)), iV 0]) ∧ Eng.Sep w0 w' (blk bb (bvs (makeB (hashN per.toNat) (8 * wordsN per.toNat keys.length) (keys.map toL))) 4 :: R) :=
  (rmake_c per A c keys hn hz w0 w R hs hr0).mono fun e w' h => h.elim (fun h => absurd hE h.1) (fun h => h.2)
end
set_option maxHeartbeats 8000000 in
theorem makes_walk {w : World} (per : Int) (_ : (Lit.int .i64 per).wf = true) (A : Option Addr) (c : Nat) (keys : List ByteArray) (hr : Rd w 1 A keys.length (keys.map sV)) (hcap : keys.length ≤ c) (hsz : ∀ s ∈ keys, s.size ≤ 9223372036854775807) (A3 : Option Addr) (c3 : Nat) (ks : List ByteArray) (hr3 : Rd w 1 A3 ks.length (ks.map sV)) (hcap3 : ks.length ≤ c3) (hsz3 : ∀ s ∈ ks, s.size ≤ 9223372036854775807) (h0 : Ok0 w) :
    Calls Tryd.prog 3 #[iV per, .slice A keys.length c, .slice A3 ks.length c3] w fun e w' => e = .returned (bV true) ∧ Below w.heap.size w w' := by
  refine enter (P := Tryd.prog) Tryd.func3 rfl rfl ?_
  have hs := Eng.Sep.init w
  refine c_rseq ?_
  refine l_v (by first | exact (r_assign (v := bV _) rfl) | exact (r_assign rfl)) ?_
  refine l_nil (nrm_then ?_)
  refine c_seq ?_
  refine c_rseq ?_
  refine l_call (r_call Tryd.func8 rfl rfl) ?_
  refine Calls.mono (awake_c _ h0) ?_
  rintro e w_ ⟨rfl, hb⟩
  refine ⟨_, rfl, ?_⟩
  have hs := hs.below_ hb
  refine l_v (r_not rfl) ?_
  refine l_v (by first | exact (r_move (v := bV _) rfl) | exact (r_move rfl)) ?_
  refine l_vg (by first | exact (r_move (v := .slice _ _ _) rfl) | exact (r_move rfl)) rfl (rfl) ?_
  refine l_callg (r_call Tryd.func9 rfl rfl) rfl (rfl) ?_
  refine Calls.mono (few_c A c keys _ (hr.below hs.below)) ?_
  rintro e w_ ⟨bf, rfl, hfew, hb⟩
  refine ⟨_, rfl, ?_⟩
  have hs := hs.below_ hb
  refine l_vg (r_not rfl) rfl (rfl) ?_
  refine l_v (r_pick_f rfl rfl rfl) ?_
  refine l_v (by first | exact (r_move (v := bV _) rfl) | exact (r_move rfl)) ?_
  rcases Bool.eq_false_or_eq_true bf with hbf | hbf
  · obtain ⟨hn, hz⟩ := hfew hbf
    have fb : (!bf) = false := by rw [hbf]; rfl
    refine l_vg (by first | exact (r_move (v := .slice _ _ _) rfl) | exact (r_move rfl)) rfl (fb) ?_
    refine l_callg (r_call Tryd.func9 rfl rfl) rfl (fb) ?_
    refine Calls.mono (few_c A3 c3 ks _ (hr3.below hs.below)) ?_
    rintro e w_ ⟨bf3, rfl, hfew3, hb⟩
    refine ⟨_, rfl, ?_⟩
    have hs := hs.below_ hb
    refine l_vg (r_not rfl) rfl (fb) ?_
    refine l_v (r_pick_f rfl fb rfl) ?_
    refine l_nil (nrm_then ?_)
    rcases Bool.eq_false_or_eq_true bf3 with hbf3 | hbf3
    · obtain ⟨hn3, hz3⟩ := hfew3 hbf3
      refine c_false rfl ((by rw [hbf3]; rfl)) ?_
      refine c_skip (nrm_then ?_)
      refine c_rseq ?_
      refine l_v (by first | exact (r_move (v := iV _) rfl) | exact (r_move rfl)) ?_
      refine l_lit0 hs Tryd.underlying22 I9 ?_
      intro b26 w26 hs hB26 hlt26
      refine l_v (by first | exact (r_move (v := .slice _ _ _) rfl) | exact (r_move rfl)) ?_
      have hs : Eng.Sep w _ (rowB (.slice (some ⟨b26, 0, none⟩) 0 0) [] :: []) := hs.rowOf 1 0 0 (Nat.le_refl _) (by decide) rfl
      refine l_append Tryd.underlying22 I9 rfl (by decide) rfl rfl hs (hr.below hs.below) (one_map (fun _ => rfl) _) (by show (0 + keys.length) * _ ≤ _; omega) (by show 0 + keys.length ≤ _; omega) ?_
      intro v28 w28 hs
      have hs := rowB_appl (l := []) hs
      rw [List.nil_append] at hs
      obtain ⟨A2, c2, rfl, hc2⟩ := hs.rowForm
      refine l_call (r_call Tryd.func10 rfl rfl) ?_
      refine Calls.mono (make_c per A2 c2 keys hsz w _ _ h0 hr.2.1 hs (fun w' h => h.rd)) ?_
      rintro e w_ ⟨q, rfl, hq, hs⟩
      refine ⟨_, rfl, ?_⟩
      by_cases hE : makeE per keys.length = 0
      · obtain ⟨bf, rfl⟩ : ∃ bf, q = some bf := by
          cases q with
          | none => exact absurd hE (hq.1 rfl)
          | some bf => exact ⟨bf, rfl⟩
        obtain ⟨bb, hs⟩ := hs
        have hW := words_pos per.toNat keys.length
        have hp : 1 ≤ per.toNat ∧ per.toNat ≤ 32 := by
          have h := hE
          unfold makeE at h
          split at h
          · cases h
          · rename_i h2
            have := not_or.1 h2
            omega
        have hW2 := words_le hp.2 hn
        have hH := hash_pos per.toNat
        have hBl := makeB_len (hashN per.toNat) (8 * wordsN per.toNat keys.length) (keys.map toL)
        rw [hE]
        refine l_v (r_move rfl) ?_
        refine l_v (r_extract rfl rfl) ?_
        refine l_v (r_extract rfl rfl) ?_
        refine l_v (r_assign (v := .pointer _) rfl) ?_
        refine l_v (by first | exact (r_assign (v := iV _) rfl) | exact (r_assign rfl)) ?_
        refine l_nil (nrm_then ?_)
        refine c_rseq ?_
        refine l_v (by first | exact (r_move (v := iV _) rfl) | exact (r_move rfl)) ?_
        refine l_v (by first | exact (r_move (v := .slice _ _ _) rfl) | exact (r_move rfl)) ?_
        refine l_call (r_call Tryd.func11 rfl rfl) ?_
        refine Calls.mono (rmake_yes hE hn hz hs (fun w' h => hr.below h.below)) ?_
        rintro e w_ ⟨br, rfl, hs⟩
        refine ⟨_, rfl, ?_⟩
        generalize makeB (hashN per.toNat) (8 * wordsN per.toNat keys.length) (keys.map toL) = B at *
        generalize hashN per.toNat = H at *
        generalize wordsN per.toNat keys.length = Z at *
        have hs : Eng.Sep w w_ (blk br (bvs B) 4 :: blk bf (filC H bb (8 * Z)) 46 :: blk bb (B.map u8V) 5 :: rowB (.slice A2 keys.length c2) keys :: []) := hs
        have hs := fil_made hBl (by omega) (((hs.pull 1).pull 2).pull 1)
        have hBz : 0 < B.length ∧ B.length ≤ 1099511627 := by omega
        rw [← hBl]
        refine l_v (r_move rfl) ?_
        refine l_v (r_extract rfl rfl) ?_
        refine l_v (r_extract rfl rfl) ?_
        refine l_alloc hs I31 ?_
        intro b9 w9 hs hB9 hlt9
        first | refine l_store_whole (i := 0) hs rfl I31 rfl rfl (by first | assumption | (simp; done)) (by first | assumption | (simp; done)) (by first | assumption | simp [Value.oneCell']) ?_ | refine l_store_whole (i := 1) hs rfl I31 rfl rfl (by first | assumption | (simp; done)) (by first | assumption | (simp; done)) (by first | assumption | simp [Value.oneCell']) ?_ | refine l_store_whole (i := 2) hs rfl I31 rfl rfl (by first | assumption | (simp; done)) (by first | assumption | (simp; done)) (by first | assumption | simp [Value.oneCell']) ?_ | refine l_store_whole (i := 3) hs rfl I31 rfl rfl (by first | assumption | (simp; done)) (by first | assumption | (simp; done)) (by first | assumption | simp [Value.oneCell']) ?_ | refine l_store_whole (i := 4) hs rfl I31 rfl rfl (by first | assumption | (simp; done)) (by first | assumption | (simp; done)) (by first | assumption | simp [Value.oneCell']) ?_ | refine l_store_whole (i := 5) hs rfl I31 rfl rfl (by first | assumption | (simp; done)) (by first | assumption | (simp; done)) (by first | assumption | simp [Value.oneCell']) ?_ | refine l_store_whole (i := 6) hs rfl I31 rfl rfl (by first | assumption | (simp; done)) (by first | assumption | (simp; done)) (by first | assumption | simp [Value.oneCell']) ?_
        intro w_ hs
        refine l_v (by first | exact (r_assign (v := iV _) rfl) | exact (r_assign rfl)) ?_
        refine l_nil (nrm_then ?_)
        refine c_seq ?_
        refine c_rseq ?_
        refine l_v (by first | exact (r_move (v := iV _) rfl) | exact (r_move rfl)) ?_
        refine l_v (by first | exact (r_move (v := iV _) rfl) | exact (r_move rfl)) ?_
        refine l_v (r_neqi rfl rfl) ?_
        refine l_v (by first | exact (r_move (v := bV _) rfl) | exact (r_move rfl)) ?_
        refine l_vg (r_move (v := .pointer _) rfl) rfl (rfl) ?_
        refine l_vg (by first | exact (r_eqlp_some Tryd.underlying25 rfl rfl) | exact (r_eqlp_none Tryd.underlying25 rfl rfl)) rfl (rfl) ?_
        refine l_vg (by first | exact (r_move (v := iV _) rfl) | exact (r_move rfl)) rfl (rfl) ?_
        refine l_vg (r_neqi rfl rfl) rfl (rfl) ?_
        refine l_vg (r_neqb Tryd.underlying4 rfl rfl) rfl (rfl) ?_
        refine l_v (r_pick_f rfl rfl rfl) ?_
        refine l_nil (nrm_then ?_)
        refine c_false rfl (rfl) ?_
        have hs : Eng.Sep w w_ (blk b9 [iV (H : Int), .slice (some ⟨br, 0, none⟩) (8 * B.length) (8 * B.length)] 31 :: filH bf H B :: blk br (bvs B) 4 :: rowB (.slice A2 keys.length c2) keys :: []) := hs
        obtain ⟨A1, c1, hf1⟩ := fil_at (hs.pull 1)
        refine c_skip (nrm_then ?_)
        refine c_rseq ?_
        refine l_v (r_move (v := .pointer _) rfl) ?_
        refine l_v (by first | exact (r_eqlp_some Tryd.underlying25 rfl rfl) | exact (r_eqlp_none Tryd.underlying25 rfl rfl)) ?_
        refine l_v (by first | exact (r_move (v := bV _) rfl) | exact (r_move rfl)) ?_
        refine l_vg (r_move (v := .pointer _) rfl) rfl (rfl) ?_
        refine l_vg (r_load_whole (i := 0) hs rfl Tryd.underlying31 I31 rfl rfl) rfl (rfl) ?_
        refine l_vg (by first | exact (r_move (v := .slice _ _ _) rfl) | exact (r_move rfl)) rfl (rfl) ?_
        refine l_callg (r_call Tryd.func12 rfl rfl) rfl (rfl) ?_
        refine Calls.mono (same_c bf H c1 (8 * B.length) c3 A1 (some ⟨br, 0, none⟩) A3 B ks hH.2 hBz.1 hBz.2 hz3 _ (h0.sep hs) hf1 (rd_blk (hs.at_ 2).1 (by rw [bvs_len]; omega) (by omega)) (hr3.below hs.below)) ?_
        rintro e w_ ⟨rfl, hb⟩
        refine ⟨_, rfl, ?_⟩
        have hs := hs.below_ hb
        refine l_v (r_pick_f rfl rfl rfl) ?_
        refine l_v (by first | exact (r_assign (v := bV _) rfl) | exact (r_assign rfl)) ?_
        refine l_nil (nrm_then ?_)
        refine c_ret ?_
        show Fin _ _ _ _ _
        refine fin1 rfl ?_
        exact ⟨rfl, hs.below⟩
      · obtain rfl : q = none := hq.2 hE
        have hs : Eng.Sep w w_ (rowB (.slice A2 keys.length c2) keys :: []) := hs
        have f40 : decide (makeE per keys.length ≠ makeE per keys.length) = false := by simp
        refine l_v (r_move rfl) ?_
        refine l_v (r_extract rfl rfl) ?_
        refine l_v (r_extract rfl rfl) ?_
        refine l_v (r_assign (v := .pointer _) rfl) ?_
        refine l_v (by first | exact (r_assign (v := iV _) rfl) | exact (r_assign rfl)) ?_
        refine l_nil (nrm_then ?_)
        refine c_rseq ?_
        refine l_v (by first | exact (r_move (v := iV _) rfl) | exact (r_move rfl)) ?_
        refine l_v (by first | exact (r_move (v := .slice _ _ _) rfl) | exact (r_move rfl)) ?_
        refine l_call (r_call Tryd.func11 rfl rfl) ?_
        refine Calls.mono (rmake_no hE hn hz hs (fun w' h => hr.below h.below)) ?_
        rintro e w_ ⟨rfl, hs⟩
        refine ⟨_, rfl, ?_⟩
        have f46 : (true != decide (makeE per keys.length ≠ 0)) = false := by rw [decide_eq_true hE]; rfl
        refine l_v (r_move rfl) ?_
        refine l_v (r_extract rfl rfl) ?_
        refine l_v (r_extract rfl rfl) ?_
        refine l_alloc hs I31 ?_
        intro b9 w9 hs hB9 hlt9
        first | refine l_store_whole (i := 0) hs rfl I31 rfl rfl (by first | assumption | (simp; done)) (by first | assumption | (simp; done)) (by first | assumption | simp [Value.oneCell']) ?_ | refine l_store_whole (i := 1) hs rfl I31 rfl rfl (by first | assumption | (simp; done)) (by first | assumption | (simp; done)) (by first | assumption | simp [Value.oneCell']) ?_ | refine l_store_whole (i := 2) hs rfl I31 rfl rfl (by first | assumption | (simp; done)) (by first | assumption | (simp; done)) (by first | assumption | simp [Value.oneCell']) ?_ | refine l_store_whole (i := 3) hs rfl I31 rfl rfl (by first | assumption | (simp; done)) (by first | assumption | (simp; done)) (by first | assumption | simp [Value.oneCell']) ?_ | refine l_store_whole (i := 4) hs rfl I31 rfl rfl (by first | assumption | (simp; done)) (by first | assumption | (simp; done)) (by first | assumption | simp [Value.oneCell']) ?_ | refine l_store_whole (i := 5) hs rfl I31 rfl rfl (by first | assumption | (simp; done)) (by first | assumption | (simp; done)) (by first | assumption | simp [Value.oneCell']) ?_ | refine l_store_whole (i := 6) hs rfl I31 rfl rfl (by first | assumption | (simp; done)) (by first | assumption | (simp; done)) (by first | assumption | simp [Value.oneCell']) ?_
        intro w_ hs
        refine l_v (by first | exact (r_assign (v := iV _) rfl) | exact (r_assign rfl)) ?_
        refine l_nil (nrm_then ?_)
        refine c_seq ?_
        refine c_rseq ?_
        refine l_v (by first | exact (r_move (v := iV _) rfl) | exact (r_move rfl)) ?_
        refine l_v (by first | exact (r_move (v := iV _) rfl) | exact (r_move rfl)) ?_
        refine l_v (r_neqi rfl rfl) ?_
        refine l_v (by first | exact (r_move (v := bV _) rfl) | exact (r_move rfl)) ?_
        refine l_vg (r_move (v := .pointer _) rfl) rfl (f40) ?_
        refine l_vg (by first | exact (r_eqlp_some Tryd.underlying25 rfl rfl) | exact (r_eqlp_none Tryd.underlying25 rfl rfl)) rfl (f40) ?_
        refine l_vg (by first | exact (r_move (v := iV _) rfl) | exact (r_move rfl)) rfl (f40) ?_
        refine l_vg (r_neqi rfl rfl) rfl (f40) ?_
        refine l_vg (r_neqb Tryd.underlying4 rfl rfl) rfl (f40) ?_
        refine l_v (r_pick_f rfl f40 rfl) ?_
        refine l_nil (nrm_then ?_)
        refine c_false rfl (f46) ?_
        refine c_skip (nrm_then ?_)
        refine c_rseq ?_
        refine l_v (r_move (v := .pointer _) rfl) ?_
        refine l_v (by first | exact (r_eqlp_some Tryd.underlying25 rfl rfl) | exact (r_eqlp_none Tryd.underlying25 rfl rfl)) ?_
        refine l_v (by first | exact (r_move (v := bV _) rfl) | exact (r_move rfl)) ?_
        refine l_no rfl (rfl) ?_
        refine l_no rfl (rfl) ?_
        refine l_no rfl (rfl) ?_
        refine l_no rfl (rfl) ?_
        refine l_v (r_pick_t rfl rfl rfl) ?_
        refine l_v (by first | exact (r_assign (v := bV _) rfl) | exact (r_assign rfl)) ?_
        refine l_nil (nrm_then ?_)
        refine c_ret ?_
        show Fin _ _ _ _ _
        refine fin1 rfl ?_
        exact ⟨rfl, hs.below⟩
    · skip
      refine c_true rfl ((by rw [hbf3]; rfl)) ?_
      refine c_rseq ?_
      refine l_call (r_call Tryd.func8 rfl rfl) ?_
      refine Calls.mono (awake_c _ (h0.sep hs)) ?_
      rintro e w_ ⟨rfl, hb⟩
      refine ⟨_, rfl, ?_⟩
      have hs := hs.below_ hb
      refine l_v (by first | exact (r_assign (v := bV _) rfl) | exact (r_assign rfl)) ?_
      refine l_nil (nrm_then ?_)
      refine c_ret (ret_then ?_)
      show Fin _ _ _ _ _
      refine fin1 rfl ?_
      exact ⟨rfl, hs.below⟩
  · skip
    have fb : (!bf) = true := by rw [hbf]; rfl
    refine l_no rfl (fb) ?_
    refine l_no rfl (fb) ?_
    refine l_no rfl (fb) ?_
    refine l_v (r_pick_t rfl fb rfl) ?_
    refine l_nil (nrm_then ?_)
    refine c_true rfl (rfl) ?_
    refine c_rseq ?_
    refine l_call (r_call Tryd.func8 rfl rfl) ?_
    refine Calls.mono (awake_c _ (h0.sep hs)) ?_
    rintro e w_ ⟨rfl, hb⟩
    refine ⟨_, rfl, ?_⟩
    have hs := hs.below_ hb
    refine l_v (by first | exact (r_assign (v := bV _) rfl) | exact (r_assign rfl)) ?_
    refine l_nil (nrm_then ?_)
    refine c_ret (ret_then ?_)
    show Fin _ _ _ _ _
    refine fin1 rfl ?_
    exact ⟨rfl, hs.below⟩
end Go.Proofs.YtbimboibllboeaaDoor.Blm
