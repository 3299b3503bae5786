/- The walks of Pack and Open; filters that are none. -/
import Derived.Test.YtbimboibllboeaaDoorBlmShape
import Derived.Test.YtbimboibllboeaaDoorSixRm
namespace Go.Proofs.YtbimboibllboeaaDoor.Blm
open Go Go.RowKit Go.Proofs.YtbimboibllboeaaDoor.Eng Go.Proofs.YtbimboibllboeaaDoor.Sha Go.Proofs.YtbimboibllboeaaDoor.Six
set_option linter.unusedVariables false
set_option maxRecDepth 100000
def packF (h : Nat) (b : List UInt8) : List UInt8 := enc 64 h ++ encT b
set_option maxHeartbeats 4000000 in
theorem pack_c (bf h c : Nat) (A : Option Addr) (b : List UInt8) (w : World) (hh : h ≤ 8) (hz : b.length ≤ 1099511627776) (hf : FilAt w bf h b A c) :
    Calls Tryd.prog 13 #[.pointer (some ⟨bf, 0, none⟩)] w fun e w' => e = .returned (sV (ofL (packF h b))) ∧ Below w.heap.size w w' := by
  refine enter (P := Tryd.prog) Tryd.func13 rfl rfl ?_
  have hs := Eng.Sep.init w
  refine c_rseq ?_
  refine l_v (by first | exact (r_assign (v := sV _) rfl) | exact (r_assign rfl)) ?_
  refine l_nil (nrm_then ?_)
  refine c_seq ?_
  refine c_rseq ?_
  refine l_v (r_move (v := .pointer _) rfl) ?_
  refine l_v (by first | exact (r_eqlp_some Tryd.underlying25 rfl rfl) | exact (r_eqlp_none Tryd.underlying25 rfl rfl)) ?_
  refine l_nil (nrm_then ?_)
  refine c_false rfl (rfl) ?_
  refine c_skip (nrm_then ?_)
  refine c_rseq ?_
  refine l_call (r_call Tryd.func23 rfl rfl) ?_
  refine Calls.mono (new_c w _ _ hs) ?_
  rintro e w_ ⟨bw, rfl, hs⟩
  refine ⟨_, rfl, ?_⟩
  have hf1 := hf.below hs.below
  refine l_v (r_assign (v := .pointer _) rfl) ?_
  refine l_nil (nrm_then ?_)
  refine c_rseq ?_
  refine l_v (r_move (v := .pointer _) rfl) ?_
  refine l_v (r_move (v := .pointer _) rfl) ?_
  refine l_v (by first | exact (r_nilCheck_p rfl) | exact (r_nilCheck_f rfl)) ?_
  refine l_v (by first | exact (r_fieldAddr0 (off := 0) (T := 3) (by kernel_rfl) rfl) | exact (r_fieldAddr (off := 0) (T := 3) (by kernel_rfl) rfl)) ?_
  refine l_v (r_load Tryd.underlying3 rfl hf1.h0) ?_
  refine l_call (r_call Tryd.func24 rfl rfl) ?_
  refine Calls.mono (wcount_c (h : Int) (by omega) [] (by show 0 + 11 ≤ _; omega) bw w _ _ hs) ?_
  rintro e w_ ⟨rfl, hs⟩
  refine ⟨_, rfl, ?_⟩
  rw [if_neg (show ¬ ((h : Int) < 0) by omega), Int.toNat_natCast, List.nil_append] at hs
  have hel := enc_len 64 h (by omega)
  have hf2 := hf.below hs.below
  refine l_nil (nrm_then ?_)
  refine c_rseq ?_
  refine l_v (r_move (v := .pointer _) rfl) ?_
  refine l_v (r_move (v := .pointer _) rfl) ?_
  refine l_v (by first | exact (r_nilCheck_p rfl) | exact (r_nilCheck_f rfl)) ?_
  refine l_v (by first | exact (r_fieldAddr0 (off := 1) (T := 44) (by kernel_rfl) rfl) | exact (r_fieldAddr (off := 1) (T := 44) (by kernel_rfl) rfl)) ?_
  refine l_v (r_load Tryd.underlying44 rfl hf2.h1) ?_
  refine l_v (r_cv_bs (l := b) Tryd.underlying44 Tryd.underlying5 Tryd.underlying9 rfl hf2.rd) ?_
  have hbz : (ofL b).size = b.length := rfl
  refine l_call (r_call Tryd.func25 rfl rfl) ?_
  refine Calls.mono (wtext_c (ofL b) (enc 64 h) (by omega) bw w _ _ hs) ?_
  rintro e w_ ⟨rfl, hs⟩
  refine ⟨_, rfl, ?_⟩
  rw [Eng.toL_ofL] at hs
  refine l_nil (nrm_then ?_)
  refine c_rseq ?_
  refine l_v (r_move (v := .pointer _) rfl) ?_
  refine l_call (r_call Tryd.func26 rfl rfl) ?_
  refine Calls.mono (bytes_c (enc 64 h ++ encT b) bw w _ _ hs) ?_
  rintro e w_ ⟨rfl, hww⟩
  refine ⟨_, rfl, ?_⟩
  rw [hww]
  refine l_v (by first | exact (r_assign (v := sV _) rfl) | exact (r_assign rfl)) ?_
  refine l_nil (nrm_then ?_)
  refine c_ret ?_
  show Fin _ _ _ _ _
  refine fin1 rfl ?_
  exact ⟨rfl, hs.below⟩
theorem packnil_c (w : World) : Calls Tryd.prog 13 #[.pointer none] w fun e w' => e = .returned (sV ByteArray.empty) ∧ w' = w := by
  refine enter (P := Tryd.prog) Tryd.func13 rfl rfl ?_
  refine c_rseq ?_
  refine l_v (by first | exact (r_assign (v := sV _) rfl) | exact (r_assign rfl)) ?_
  refine l_nil (nrm_then ?_)
  refine c_seq ?_
  refine c_rseq ?_
  refine l_v (r_move (v := .pointer _) rfl) ?_
  refine l_v (by first | exact (r_eqlp_some Tryd.underlying25 rfl rfl) | exact (r_eqlp_none Tryd.underlying25 rfl rfl)) ?_
  refine l_nil (nrm_then ?_)
  refine c_true rfl (rfl) ?_
  refine c_rseq ?_
  refine l_v (by first | exact (r_assign (v := sV _) rfl) | exact (r_assign rfl)) ?_
  refine l_nil (nrm_then ?_)
  refine c_ret (ret_then ?_)
  show Fin _ _ _ _ _
  refine fin1 rfl ?_
  exact ⟨rfl, rfl⟩
theorem shapenil_c (w : World) : Calls Tryd.prog 14 #[.pointer none] w fun e w' => e = .returned (.tuple #[iV 0, iV 0, iV 0]) ∧ w' = w := by
  refine enter (P := Tryd.prog) Tryd.func14 rfl rfl ?_
  refine c_rseq ?_
  refine l_v (by first | exact (r_assign (v := iV _) rfl) | exact (r_assign rfl)) ?_
  refine l_v (by first | exact (r_assign (v := iV _) rfl) | exact (r_assign rfl)) ?_
  refine l_v (by first | exact (r_assign (v := iV _) rfl) | exact (r_assign rfl)) ?_
  refine l_nil (nrm_then ?_)
  refine c_seq ?_
  refine c_rseq ?_
  refine l_v (r_move (v := .pointer _) rfl) ?_
  refine l_v (by first | exact (r_eqlp_some Tryd.underlying25 rfl rfl) | exact (r_eqlp_none Tryd.underlying25 rfl rfl)) ?_
  refine l_nil (nrm_then ?_)
  refine c_true rfl (rfl) ?_
  refine c_rseq ?_
  refine l_v (by first | exact (r_assign (v := iV _) rfl) | exact (r_assign rfl)) ?_
  refine l_v (by first | exact (r_assign (v := iV _) rfl) | exact (r_assign rfl)) ?_
  refine l_v (by first | exact (r_assign (v := iV _) rfl) | exact (r_assign rfl)) ?_
  refine l_nil (nrm_then ?_)
  refine c_ret (ret_then ?_)
  show Fin _ _ _ _ _
  refine fin3 rfl ?_
  exact ⟨rfl, rfl⟩
theorem hasnil_c (key : ByteArray) (w : World) : Calls Tryd.prog 15 #[.pointer none, sV key] w fun e w' => e = .returned (bV false) ∧ Below w.heap.size w w' := by
  refine enter (P := Tryd.prog) Tryd.func15 rfl rfl ?_
  have hs := Eng.Sep.init w
  refine c_rseq ?_
  refine l_box hs rfl ?_
  intro b2 w2 hs hB2 hlt2
  refine l_alloc hs I4 ?_
  intro b4 w4 hs hB4 hlt4
  refine l_nil (nrm_then ?_)
  refine c_seq ?_
  refine c_rseq ?_
  refine l_v (by first | exact (r_load_at (i := 0) hs rfl Tryd.underlying25 rfl rfl) | exact (r_load_at (i := 1) hs rfl Tryd.underlying25 rfl rfl) | exact (r_load_at (i := 2) hs rfl Tryd.underlying25 rfl rfl) | exact (r_load_at (i := 3) hs rfl Tryd.underlying25 rfl rfl) | exact (r_load_at (i := 4) hs rfl Tryd.underlying25 rfl rfl) | exact (r_load_at (i := 5) hs rfl Tryd.underlying25 rfl rfl) | exact (r_load_at (i := 6) hs rfl Tryd.underlying25 rfl rfl)) ?_
  refine l_v (by first | exact (r_eqlp_some Tryd.underlying25 rfl rfl) | exact (r_eqlp_none Tryd.underlying25 rfl rfl)) ?_
  refine l_nil (nrm_then ?_)
  refine c_true rfl (rfl) ?_
  refine c_rseq ?_
  first | refine l_store (i := 0) (v := bV _) hs rfl I4 rfl rfl (by first | (simp; done) | (simp; omega) | omega) ?_ | refine l_store (i := 1) (v := bV _) hs rfl I4 rfl rfl (by first | (simp; done) | (simp; omega) | omega) ?_ | refine l_store (i := 2) (v := bV _) hs rfl I4 rfl rfl (by first | (simp; done) | (simp; omega) | omega) ?_ | refine l_store (i := 3) (v := bV _) hs rfl I4 rfl rfl (by first | (simp; done) | (simp; omega) | omega) ?_ | refine l_store (i := 4) (v := bV _) hs rfl I4 rfl rfl (by first | (simp; done) | (simp; omega) | omega) ?_ | refine l_store (i := 5) (v := bV _) hs rfl I4 rfl rfl (by first | (simp; done) | (simp; omega) | omega) ?_ | refine l_store (i := 6) (v := bV _) hs rfl I4 rfl rfl (by first | (simp; done) | (simp; omega) | omega) ?_
  intro w_ hs
  refine l_nil (nrm_then ?_)
  refine c_ret (ret_then ?_)
  show Fin _ _ _ _ _
  refine fin1c rfl rfl (run_loadVar_one Tryd.underlying4 rfl ((cell_blk (hs.at_ 0).1).trans rfl)) ?_
  exact ⟨rfl, hs.below⟩
theorem fil_read {w0 w : World} {bf bb h r : Nat} {b : List UInt8} {T : TypeId} {fr : Nat × Nat} {R : List HP} (hm : b.length ≤ 9223372036854775807) (hs : Eng.Sep w0 w (blk bf [iV (h : Int), .slice (some ⟨bb, 0, none⟩) b.length (b.length + r)] 46 :: blkF bb (bufCells b r) T fr :: R)) : Eng.Sep w0 w (filH bf h b :: R) := by
  refine fil_shut (((hs.pull 1).imp fun hp hA w hk => ⟨some ⟨bb, 0, none⟩, b.length + r, rfl, ?_⟩).pull 1)
  have hbb := hk bb (.cells (bufCells b r).toArray T fr) (by rw [hA]; simp [single])
  refine ⟨by simp, hm, fun _ => ⟨_, rfl, fun j u hj => ?_⟩⟩
  rw [add_lit, Nat.zero_add, cell_blk hbb]
  unfold bufCells
  rw [List.getElem?_append_left (List.getElem?_eq_some_iff.1 hj).1]
  exact hj
def openE (l : List UInt8) : Int :=
  if (count l).2.2 ≠ 0 then (count l).2.2 else if (count l).1 < 1 ∨ (count l).1 > 8 then 3 else
  if (text (l.drop (count l).2.1)).2.2 ≠ 0 then (text (l.drop (count l).2.1)).2.2 else
  if (text (l.drop (count l).2.1)).1.length = 0 ∨ (text (l.drop (count l).2.1)).1.length % 8 ≠ 0 then 3 else
  if (l.drop (count l).2.1).drop (text (l.drop (count l).2.1)).2.1 ≠ [] then 5 else 0
def openB (l : List UInt8) : List UInt8 := (text (l.drop (count l).2.1)).1
def openH (l : List UInt8) : Nat := (count l).1.toNat
theorem raw_le (l : List UInt8) (n : Int) : (raw l n).1.length ≤ l.length := by
  unfold raw
  split
  · simp
  · split
    · simp
    · simp only [List.length_take]; omega
theorem text_le (l : List UInt8) : (text l).1.length ≤ l.length := by
  unfold text
  split
  · split
    · have := raw_le (l.drop (count l).2.1) (count l).1
      rw [List.length_drop] at this
      dsimp only; omega
    · simp
  · simp
set_option maxHeartbeats 8000000 in
theorem open_c (s : ByteArray) (hz : s.size ≤ 1099511627776) (w0 w : World) (R : List HP) (hs : Eng.Sep w0 w R) :
    Calls Tryd.prog 16 #[sV s] w fun e w' => ∃ q : Option Nat, e = .returned (.tuple #[.pointer (q.map fun b => ⟨b, 0, none⟩), iV (openE (toL s))]) ∧ (q = none ↔ openE (toL s) ≠ 0) ∧ (match q with
      | none => Eng.Sep w0 w' R
      | some bf => Eng.Sep w0 w' (filH bf (openH (toL s)) (openB (toL s)) :: R)) := by
  unfold openE openB openH
  have hsl := toL_size s
  refine enter (P := Tryd.prog) Tryd.func16 rfl rfl ?_
  refine c_rseq ?_
  refine l_v (r_assign (v := .pointer _) rfl) ?_
  refine l_v (by first | exact (r_assign (v := iV _) rfl) | exact (r_assign rfl)) ?_
  refine l_nil (nrm_then ?_)
  refine c_rseq ?_
  refine l_v (by first | exact (r_move (v := sV _) rfl) | exact (r_move rfl)) ?_
  refine l_call (r_call Tryd.func27 rfl rfl) ?_
  refine Calls.mono (over_c s w0 _ _ hs) ?_
  rintro e w_ ⟨br, rfl, hs⟩
  refine ⟨_, rfl, ?_⟩
  refine l_v (r_assign (v := .pointer _) rfl) ?_
  refine l_nil (nrm_then ?_)
  refine c_rseq ?_
  refine l_v (r_move (v := .pointer _) rfl) ?_
  refine l_call (r_call Tryd.func28 rfl rfl) ?_
  refine Calls.mono (count_c s (by omega) br w0 _ _ hs) ?_
  rintro e w_ ⟨rfl, hs⟩
  refine ⟨_, rfl, ?_⟩
  have hcsz : (cut s (count (toL s)).2.1).size ≤ s.size := cut_size _ _
  have htx := text_c (cut s (count (toL s)).2.1) (by omega) br w0
  rw [toL_cut] at htx
  generalize count (toL s) = C at *
  generalize hTx : text ((toL s).drop C.2.1) = T at *
  have htz : T.1.length ≤ s.size := by
    have h := text_le ((toL s).drop C.2.1)
    rw [hTx, List.length_drop] at h
    omega
  refine l_v (r_move rfl) ?_
  refine l_v (r_extract rfl rfl) ?_
  refine l_v (r_extract rfl rfl) ?_
  refine l_v (by first | exact (r_assign (v := iV _) rfl) | exact (r_assign rfl)) ?_
  refine l_v (by first | exact (r_assign (v := iV _) rfl) | exact (r_assign rfl)) ?_
  refine l_nil (nrm_then ?_)
  refine c_seq ?_
  refine c_rseq ?_
  refine l_v (by first | exact (r_move (v := iV _) rfl) | exact (r_move rfl)) ?_
  refine l_v (r_neqi rfl rfl) ?_
  refine l_nil (nrm_then ?_)
  refine c_cond rfl (fun h1 => ?_) (fun h1 => ?_)
  · rw [if_pos (of_decide_eq_true h1)]
    replace h1 := of_decide_eq_true h1
    refine c_rseq ?_
    refine l_v (by first | exact (r_move (v := iV _) rfl) | exact (r_move rfl)) ?_
    refine l_v (r_assign (v := .pointer _) rfl) ?_
    refine l_v (by first | exact (r_assign (v := iV _) rfl) | exact (r_assign rfl)) ?_
    refine l_nil (nrm_then ?_)
    refine c_ret (ret_then ?_)
    show Fin _ _ _ _ _
    refine fin2 rfl ?_
    exact ⟨none, rfl, ⟨fun _ => h1, fun _ => rfl⟩, hs.drop⟩
  · rw [if_neg (of_decide_eq_false h1)]
    replace h1 := of_decide_eq_false h1
    refine c_skip (nrm_then ?_)
    refine c_seq ?_
    refine c_rseq ?_
    refine l_v (by first | exact (r_move (v := iV _) rfl) | exact (r_move rfl)) ?_
    refine l_v (r_lssi rfl rfl) ?_
    by_cases h2 : C.1 < 1
    · have f2 : decide (C.1 < 1) = true := decide_eq_true h2
      rw [if_pos (Or.inl h2)]
      refine l_v (by first | exact (r_move (v := bV _) rfl) | exact (r_move rfl)) ?_
      refine l_no rfl (f2) ?_
      refine l_no rfl (f2) ?_
      refine l_v (r_pick_t rfl f2 rfl) ?_
      refine l_nil (nrm_then ?_)
      refine c_true rfl (rfl) ?_
      refine c_rseq ?_
      refine l_v (r_assign (v := .pointer _) rfl) ?_
      refine l_v (by first | exact (r_assign (v := iV _) rfl) | exact (r_assign rfl)) ?_
      refine l_nil (nrm_then ?_)
      refine c_ret (ret_then ?_)
      show Fin _ _ _ _ _
      refine fin2 rfl ?_
      exact ⟨none, rfl, ⟨fun _ => by decide, fun _ => rfl⟩, hs.drop⟩
    · have f2 : decide (C.1 < 1) = false := decide_eq_false h2
      refine l_v (by first | exact (r_move (v := bV _) rfl) | exact (r_move rfl)) ?_
      refine l_vg (by first | exact (r_move (v := iV _) rfl) | exact (r_move rfl)) rfl (f2) ?_
      refine l_vg (r_gtri rfl rfl) rfl (f2) ?_
      refine l_v (r_pick_f rfl f2 rfl) ?_
      refine l_nil (nrm_then ?_)
      refine c_cond rfl (fun h3 => ?_) (fun h3 => ?_)
      · replace h3 := of_decide_eq_true h3
        refine c_rseq ?_
        refine l_v (r_assign (v := .pointer _) rfl) ?_
        refine l_v (by first | exact (r_assign (v := iV _) rfl) | exact (r_assign rfl)) ?_
        refine l_nil (nrm_then ?_)
        rw [if_pos (Or.inr h3)]
        refine c_ret (ret_then ?_)
        show Fin _ _ _ _ _
        refine fin2 rfl ?_
        exact ⟨none, rfl, ⟨fun _ => by decide, fun _ => rfl⟩, hs.drop⟩
      · rw [if_neg (fun h => h.elim h2 (of_decide_eq_false h3))]
        replace h3 := of_decide_eq_false h3
        refine c_skip (nrm_then ?_)
        refine c_rseq ?_
        refine l_v (r_move (v := .pointer _) rfl) ?_
        refine l_call (r_call Tryd.func29 rfl rfl) ?_
        refine Calls.mono (htx _ _ hs) ?_
        rintro e w_ ⟨rfl, hs⟩
        refine ⟨_, rfl, ?_⟩
        refine l_v (r_move rfl) ?_
        refine l_v (r_extract rfl rfl) ?_
        refine l_v (r_extract rfl rfl) ?_
        refine l_v (by first | exact (r_assign (v := sV _) rfl) | exact (r_assign rfl)) ?_
        refine l_v (by first | exact (r_assign (v := iV _) rfl) | exact (r_assign rfl)) ?_
        refine l_nil (nrm_then ?_)
        refine c_seq ?_
        refine c_block ?_
        refine c_rseq ?_
        refine l_v (by first | exact (r_move (v := iV _) rfl) | exact (r_move rfl)) ?_
        refine l_v (r_neqi rfl rfl) ?_
        refine l_v (by first | exact (r_assign (v := bV _) rfl) | exact (r_assign rfl)) ?_
        refine l_nil (nrm_then ?_)
        refine c_cond rfl (fun h4 => ?_) (fun h4 => ?_)
        · rw [if_pos (of_decide_eq_true h4)]
          replace h4 := of_decide_eq_true h4
          refine c_rseq ?_
          refine l_v (by first | exact (r_move (v := iV _) rfl) | exact (r_move rfl)) ?_
          refine l_v (r_assign (v := .pointer _) rfl) ?_
          refine l_v (by first | exact (r_assign (v := iV _) rfl) | exact (r_assign rfl)) ?_
          refine l_nil (nrm_then ?_)
          refine c_ret (ret_block (ret_then ?_))
          show Fin _ _ _ _ _
          refine fin2 rfl ?_
          exact ⟨none, rfl, ⟨fun _ => h4, fun _ => rfl⟩, hs.drop⟩
        · rw [if_neg (of_decide_eq_false h4)]
          have hTz : (ofL T.1).size = T.1.length := rfl
          replace h4 := of_decide_eq_false h4
          refine c_rseq ?_
          refine l_v (by first | exact (r_move (v := sV _) rfl) | exact (r_move rfl)) ?_
          refine l_v (r_len_s Tryd.underlying9 rfl) ?_
          refine l_v (r_eqli rfl rfl) ?_
          by_cases h5 : T.1.length = 0
          · have f5 : decide (((ofL T.1).size : Int) = 0) = true := decide_eq_true (by omega)
            rw [if_pos (Or.inl h5)]
            refine l_v (by first | exact (r_move (v := bV _) rfl) | exact (r_move rfl)) ?_
            refine l_no rfl (f5) ?_
            refine l_no rfl (f5) ?_
            refine l_no rfl (f5) ?_
            refine l_no rfl (f5) ?_
            refine l_v (r_pick_t rfl f5 rfl) ?_
            refine l_v (by first | exact (r_assign (v := bV _) rfl) | exact (r_assign rfl)) ?_
            refine l_nil (nrm_then ?_)
            refine c_true rfl (rfl) ?_
            refine c_rseq ?_
            refine l_v (r_assign (v := .pointer _) rfl) ?_
            refine l_v (by first | exact (r_assign (v := iV _) rfl) | exact (r_assign rfl)) ?_
            refine l_nil (nrm_then ?_)
            refine c_ret (ret_block (ret_then ?_))
            show Fin _ _ _ _ _
            refine fin2 rfl ?_
            exact ⟨none, rfl, ⟨fun _ => by decide, fun _ => rfl⟩, hs.drop⟩
          · have f5 : decide (((ofL T.1).size : Int) = 0) = false := decide_eq_false (by omega)
            refine l_v (by first | exact (r_move (v := bV _) rfl) | exact (r_move rfl)) ?_
            refine l_vg (by first | exact (r_move (v := sV _) rfl) | exact (r_move rfl)) rfl (f5) ?_
            refine l_vg (r_len_s Tryd.underlying9 rfl) rfl (f5) ?_
            refine l_vg (r_remi rfl rfl (by omega) (by decide)) rfl (f5) ?_
            refine l_vg (r_neqi rfl rfl) rfl (f5) ?_
            refine l_v (r_pick_f rfl f5 rfl) ?_
            refine l_v (by first | exact (r_assign (v := bV _) rfl) | exact (r_assign rfl)) ?_
            refine l_nil (nrm_then ?_)
            refine c_cond rfl (fun h6 => ?_) (fun h6 => ?_)
            · replace h6 := of_decide_eq_true h6
              refine c_rseq ?_
              refine l_v (r_assign (v := .pointer _) rfl) ?_
              refine l_v (by first | exact (r_assign (v := iV _) rfl) | exact (r_assign rfl)) ?_
              refine l_nil (nrm_then ?_)
              rw [if_pos (Or.inr (by omega))]
              refine c_ret (ret_block (ret_then ?_))
              show Fin _ _ _ _ _
              refine fin2 rfl ?_
              exact ⟨none, rfl, ⟨fun _ => by decide, fun _ => rfl⟩, hs.drop⟩
            · have h6' := of_decide_eq_false h6
              rw [if_neg (fun h => h.elim h5 (fun h => h6' (by omega)))]
              replace h6 := of_decide_eq_false h6
              refine c_rseq ?_
              refine l_v (r_move (v := .pointer _) rfl) ?_
              refine l_call (r_call Tryd.func30 rfl rfl) ?_
              refine Calls.mono (end_c (cut (cut s C.2.1) T.2.1) br w0 _ _ hs) ?_
              rintro e w_ ⟨rfl, hww⟩
              refine ⟨_, rfl, ?_⟩
              rw [hww, toL_cut, toL_cut]
              by_cases h7 : ((toL s).drop C.2.1).drop T.2.1 = []
              · have e5 : (if (((toL s).drop C.2.1).drop T.2.1).length = 0 then (0 : Int) else 5) = 0 := if_pos (by rw [h7]; rfl)
                have e6 : (if ((toL s).drop C.2.1).drop T.2.1 ≠ [] then (5 : Int) else 0) = 0 := if_neg (fun h => h h7)
                rw [e5, e6]
                refine l_v (r_neqi rfl rfl) ?_
                refine l_v (by first | exact (r_assign (v := bV _) rfl) | exact (r_assign rfl)) ?_
                refine l_nil (nrm_then ?_)
                refine c_false rfl (rfl) ?_
                refine c_skip (nrm_block (nrm_then ?_))
                refine c_rseq ?_
                refine l_v (by first | exact (r_move (v := iV _) rfl) | exact (r_move rfl)) ?_
                refine l_v (by first | exact (r_move (v := sV _) rfl) | exact (r_move rfl)) ?_
                refine l_cv_sb hs Tryd.underlying9 Tryd.underlying44 Tryd.underlying5 rfl ?_
                intro b49 r49 w49 hs hB49 hlt49
                refine l_v (r_build (l := [(0, iV C.1), (1, .slice (some ⟨b49, 0, none⟩) (ofL T.1).size ((ofL T.1).size + r49))]) rfl (built_fil C.1 _ rfl)) ?_
                refine l_box hs rfl ?_
                intro b51 w51 hs hB51 hlt51
                refine l_v (r_assign (v := .pointer _) rfl) ?_
                refine l_v (by first | exact (r_assign (v := iV _) rfl) | exact (r_assign rfl)) ?_
                refine l_nil (nrm_then ?_)
                refine c_ret ?_
                show Fin _ _ _ _ _
                refine fin2 rfl ?_
                refine ⟨some b51, rfl, ⟨fun h => (by cases h), fun h => absurd rfl h⟩, ?_⟩
                have eC : C.1 = ((C.1.toNat : Nat) : Int) := by omega
                rw [eC] at hs
                exact ((fil_read (b := T.1) (by omega) hs).pull 1).drop
              · have e5 : (if (((toL s).drop C.2.1).drop T.2.1).length = 0 then (0 : Int) else 5) = 5 := if_neg (fun h => h7 (List.eq_nil_of_length_eq_zero h))
                have e6 : (if ((toL s).drop C.2.1).drop T.2.1 ≠ [] then (5 : Int) else 0) = 5 := if_pos h7
                rw [e5, e6]
                refine l_v (r_neqi rfl rfl) ?_
                refine l_v (by first | exact (r_assign (v := bV _) rfl) | exact (r_assign rfl)) ?_
                refine l_nil (nrm_then ?_)
                refine c_true rfl (rfl) ?_
                refine c_rseq ?_
                refine l_v (r_assign (v := .pointer _) rfl) ?_
                refine l_v (by first | exact (r_assign (v := iV _) rfl) | exact (r_assign rfl)) ?_
                refine l_nil (nrm_then ?_)
                refine c_ret (ret_block (ret_then ?_))
                show Fin _ _ _ _ _
                refine fin2 rfl ?_
                exact ⟨none, rfl, ⟨fun _ => by decide, fun _ => rfl⟩, hs.drop⟩
end Go.Proofs.YtbimboibllboeaaDoor.Blm
