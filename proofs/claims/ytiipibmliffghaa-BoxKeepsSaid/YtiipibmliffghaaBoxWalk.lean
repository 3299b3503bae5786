/- The walks of the box's records: key, next, Pack, Open. -/
import Derived.Test.YtiipibmliffghaaParts
import Derived.Test.YtiipibmliffghaaSixRm
import Derived.Test.YtiipibmliffghaaSixWr
import Derived.Test.YtiipibmliffghaaBoxFn
namespace Go.Proofs.Ytiipibmliffghaa.Box
open Go Go.RowKit Go.Proofs.Ytiipibmliffghaa.Eng Go.Proofs.Ytiipibmliffghaa.Six Go.Proofs.Ytiipibmliffghaa.CrcFn Go.Proofs.Ytiipibmliffghaa.Crc
set_option linter.unusedVariables false
set_option maxRecDepth 100000
abbrev kV (k : List UInt8) : Value := .agg (k.map u8V).toArray
abbrev rV (r : Rec) : Value := .agg (recC r).toArray
theorem rec_key (r : Rec) (h : r.ok) : ((recC r).drop 0).take 32 = r.key.map u8V := by
  unfold recC
  rw [List.drop_zero, List.append_assoc, List.take_append_of_le_length (by rw [List.length_map, h.1]; exact Nat.le_refl _), List.take_of_length_le (by rw [List.length_map, h.1]; exact Nat.le_refl _)]
theorem rec_base (r : Rec) (h : r.ok) : ((recC r).drop 32).take 32 = r.base.map u8V := by
  have e : (recC r).drop 32 = r.base.map u8V ++ [bV r.patch, sV (ofL r.body)] := by
    unfold recC
    rw [List.append_assoc, List.drop_append_of_le_length (by rw [List.length_map, h.1]; exact Nat.le_refl _), List.drop_eq_nil_of_le (by rw [List.length_map, h.1]; exact Nat.le_refl _), List.nil_append]
  rw [e, List.take_append_of_le_length (by rw [List.length_map, h.2]; exact Nat.le_refl _), List.take_of_length_le (by rw [List.length_map, h.2]; exact Nat.le_refl _)]
theorem rec_patch (r : Rec) (h : r.ok) : (recC r)[64]? = some (bV r.patch) := by
  unfold recC
  rw [List.getElem?_append_right (by simp [h.1, h.2])]
  simp [h.1, h.2]
theorem rec_body (r : Rec) (h : r.ok) : (recC r)[65]? = some (sV (ofL r.body)) := by
  unfold recC
  rw [List.getElem?_append_right (by simp [h.1, h.2])]
  simp [h.1, h.2]
theorem rec_one (r : Rec) : ∀ v ∈ recC r, v.oneCell' = true := by
  intro v hv
  unfold recC at hv
  rcases List.mem_append.1 hv with hv | hv
  · rcases List.mem_append.1 hv with hv | hv
    · exact one_map (g := u8V) (fun _ => rfl) _ v hv
    · exact one_map (g := u8V) (fun _ => rfl) _ v hv
  · simp only [List.mem_cons, List.not_mem_nil, or_false] at hv
    rcases hv with rfl | rfl <;> rfl
theorem rec_setkey (r : Rec) (h : r.ok) (k : List UInt8) (hk : k.length = 32) : (recC r).take 0 ++ k.map u8V ++ (recC r).drop (0 + 32) = recC { r with key := k } := by
  unfold recC
  rw [List.take_zero, List.nil_append, Nat.zero_add, List.append_assoc (r.key.map u8V), List.drop_append_of_le_length (by rw [List.length_map, h.1]; exact Nat.le_refl _), List.drop_eq_nil_of_le (by rw [List.length_map, h.1]; exact Nat.le_refl _)]
  simp
theorem rec_setbase (r : Rec) (h : r.ok) (k : List UInt8) (hk : k.length = 32) : (recC r).take 32 ++ k.map u8V ++ (recC r).drop (32 + 32) = recC { r with base := k } := by
  have e1 : (recC r).take 32 = r.key.map u8V := by have := rec_key r h; rwa [List.drop_zero] at this
  have e2 : (recC r).drop 64 = [bV r.patch, sV (ofL r.body)] := by
    unfold recC
    rw [List.drop_append_of_le_length (by simp [h.1, h.2]), List.drop_eq_nil_of_le (by simp [h.1, h.2]), List.nil_append]
  rw [e1, e2]; rfl
theorem rec_setpatch (r : Rec) (h : r.ok) (p : Bool) : (recC r).set 64 (bV p) = recC { r with patch := p } := by
  unfold recC
  rw [List.set_append_right _ _ (by simp [h.1, h.2])]
  simp [h.1, h.2]
theorem rec_setbody (r : Rec) (h : r.ok) (s : ByteArray) : (recC r).set 65 (sV s) = recC { r with body := toL s } := by
  unfold recC
  rw [List.set_append_right _ _ (by simp [h.1, h.2])]
  simp [h.1, h.2]
theorem bz : Program.built Try.prog 30 [] = some (recC .zero).toArray := built_of I30 (places := [(0, 32), (32, 32), (64, 1), (65, 1)]) (by kernel_rfl) rfl rfl
def keyOf (l : List UInt8) : List UInt8 := if l.length < 32 then zeros else l.take 32
theorem keyOf_len (l : List UInt8) : (keyOf l).length = 32 := by
  unfold keyOf
  split
  · decide
  · rw [List.length_take]; omega
set_option maxHeartbeats 1000000 in
theorem key_c (s : ByteArray) (b : Nat) (w0 w : World) (R : List HP) (hs : Sep w0 w (rdr b s :: R)) :
    Calls Try.prog 55 #[at_ b] w fun e w' => e = .returned (.tuple #[kV (keyOf (toL s)), iV (if (toL s).length < 32 then 2 else 0)]) ∧ Sep w0 w' (rdr b (cut s (if (toL s).length < 32 then 0 else 32)) :: R) := by
  have hl := toL_size s
  have hz32 : (List.replicate 32 (Value.int .u8 0)).length = 32 := List.length_replicate
  refine enter (P := Try.prog) Try.func55 rfl rfl ?_
  refine c_rseq ?_
  refine l_alloc hs I23 ?_
  intro b2 w2 hs hB2 hlt2
  refine l_v (by first | exact (r_assign (v := iV _) rfl) | exact (r_assign rfl)) ?_
  refine l_nil (nrm_then ?_)
  refine c_rseq ?_
  refine l_v (r_move (v := .pointer _) rfl) ?_
  refine l_call (r_call Try.func61 rfl rfl) ?_
  refine Calls.mono (raw_c 32 s b w0 _ _ (hs.pull 1)) ?_
  rintro e w_ ⟨rfl, hs⟩
  refine ⟨_, rfl, ?_⟩
  have hsz : (ofL (raw (toL s) 32).1).size ≤ 32 := by
    show (raw (toL s) 32).1.length ≤ 32
    unfold raw
    rw [if_neg (by decide)]
    split
    · exact Nat.zero_le _
    · dsimp only; rw [List.length_take]; exact Nat.min_le_left _ _
  have hk : (toL (ofL (raw (toL s) 32).1)).map u8V ++ (List.replicate 32 (Value.int .u8 0)).drop (ofL (raw (toL s) 32).1).size = (keyOf (toL s)).map u8V := by
    unfold keyOf raw
    rw [if_neg (by decide)]
    by_cases h : (toL s).length < 32
    · rw [if_pos (by omega), if_pos h]; rfl
    · rw [if_neg (by omega), if_neg h]
      have h32 : ((toL s).take 32).length = 32 := by rw [List.length_take]; omega
      show ((toL s).take 32).map u8V ++ (List.replicate 32 (Value.int .u8 0)).drop ((toL s).take 32).length = _
      rw [h32, List.drop_eq_nil_of_le (by rw [List.length_replicate]; exact Nat.le_refl _), List.append_nil]
  have he : (raw (toL s) 32).2.2 = (if (toL s).length < 32 then 2 else 0) ∧ (raw (toL s) 32).2.1 = (if (toL s).length < 32 then 0 else 32) := by
    unfold raw
    rw [if_neg (by decide)]
    by_cases h : (toL s).length < 32
    · rw [if_pos (by omega), if_pos h, if_pos h]; exact ⟨rfl, rfl⟩
    · rw [if_neg (by omega), if_neg h, if_neg h]; exact ⟨rfl, rfl⟩
  rw [← he.1, ← he.2]
  have hkl : ((keyOf (toL s)).map u8V).length = 32 := (List.length_map u8V).trans (keyOf_len _)
  generalize raw (toL s) 32 = D at *
  refine l_v (r_move rfl) ?_
  refine l_v (r_extract rfl rfl) ?_
  refine l_v (r_extract rfl rfl) ?_
  refine l_v (by first | exact (r_assign (v := sV _) rfl) | exact (r_assign rfl)) ?_
  refine l_v (by first | exact (r_assign (v := iV _) rfl) | exact (r_assign rfl)) ?_
  refine l_nil (nrm_then ?_)
  refine c_rseq ?_
  refine l_alloc hs I23 ?_
  intro b6 w6 hs hB6 hlt6
  refine l_nil (nrm_then ?_)
  refine c_rseq ?_
  refine l_v (r_slice_all Try.underlying23 I5 rfl (by decide)) ?_
  refine l_v (by first | exact (r_move (v := sV _) rfl) | exact (r_move rfl)) ?_
  refine l_copy_s (i := 0) hs rfl Try.underlying61 I5 rfl rfl hsz (by rw [hz32]; exact hsz) ?_
  intro w_ hs
  rw [hk] at hs
  generalize keyOf (toL s) = K at *
  refine l_nil (nrm_then ?_)
  refine c_rseq ?_
  refine l_v (r_load_whole (i := 0) hs rfl Try.underlying23 I23 rfl hkl) ?_
  refine l_v (by first | exact (r_move (v := iV _) rfl) | exact (r_move rfl)) ?_
  refine l_store_whole (i := 2) hs rfl I23 rfl rfl hkl hz32 (one_map (g := u8V) (fun _ => rfl) _) ?_
  intro w_ hs
  refine l_v (by first | exact (r_assign (v := iV _) rfl) | exact (r_assign rfl)) ?_
  refine l_nil (nrm_then ?_)
  refine c_ret ?_
  show Fin _ _ _ _ _
  refine fin2c rfl rfl (run_loadVar_agg Try.underlying23 rfl I23 hkl (cells_whole (hs.at_ 2).1)) ?_
  exact ⟨rfl, ((hs.pull 2).drop).drop⟩
set_option maxHeartbeats 4000000 in
theorem next_c (s : ByteArray) (hz : s.size ≤ 9223372036854775807) (b : Nat) (w0 w : World) (R : List HP) (hs : Sep w0 w (rdr b s :: R)) :
    Calls Try.prog 43 #[at_ b] w fun e w' => e = .returned (.tuple #[rV (nextR (toL s)).1, iV (nextR (toL s)).2.2]) ∧ ∃ s', ((nextR (toL s)).2.2 = 0 → s' = cut s (nextR (toL s)).2.1) ∧ Sep w0 w' (rdr b s' :: R) := by
  have hl := toL_size s
  have hkl : ((keyOf (toL s)).map u8V).length = 32 := (List.length_map u8V).trans (keyOf_len _)
  have hzl := recC_length zero_ok
  have cutcut : ∀ a c : Nat, cut (cut s a) c = cut s (a + c) := fun a c => by unfold cut; rw [Eng.toL_ofL, List.drop_drop]
  refine enter (P := Try.prog) Try.func43 rfl rfl ?_
  refine c_rseq ?_
  refine l_alloc hs I30 ?_
  intro b2 w2 hs hB2 hlt2
  refine l_v (by first | exact (r_assign (v := iV _) rfl) | exact (r_assign rfl)) ?_
  refine l_nil (nrm_then ?_)
  refine c_seq ?_
  refine c_rseq ?_
  refine l_v (r_move (v := .pointer _) rfl) ?_
  have hs : Sep w0 w2 (blk b2 (recC .zero) 30 :: rdr b s :: R) := hs
  refine l_call (r_call Try.func55 rfl rfl) ?_
  refine Calls.mono (key_c s b w0 _ _ (hs.pull 1)) ?_
  rintro e w_ ⟨rfl, hs⟩
  refine ⟨_, rfl, ?_⟩
  refine l_v (r_move rfl) ?_
  refine l_v (r_extract rfl rfl) ?_
  refine l_v (r_extract rfl rfl) ?_
  refine l_v (by first | exact (r_fieldAddr0 (off := 0) (T := 23) (by kernel_rfl) rfl) | exact (r_fieldAddr (off := 0) (T := 23) (by kernel_rfl) rfl)) ?_
  refine l_store_agg (i := 1) (o := 0) hs rfl I23 rfl rfl hkl (by rw [hzl]; decide) (one_map (g := u8V) (fun _ => rfl) _) ?_
  intro w_ hs
  have hs : Sep w0 w_ (rdr b (cut s (if (toL s).length < 32 then 0 else 32)) :: blk b2 (recC { Rec.zero with key := keyOf (toL s) }) 30 :: R) := by
    have e := rec_setkey .zero zero_ok (keyOf (toL s)) (keyOf_len _)
    rw [← e]; exact hs
  have hok1 : ({ Rec.zero with key := keyOf (toL s) } : Rec).ok := ⟨keyOf_len _, show zeros.length = 32 by decide⟩
  have hol1 := recC_length hok1
  refine l_v (by first | exact (r_assign (v := iV _) rfl) | exact (r_assign rfl)) ?_
  refine l_nil (nrm_then ?_)
  refine c_rseq ?_
  refine l_v (by first | exact (r_move (v := iV _) rfl) | exact (r_move rfl)) ?_
  refine l_v (r_neqi rfl rfl) ?_
  refine l_nil (nrm_then ?_)
  by_cases h32 : (toL s).length < 32
  · refine c_true rfl (decide_eq_true (by rw [if_pos h32]; decide)) ?_
    refine c_rseq ?_
    refine l_v (r_build (l := []) rfl bz) ?_
    refine l_v (by first | exact (r_move (v := iV _) rfl) | exact (r_move rfl)) ?_
    refine l_store_whole (i := 1) hs rfl I30 rfl rfl hzl hol1 (rec_one _) ?_
    intro w_ hs
    refine l_v (by first | exact (r_assign (v := iV _) rfl) | exact (r_assign rfl)) ?_
    refine l_nil (nrm_then ?_)
    refine c_ret (ret_then ?_)
    show Fin _ _ _ _ _
    refine fin2c rfl rfl (run_loadVar_agg Try.underlying30 rfl I30 hzl (cells_whole (hs.at_ 1).1)) ?_
    have e : nextR (toL s) = (.zero, 0, 2) := by unfold nextR; rw [if_pos h32]
    rw [e, if_pos h32]
    exact ⟨rfl, _, fun h => (by cases h), (hs.pull 1).drop⟩
  · skip
    rw [if_neg h32] at hs
    refine c_false rfl (decide_eq_false (by rw [if_neg h32]; decide)) ?_
    refine c_skip (nrm_then ?_)
    refine c_rseq ?_
    refine l_v (r_move (v := .pointer _) rfl) ?_
    refine l_call (r_call Try.func56 rfl rfl) ?_
    refine Calls.mono (count_c (cut s 32) (Nat.le_trans (cut_size s 32) hz) b w0 _ _ hs) ?_
    rintro e w_ ⟨rfl, hs⟩
    refine ⟨_, rfl, ?_⟩
    rw [toL_cut, cutcut] at *
    have hcsz := count_size ((toL s).drop 32)
    have hcnn := count_nonneg ((toL s).drop 32)
    rw [List.length_drop] at hcsz
    refine l_v (r_move rfl) ?_
    refine l_v (r_extract rfl rfl) ?_
    refine l_v (r_extract rfl rfl) ?_
    refine l_v (by first | exact (r_assign (v := iV _) rfl) | exact (r_assign rfl)) ?_
    refine l_v (by first | exact (r_assign (v := iV _) rfl) | exact (r_assign rfl)) ?_
    refine l_nil (nrm_then ?_)
    refine c_seq ?_
    refine c_rseq ?_
    refine l_v (by first | exact (r_move (v := iV _) rfl) | exact (r_move rfl)) ?_
    refine l_v (r_eqli rfl rfl) ?_
    by_cases c2 : (count ((toL s).drop 32)).2.2 = 0
    · have f : decide ((count ((toL s).drop 32)).2.2 = 0) = true := decide_eq_true c2
      refine l_v (by first | exact (r_move (v := bV _) rfl) | exact (r_move rfl)) ?_
      refine l_vg (by first | exact (r_move (v := iV _) rfl) | exact (r_move rfl)) rfl (f) ?_
      refine l_vg (r_gtri rfl rfl) rfl (f) ?_
      refine l_v (r_pick_t rfl f rfl) ?_
      refine l_nil (nrm_then ?_)
      refine c_cond rfl (fun c3 => ?_) (fun c3 => ?_)
      · replace c3 := of_decide_eq_true c3
        refine c_region ?_
        refine l_v (by first | exact (r_assign (v := iV _) rfl) | exact (r_assign rfl)) ?_
        refine l_nil (nrm_then ?_)
        refine c_seq ?_
        refine c_rseq ?_
        refine l_v (by first | exact (r_move (v := iV _) rfl) | exact (r_move rfl)) ?_
        refine l_v (r_eqli rfl rfl) ?_
        refine l_v (by first | exact (r_move (v := bV _) rfl) | exact (r_move rfl)) ?_
        refine l_no rfl (rfl) ?_
        refine l_no rfl (rfl) ?_
        refine l_v (r_pick_f rfl rfl rfl) ?_
        refine l_nil (nrm_then ?_)
        refine c_false rfl (rfl) ?_
        refine c_skip (nrm_then ?_)
        refine c_seq ?_
        refine c_rseq ?_
        refine l_v (by first | exact (r_move (v := iV _) rfl) | exact (r_move rfl)) ?_
        refine l_v (r_eqli rfl rfl) ?_
        refine l_nil (nrm_then ?_)
        refine c_false rfl (rfl) ?_
        refine c_skip (nrm_then ?_)
        refine c_seq ?_
        refine c_rseq ?_
        refine l_v (by first | exact (r_move (v := iV _) rfl) | exact (r_move rfl)) ?_
        refine l_v (r_eqli rfl rfl) ?_
        refine l_v (by first | exact (r_move (v := bV _) rfl) | exact (r_move rfl)) ?_
        refine l_no rfl (rfl) ?_
        refine l_no rfl (rfl) ?_
        refine l_no rfl (rfl) ?_
        refine l_no rfl (rfl) ?_
        refine l_v (r_pick_f rfl rfl rfl) ?_
        refine l_nil (nrm_then ?_)
        refine c_false rfl (rfl) ?_
        refine c_skip (nrm_then ?_)
        refine c_seq ?_
        refine c_rseq ?_
        refine l_v (by first | exact (r_move (v := iV _) rfl) | exact (r_move rfl)) ?_
        refine l_v (r_neqi rfl rfl) ?_
        refine l_nil (nrm_then ?_)
        refine c_true rfl (rfl) ?_
        refine c_rseq ?_
        refine l_v (r_build (l := []) rfl bz) ?_
        refine l_v (by first | exact (r_move (v := iV _) rfl) | exact (r_move rfl)) ?_
        refine l_store_whole (i := 1) hs rfl I30 rfl rfl hzl hol1 (rec_one _) ?_
        intro w_ hs
        refine l_v (by first | exact (r_assign (v := iV _) rfl) | exact (r_assign rfl)) ?_
        refine l_nil (nrm_then ?_)
        refine c_ret (ret_then ?_)
        show Fin _ _ _ _ _
        refine fin2c rfl rfl (run_loadVar_agg Try.underlying30 rfl I30 hzl (cells_whole (hs.at_ 1).1)) ?_
        have e : nextR (toL s) = (.zero, 0, 3) := by unfold nextR; rw [if_neg h32, if_neg (fun h => h c2), if_pos c3]
        rw [e]
        exact ⟨rfl, _, fun h => absurd h (by dsimp only; first | assumption | decide), (hs.pull 1).drop⟩
      · replace c3 := of_decide_eq_false c3
        refine c_skip (nrm_then ?_)
        refine c_seq ?_
        refine c_rseq ?_
        refine l_v (by first | exact (r_move (v := iV _) rfl) | exact (r_move rfl)) ?_
        refine l_v (r_eqli rfl rfl) ?_
        refine l_v (by first | exact (r_move (v := bV _) rfl) | exact (r_move rfl)) ?_
        refine l_vg (by first | exact (r_move (v := iV _) rfl) | exact (r_move rfl)) rfl (f) ?_
        refine l_vg (r_eqli rfl rfl) rfl (f) ?_
        refine l_v (r_pick_t rfl f rfl) ?_
        refine l_nil (nrm_then ?_)
        have c3' : ¬ 1 < (count ((toL s).drop 32)).1 := c3
        refine c_cond rfl (fun c4 => ?_) (fun c4 => ?_)
        · replace c4 := of_decide_eq_true c4
          refine c_rseq ?_
          refine l_v (by first | exact (r_fieldAddr0 (off := 64) (T := 4) (by kernel_rfl) rfl) | exact (r_fieldAddr (off := 64) (T := 4) (by kernel_rfl) rfl)) ?_
          refine l_store (i := 1) (v := bV true) hs rfl I4 rfl rfl (by rw [hol1]; decide) ?_
          intro w_ hs
          rw [rec_setpatch _ hok1] at hs
          have hokp : ({ ({ Rec.zero with key := keyOf (toL s) } : Rec) with patch := true } : Rec).ok := hok1
          have holp := recC_length hokp
          refine l_nil (nrm_then ?_)
          refine c_region ?_
          refine l_v (r_move (v := .pointer _) rfl) ?_
          refine l_call (r_call Try.func55 rfl rfl) ?_
          refine Calls.mono (key_c (cut s (32 + (count ((toL s).drop 32)).2.1)) b w0 _ _ hs) ?_
          rintro e w_ ⟨rfl, hs⟩
          refine ⟨_, rfl, ?_⟩
          rw [toL_cut, cutcut] at hs
          rw [toL_cut]
          have hkl2 : ((keyOf ((toL s).drop (32 + (count ((toL s).drop 32)).2.1))).map u8V).length = 32 := (List.length_map u8V).trans (keyOf_len _)
          refine l_v (r_move rfl) ?_
          refine l_v (r_extract rfl rfl) ?_
          refine l_v (r_extract rfl rfl) ?_
          refine l_v (by first | exact (r_fieldAddr0 (off := 32) (T := 23) (by kernel_rfl) rfl) | exact (r_fieldAddr (off := 32) (T := 23) (by kernel_rfl) rfl)) ?_
          refine l_store_agg (i := 1) (o := 32) hs rfl I23 rfl rfl hkl2 (by rw [holp]; decide) (one_map (g := u8V) (fun _ => rfl) _) ?_
          intro w_ hs
          rw [show (32 : Nat) + 32 = 32 + 32 from rfl] at hs
          have hs : Sep w0 w_ (rdr b (cut s ((32 + (count ((toL s).drop 32)).2.1) + (if ((toL s).drop (32 + (count ((toL s).drop 32)).2.1)).length < 32 then 0 else 32))) :: blk b2 (recC ({ ({ Rec.zero with key := keyOf (toL s) } : Rec) with patch := true, base := keyOf ((toL s).drop (32 + (count ((toL s).drop 32)).2.1)) } : Rec)) 30 :: R) := by
            have e := rec_setbase _ hokp (keyOf ((toL s).drop (32 + (count ((toL s).drop 32)).2.1))) (keyOf_len _)
            rw [← e]; exact hs
          have hok2 : ({ ({ Rec.zero with key := keyOf (toL s) } : Rec) with patch := true, base := keyOf ((toL s).drop (32 + (count ((toL s).drop 32)).2.1)) } : Rec).ok := ⟨keyOf_len _, keyOf_len _⟩
          have hol2' := recC_length hok2
          refine l_v (by first | exact (r_assign (v := iV _) rfl) | exact (r_assign rfl)) ?_
          refine l_nil (nrm_then ?_)
          refine c_seq ?_
          refine c_rseq ?_
          refine l_v (by first | exact (r_move (v := iV _) rfl) | exact (r_move rfl)) ?_
          refine l_v (r_eqli rfl rfl) ?_
          refine l_nil (nrm_then ?_)
          by_cases h5 : ((toL s).drop (32 + (count ((toL s).drop 32)).2.1)).length < 32
          · rw [if_pos h5]
            refine c_false rfl (rfl) ?_
            refine c_skip (nrm_then ?_)
            refine c_seq ?_
            refine c_rseq ?_
            refine l_v (by first | exact (r_move (v := iV _) rfl) | exact (r_move rfl)) ?_
            refine l_v (r_eqli rfl rfl) ?_
            refine l_v (by first | exact (r_move (v := bV _) rfl) | exact (r_move rfl)) ?_
            refine l_no rfl (rfl) ?_
            refine l_no rfl (rfl) ?_
            refine l_no rfl (rfl) ?_
            refine l_no rfl (rfl) ?_
            refine l_v (r_pick_f rfl rfl rfl) ?_
            refine l_nil (nrm_then ?_)
            refine c_false rfl (rfl) ?_
            refine c_skip (nrm_then ?_)
            refine c_seq ?_
            refine c_rseq ?_
            refine l_v (by first | exact (r_move (v := iV _) rfl) | exact (r_move rfl)) ?_
            refine l_v (r_neqi rfl rfl) ?_
            refine l_nil (nrm_then ?_)
            refine c_true rfl (rfl) ?_
            refine c_rseq ?_
            refine l_v (r_build (l := []) rfl bz) ?_
            refine l_v (by first | exact (r_move (v := iV _) rfl) | exact (r_move rfl)) ?_
            refine l_store_whole (i := 1) hs rfl I30 rfl rfl hzl hol2' (rec_one _) ?_
            intro w_ hs
            refine l_v (by first | exact (r_assign (v := iV _) rfl) | exact (r_assign rfl)) ?_
            refine l_nil (nrm_then ?_)
            refine c_ret (ret_then ?_)
            show Fin _ _ _ _ _
            refine fin2c rfl rfl (run_loadVar_agg Try.underlying30 rfl I30 hzl (cells_whole (hs.at_ 1).1)) ?_
            have e : nextR (toL s) = (.zero, 0, 2) := by unfold nextR; rw [if_neg h32, if_neg (fun h => h c2), if_neg c3', if_pos c4, if_pos h5]
            rw [e]
            exact ⟨rfl, _, fun h => absurd h (by dsimp only; first | assumption | decide), (hs.pull 1).drop⟩
          · rw [if_neg h5] at *
            refine c_true rfl (rfl) ?_
            refine c_region ?_
            refine l_v (r_move (v := .pointer _) rfl) ?_
            refine l_call (r_call Try.func57 rfl rfl) ?_
            refine Calls.mono (text_c (cut s ((32 + (count ((toL s).drop 32)).2.1) + 32)) (Nat.le_trans (cut_size s _) hz) b w0 _ _ hs) ?_
            rintro e w_ ⟨rfl, hs⟩
            refine ⟨_, rfl, ?_⟩
            rw [toL_cut, cutcut] at hs
            rw [toL_cut]
            refine l_v (r_move rfl) ?_
            refine l_v (r_extract rfl rfl) ?_
            refine l_v (r_extract rfl rfl) ?_
            refine l_v (by first | exact (r_fieldAddr0 (off := 65) (T := 9) (by kernel_rfl) rfl) | exact (r_fieldAddr (off := 65) (T := 9) (by kernel_rfl) rfl)) ?_
            have hol2 := recC_length hok2
            refine l_store (i := 1) (v := sV _) hs rfl I9 rfl rfl (by rw [hol2]; decide) ?_
            intro w_ hs
            rw [rec_setbody _ hok2] at hs
            have hok3 : ({ ({ ({ Rec.zero with key := keyOf (toL s) } : Rec) with patch := true, base := keyOf ((toL s).drop (32 + (count ((toL s).drop 32)).2.1)) } : Rec) with body := toL (ofL (text ((toL s).drop ((32 + (count ((toL s).drop 32)).2.1) + 32))).1) } : Rec).ok := hok2
            have hol3 := recC_length hok3
            have hb3 := rec_body _ hok3
            refine l_v (by first | exact (r_assign (v := iV _) rfl) | exact (r_assign rfl)) ?_
            refine l_nil (nrm_then ?_)
            refine c_seq ?_
            refine c_rseq ?_
            refine l_v (by first | exact (r_move (v := iV _) rfl) | exact (r_move rfl)) ?_
            refine l_v (r_eqli rfl rfl) ?_
            by_cases c6 : (text ((toL s).drop ((32 + (count ((toL s).drop 32)).2.1) + 32))).2.2 = 0
            · have g : decide ((text ((toL s).drop ((32 + (count ((toL s).drop 32)).2.1) + 32))).2.2 = 0) = true := decide_eq_true c6
              refine l_v (by first | exact (r_move (v := bV _) rfl) | exact (r_move rfl)) ?_
              refine l_vg (by first | exact (r_fieldAddr0 (off := 65) (T := 9) (by kernel_rfl) rfl) | exact (r_fieldAddr (off := 65) (T := 9) (by kernel_rfl) rfl)) rfl (g) ?_
              refine l_vg (r_load_at (i := 1) hs rfl Try.underlying9 rfl hb3) rfl (g) ?_
              refine l_vg (r_len_s Try.underlying9 rfl) rfl (g) ?_
              refine l_vg (r_gtri rfl rfl) rfl (g) ?_
              refine l_v (r_pick_t rfl g rfl) ?_
              refine l_nil (nrm_then ?_)
              refine c_cond rfl (fun c7 => ?_) (fun c7 => ?_)
              · have c7' : 8192 < (text ((toL s).drop ((32 + (count ((toL s).drop 32)).2.1) + 32))).1.length := by have h : (((text ((toL s).drop ((32 + (count ((toL s).drop 32)).2.1) + 32))).1.length : Nat) : Int) > 8192 := of_decide_eq_true c7; omega
                replace c7 := of_decide_eq_true c7
                refine c_region ?_
                refine l_v (by first | exact (r_assign (v := iV _) rfl) | exact (r_assign rfl)) ?_
                refine l_nil (nrm_then ?_)
                refine c_seq ?_
                refine c_rseq ?_
                refine l_v (by first | exact (r_move (v := iV _) rfl) | exact (r_move rfl)) ?_
                refine l_v (r_neqi rfl rfl) ?_
                refine l_nil (nrm_then ?_)
                refine c_true rfl (rfl) ?_
                refine c_rseq ?_
                refine l_v (r_build (l := []) rfl bz) ?_
                refine l_v (by first | exact (r_move (v := iV _) rfl) | exact (r_move rfl)) ?_
                refine l_store_whole (i := 1) hs rfl I30 rfl rfl hzl hol3 (rec_one _) ?_
                intro w_ hs
                refine l_v (by first | exact (r_assign (v := iV _) rfl) | exact (r_assign rfl)) ?_
                refine l_nil (nrm_then ?_)
                refine c_ret (ret_then ?_)
                show Fin _ _ _ _ _
                refine fin2c rfl rfl (run_loadVar_agg Try.underlying30 rfl I30 hzl (cells_whole (hs.at_ 1).1)) ?_
                have e : nextR (toL s) = (.zero, 0, 6) := by
                  unfold nextR
                  rw [if_neg h32, if_neg (fun h => h c2), if_neg c3', if_pos c4, if_neg h5]
                  rw [if_neg (fun h => h c6), if_pos c7']
                rw [e]
                exact ⟨rfl, _, fun h => absurd h (by dsimp only; first | assumption | decide), (hs.pull 1).drop⟩
              · have c7' : ¬ 8192 < (text ((toL s).drop ((32 + (count ((toL s).drop 32)).2.1) + 32))).1.length := by have h : ¬ (((text ((toL s).drop ((32 + (count ((toL s).drop 32)).2.1) + 32))).1.length : Nat) : Int) > 8192 := of_decide_eq_false c7; omega
                replace c7 := of_decide_eq_false c7
                refine c_skip (nrm_then ?_)
                refine c_seq ?_
                refine c_rseq ?_
                refine l_v (by first | exact (r_move (v := iV _) rfl) | exact (r_move rfl)) ?_
                refine l_v (r_neqi rfl rfl) ?_
                refine l_nil (nrm_then ?_)
                refine c_false rfl (decide_eq_false (fun h => h c6)) ?_
                refine c_skip (nrm_then ?_)
                refine c_rseq ?_
                refine l_v (r_load_whole (i := 1) hs rfl Try.underlying30 I30 rfl hol3) ?_
                refine l_store_whole (i := 1) hs rfl I30 rfl rfl hol3 hol3 (rec_one _) ?_
                intro w_ hs
                refine l_v (by first | exact (r_assign (v := iV _) rfl) | exact (r_assign rfl)) ?_
                refine l_nil (nrm_then ?_)
                refine c_ret ?_
                show Fin _ _ _ _ _
                refine fin2c rfl rfl (run_loadVar_agg Try.underlying30 rfl I30 hol3 (cells_whole (hs.at_ 1).1)) ?_
                have e : nextR (toL s) = ({ ({ ({ Rec.zero with key := keyOf (toL s) } : Rec) with patch := true, base := keyOf ((toL s).drop (32 + (count ((toL s).drop 32)).2.1)) } : Rec) with body := (text ((toL s).drop ((32 + (count ((toL s).drop 32)).2.1) + 32))).1 }, ((32 + (count ((toL s).drop 32)).2.1) + 32) + (text ((toL s).drop ((32 + (count ((toL s).drop 32)).2.1) + 32))).2.1, 0) := by
                  unfold nextR
                  rw [if_neg h32, if_neg (fun h => h c2), if_neg c3', if_pos c4, if_neg h5]
                  rw [if_neg (fun h => h c6), if_neg c7']
                  unfold keyOf; rw [if_neg h32, if_neg h5]; try rfl
                rw [e]
                exact ⟨rfl, _, fun _ => rfl, (hs.pull 1).drop⟩
            · have g : decide ((text ((toL s).drop ((32 + (count ((toL s).drop 32)).2.1) + 32))).2.2 = 0) = false := decide_eq_false c6
              refine l_v (by first | exact (r_move (v := bV _) rfl) | exact (r_move rfl)) ?_
              refine l_no rfl (g) ?_
              refine l_no rfl (g) ?_
              refine l_no rfl (g) ?_
              refine l_no rfl (g) ?_
              refine l_v (r_pick_f rfl g rfl) ?_
              refine l_nil (nrm_then ?_)
              refine c_false rfl (rfl) ?_
              refine c_skip (nrm_then ?_)
              refine c_seq ?_
              refine c_rseq ?_
              refine l_v (by first | exact (r_move (v := iV _) rfl) | exact (r_move rfl)) ?_
              refine l_v (r_neqi rfl rfl) ?_
              refine l_nil (nrm_then ?_)
              refine c_true rfl (decide_eq_true (of_decide_eq_false g)) ?_
              refine c_rseq ?_
              refine l_v (r_build (l := []) rfl bz) ?_
              refine l_v (by first | exact (r_move (v := iV _) rfl) | exact (r_move rfl)) ?_
              refine l_store_whole (i := 1) hs rfl I30 rfl rfl hzl hol3 (rec_one _) ?_
              intro w_ hs
              refine l_v (by first | exact (r_assign (v := iV _) rfl) | exact (r_assign rfl)) ?_
              refine l_nil (nrm_then ?_)
              refine c_ret (ret_then ?_)
              show Fin _ _ _ _ _
              refine fin2c rfl rfl (run_loadVar_agg Try.underlying30 rfl I30 hzl (cells_whole (hs.at_ 1).1)) ?_
              have e : nextR (toL s) = (.zero, 0, (text ((toL s).drop ((32 + (count ((toL s).drop 32)).2.1) + 32))).2.2) := by
                unfold nextR
                rw [if_neg h32, if_neg (fun h => h c2), if_neg c3', if_pos c4, if_neg h5]
                rw [if_pos c6]
              rw [e]
              exact ⟨rfl, _, fun h => absurd h (by dsimp only; first | assumption | decide), (hs.pull 1).drop⟩
        · replace c4 := of_decide_eq_false c4
          refine c_skip (nrm_then ?_)
          refine c_seq ?_
          refine c_rseq ?_
          refine l_v (by first | exact (r_move (v := iV _) rfl) | exact (r_move rfl)) ?_
          refine l_v (r_eqli rfl rfl) ?_
          refine l_nil (nrm_then ?_)
          refine c_true rfl (f) ?_
          refine c_region ?_
          refine l_v (r_move (v := .pointer _) rfl) ?_
          refine l_call (r_call Try.func57 rfl rfl) ?_
          refine Calls.mono (text_c (cut s (32 + (count ((toL s).drop 32)).2.1)) (Nat.le_trans (cut_size s _) hz) b w0 _ _ hs) ?_
          rintro e w_ ⟨rfl, hs⟩
          refine ⟨_, rfl, ?_⟩
          rw [toL_cut, cutcut] at hs
          rw [toL_cut]
          refine l_v (r_move rfl) ?_
          refine l_v (r_extract rfl rfl) ?_
          refine l_v (r_extract rfl rfl) ?_
          refine l_v (by first | exact (r_fieldAddr0 (off := 65) (T := 9) (by kernel_rfl) rfl) | exact (r_fieldAddr (off := 65) (T := 9) (by kernel_rfl) rfl)) ?_
          have hol2 := recC_length hok1
          refine l_store (i := 1) (v := sV _) hs rfl I9 rfl rfl (by rw [hol2]; decide) ?_
          intro w_ hs
          rw [rec_setbody _ hok1] at hs
          have hok3 : ({ ({ Rec.zero with key := keyOf (toL s) } : Rec) with body := toL (ofL (text ((toL s).drop (32 + (count ((toL s).drop 32)).2.1))).1) } : Rec).ok := hok1
          have hol3 := recC_length hok3
          have hb3 := rec_body _ hok3
          refine l_v (by first | exact (r_assign (v := iV _) rfl) | exact (r_assign rfl)) ?_
          refine l_nil (nrm_then ?_)
          refine c_seq ?_
          refine c_rseq ?_
          refine l_v (by first | exact (r_move (v := iV _) rfl) | exact (r_move rfl)) ?_
          refine l_v (r_eqli rfl rfl) ?_
          by_cases c6 : (text ((toL s).drop (32 + (count ((toL s).drop 32)).2.1))).2.2 = 0
          · have g : decide ((text ((toL s).drop (32 + (count ((toL s).drop 32)).2.1))).2.2 = 0) = true := decide_eq_true c6
            refine l_v (by first | exact (r_move (v := bV _) rfl) | exact (r_move rfl)) ?_
            refine l_vg (by first | exact (r_fieldAddr0 (off := 65) (T := 9) (by kernel_rfl) rfl) | exact (r_fieldAddr (off := 65) (T := 9) (by kernel_rfl) rfl)) rfl (g) ?_
            refine l_vg (r_load_at (i := 1) hs rfl Try.underlying9 rfl hb3) rfl (g) ?_
            refine l_vg (r_len_s Try.underlying9 rfl) rfl (g) ?_
            refine l_vg (r_gtri rfl rfl) rfl (g) ?_
            refine l_v (r_pick_t rfl g rfl) ?_
            refine l_nil (nrm_then ?_)
            refine c_cond rfl (fun c7 => ?_) (fun c7 => ?_)
            · have c7' : 8192 < (text ((toL s).drop (32 + (count ((toL s).drop 32)).2.1))).1.length := by have h : (((text ((toL s).drop (32 + (count ((toL s).drop 32)).2.1))).1.length : Nat) : Int) > 8192 := of_decide_eq_true c7; omega
              replace c7 := of_decide_eq_true c7
              refine c_region ?_
              refine l_v (by first | exact (r_assign (v := iV _) rfl) | exact (r_assign rfl)) ?_
              refine l_nil (nrm_then ?_)
              refine c_seq ?_
              refine c_rseq ?_
              refine l_v (by first | exact (r_move (v := iV _) rfl) | exact (r_move rfl)) ?_
              refine l_v (r_neqi rfl rfl) ?_
              refine l_nil (nrm_then ?_)
              refine c_true rfl (rfl) ?_
              refine c_rseq ?_
              refine l_v (r_build (l := []) rfl bz) ?_
              refine l_v (by first | exact (r_move (v := iV _) rfl) | exact (r_move rfl)) ?_
              refine l_store_whole (i := 1) hs rfl I30 rfl rfl hzl hol3 (rec_one _) ?_
              intro w_ hs
              refine l_v (by first | exact (r_assign (v := iV _) rfl) | exact (r_assign rfl)) ?_
              refine l_nil (nrm_then ?_)
              refine c_ret (ret_then ?_)
              show Fin _ _ _ _ _
              refine fin2c rfl rfl (run_loadVar_agg Try.underlying30 rfl I30 hzl (cells_whole (hs.at_ 1).1)) ?_
              have e : nextR (toL s) = (.zero, 0, 6) := by
                unfold nextR
                rw [if_neg h32, if_neg (fun h => h c2), if_neg c3', if_neg c4]
                rw [if_neg (fun h => h c6), if_pos c7']
              rw [e]
              exact ⟨rfl, _, fun h => absurd h (by dsimp only; first | assumption | decide), (hs.pull 1).drop⟩
            · have c7' : ¬ 8192 < (text ((toL s).drop (32 + (count ((toL s).drop 32)).2.1))).1.length := by have h : ¬ (((text ((toL s).drop (32 + (count ((toL s).drop 32)).2.1))).1.length : Nat) : Int) > 8192 := of_decide_eq_false c7; omega
              replace c7 := of_decide_eq_false c7
              refine c_skip (nrm_then ?_)
              refine c_seq ?_
              refine c_rseq ?_
              refine l_v (by first | exact (r_move (v := iV _) rfl) | exact (r_move rfl)) ?_
              refine l_v (r_neqi rfl rfl) ?_
              refine l_nil (nrm_then ?_)
              refine c_false rfl (decide_eq_false (fun h => h c6)) ?_
              refine c_skip (nrm_then ?_)
              refine c_rseq ?_
              refine l_v (r_load_whole (i := 1) hs rfl Try.underlying30 I30 rfl hol3) ?_
              refine l_store_whole (i := 1) hs rfl I30 rfl rfl hol3 hol3 (rec_one _) ?_
              intro w_ hs
              refine l_v (by first | exact (r_assign (v := iV _) rfl) | exact (r_assign rfl)) ?_
              refine l_nil (nrm_then ?_)
              refine c_ret ?_
              show Fin _ _ _ _ _
              refine fin2c rfl rfl (run_loadVar_agg Try.underlying30 rfl I30 hol3 (cells_whole (hs.at_ 1).1)) ?_
              have e : nextR (toL s) = ({ ({ Rec.zero with key := keyOf (toL s) } : Rec) with body := (text ((toL s).drop (32 + (count ((toL s).drop 32)).2.1))).1 }, (32 + (count ((toL s).drop 32)).2.1) + (text ((toL s).drop (32 + (count ((toL s).drop 32)).2.1))).2.1, 0) := by
                unfold nextR
                rw [if_neg h32, if_neg (fun h => h c2), if_neg c3', if_neg c4]
                rw [if_neg (fun h => h c6), if_neg c7']
                unfold keyOf; rw [if_neg h32]; try rfl
              rw [e]
              exact ⟨rfl, _, fun _ => rfl, (hs.pull 1).drop⟩
          · have g : decide ((text ((toL s).drop (32 + (count ((toL s).drop 32)).2.1))).2.2 = 0) = false := decide_eq_false c6
            refine l_v (by first | exact (r_move (v := bV _) rfl) | exact (r_move rfl)) ?_
            refine l_no rfl (g) ?_
            refine l_no rfl (g) ?_
            refine l_no rfl (g) ?_
            refine l_no rfl (g) ?_
            refine l_v (r_pick_f rfl g rfl) ?_
            refine l_nil (nrm_then ?_)
            refine c_false rfl (rfl) ?_
            refine c_skip (nrm_then ?_)
            refine c_seq ?_
            refine c_rseq ?_
            refine l_v (by first | exact (r_move (v := iV _) rfl) | exact (r_move rfl)) ?_
            refine l_v (r_neqi rfl rfl) ?_
            refine l_nil (nrm_then ?_)
            refine c_true rfl (decide_eq_true (of_decide_eq_false g)) ?_
            refine c_rseq ?_
            refine l_v (r_build (l := []) rfl bz) ?_
            refine l_v (by first | exact (r_move (v := iV _) rfl) | exact (r_move rfl)) ?_
            refine l_store_whole (i := 1) hs rfl I30 rfl rfl hzl hol3 (rec_one _) ?_
            intro w_ hs
            refine l_v (by first | exact (r_assign (v := iV _) rfl) | exact (r_assign rfl)) ?_
            refine l_nil (nrm_then ?_)
            refine c_ret (ret_then ?_)
            show Fin _ _ _ _ _
            refine fin2c rfl rfl (run_loadVar_agg Try.underlying30 rfl I30 hzl (cells_whole (hs.at_ 1).1)) ?_
            have e : nextR (toL s) = (.zero, 0, (text ((toL s).drop (32 + (count ((toL s).drop 32)).2.1))).2.2) := by
              unfold nextR
              rw [if_neg h32, if_neg (fun h => h c2), if_neg c3', if_neg c4]
              rw [if_pos c6]
            rw [e]
            exact ⟨rfl, _, fun h => absurd h (by dsimp only; first | assumption | decide), (hs.pull 1).drop⟩
    · have f : decide ((count ((toL s).drop 32)).2.2 = 0) = false := decide_eq_false c2
      refine l_v (by first | exact (r_move (v := bV _) rfl) | exact (r_move rfl)) ?_
      refine l_no rfl (f) ?_
      refine l_no rfl (f) ?_
      refine l_v (r_pick_f rfl f rfl) ?_
      refine l_nil (nrm_then ?_)
      refine c_false rfl (rfl) ?_
      refine c_skip (nrm_then ?_)
      refine c_seq ?_
      refine c_rseq ?_
      refine l_v (by first | exact (r_move (v := iV _) rfl) | exact (r_move rfl)) ?_
      refine l_v (r_eqli rfl rfl) ?_
      refine l_v (by first | exact (r_move (v := bV _) rfl) | exact (r_move rfl)) ?_
      refine l_no rfl (f) ?_
      refine l_no rfl (f) ?_
      refine l_v (r_pick_f rfl f rfl) ?_
      refine l_nil (nrm_then ?_)
      refine c_false rfl (rfl) ?_
      refine c_skip (nrm_then ?_)
      refine c_seq ?_
      refine c_rseq ?_
      refine l_v (by first | exact (r_move (v := iV _) rfl) | exact (r_move rfl)) ?_
      refine l_v (r_eqli rfl rfl) ?_
      refine l_nil (nrm_then ?_)
      refine c_false rfl (f) ?_
      refine c_skip (nrm_then ?_)
      refine c_seq ?_
      refine c_rseq ?_
      refine l_v (by first | exact (r_move (v := iV _) rfl) | exact (r_move rfl)) ?_
      refine l_v (r_eqli rfl rfl) ?_
      refine l_v (by first | exact (r_move (v := bV _) rfl) | exact (r_move rfl)) ?_
      refine l_no rfl (f) ?_
      refine l_no rfl (f) ?_
      refine l_no rfl (f) ?_
      refine l_no rfl (f) ?_
      refine l_v (r_pick_f rfl f rfl) ?_
      refine l_nil (nrm_then ?_)
      refine c_false rfl (rfl) ?_
      refine c_skip (nrm_then ?_)
      refine c_seq ?_
      refine c_rseq ?_
      refine l_v (by first | exact (r_move (v := iV _) rfl) | exact (r_move rfl)) ?_
      refine l_v (r_neqi rfl rfl) ?_
      refine l_nil (nrm_then ?_)
      refine c_true rfl (decide_eq_true (of_decide_eq_false f)) ?_
      refine c_rseq ?_
      refine l_v (r_build (l := []) rfl bz) ?_
      refine l_v (by first | exact (r_move (v := iV _) rfl) | exact (r_move rfl)) ?_
      refine l_store_whole (i := 1) hs rfl I30 rfl rfl hzl hol1 (rec_one _) ?_
      intro w_ hs
      refine l_v (by first | exact (r_assign (v := iV _) rfl) | exact (r_assign rfl)) ?_
      refine l_nil (nrm_then ?_)
      refine c_ret (ret_then ?_)
      show Fin _ _ _ _ _
      refine fin2c rfl rfl (run_loadVar_agg Try.underlying30 rfl I30 hzl (cells_whole (hs.at_ 1).1)) ?_
      have e : nextR (toL s) = (.zero, 0, (count ((toL s).drop 32)).2.2) := by unfold nextR; rw [if_neg h32, if_pos c2]
      rw [e]
      exact ⟨rfl, _, fun h => absurd h (by dsimp only; first | assumption | decide), (hs.pull 1).drop⟩
end Go.Proofs.Ytiipibmliffghaa.Box
