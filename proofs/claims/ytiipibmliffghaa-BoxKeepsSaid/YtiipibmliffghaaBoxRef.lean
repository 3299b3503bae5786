/- The walks of the document's records. -/
import Derived.Test.YtiipibmliffghaaBoxOpen
import Derived.Test.YtiipibmliffghaaSixRr
import Derived.Test.YtiipibmliffghaaSixRef
import Derived.Test.YtiipibmliffghaaRefTake
namespace Go.Proofs.Ytiipibmliffghaa.Box
open Go Go.RowKit Go.Proofs.Ytiipibmliffghaa.Eng Go.Proofs.Ytiipibmliffghaa.Six Go.Proofs.Ytiipibmliffghaa.CrcFn Go.Proofs.Ytiipibmliffghaa.Crc
set_option linter.unusedVariables false
set_option maxRecDepth 100000
theorem bzr : Program.built Try.prog 25 [] = some (recC .zero).toArray := built_of I25 (places := [(0, 32), (32, 32), (64, 1), (65, 1)]) (by kernel_rfl) rfl rfl
theorem bkr (k : List UInt8) (hk : k.length = 32) : Program.built Try.prog 25 [(0, kV k)] = some (recC { Rec.zero with key := k }).toArray := by
  refine built_of I25 (places := [(0, 32), (32, 32), (64, 1), (65, 1)]) (by kernel_rfl) (cs := recC .zero) rfl ?_
  refine fill_step (off := 0) (l := k.map u8V) (by rw [List.length_map, hk]; rfl) rfl (by rw [List.length_map, hk]; decide) ?_
  rw [List.length_map, hk, rec_setkey _ zero_ok k hk]
  rfl
theorem ball (r : Rec) (h : r.ok) : Program.built Try.prog 30 [(0, kV r.key), (1, kV r.base), (2, bV r.patch), (3, sV (ofL r.body))] = some (recC r).toArray := by
  refine built_of I30 (places := [(0, 32), (32, 32), (64, 1), (65, 1)]) (by kernel_rfl) (cs := recC .zero) rfl ?_
  have h1 : ({ Rec.zero with key := r.key } : Rec).ok := ⟨h.1, show zeros.length = 32 by decide⟩
  have h2 : ({ Rec.zero with key := r.key, base := r.base } : Rec).ok := h
  have h3 : ({ Rec.zero with key := r.key, base := r.base, patch := r.patch } : Rec).ok := h
  refine fill_step (off := 0) (l := r.key.map u8V) (by rw [List.length_map, h.1]; rfl) rfl (by rw [List.length_map, h.1]; decide) ?_
  rw [List.length_map, h.1, rec_setkey _ zero_ok _ h.1]
  refine fill_step (off := 32) (l := r.base.map u8V) (by rw [List.length_map, h.2]; rfl) rfl (by rw [List.length_map, h.2, recC_length h1]; decide) ?_
  rw [List.length_map, h.2, rec_setbase _ h1 _ h.2]
  have e3 : ∀ (c : List Value) (v : Value) (o : Nat), o < c.length → c.take o ++ [v] ++ c.drop (o + [v].length) = c.set o v := fun c v o ho => by
    rw [List.set_eq_take_append_cons_drop, if_pos ho]; simp
  refine fill_step (off := 64) (l := [bV r.patch]) rfl rfl (by rw [recC_length h2]; exact Nat.le_of_ble_eq_true rfl) ?_
  rw [e3 _ _ _ (by rw [recC_length h2]; decide), rec_setpatch _ h2]
  refine fill_step (off := 65) (l := [sV (ofL r.body)]) rfl rfl (by rw [recC_length h3]; exact Nat.le_of_ble_eq_true rfl) ?_
  rw [e3 _ _ _ (by rw [recC_length h3]; decide), rec_setbody _ h3]
  rfl
set_option maxHeartbeats 1000000 in
theorem theirs_c (r : Rec) (h : r.ok) (w : World) :
    Calls Try.prog 11 #[rV r] w fun e w' => e = .returned (rV r) ∧ Below w.heap.size w w' := by
  have hol := recC_length h
  have hzl := recC_length zero_ok
  have hkl : (r.key.map u8V).length = 32 := (List.length_map u8V).trans h.1
  have hbl : (r.base.map u8V).length = 32 := (List.length_map u8V).trans h.2
  refine enter (P := Try.prog) Try.func11 rfl rfl ?_
  have hs := Sep.init w
  refine c_rseq ?_
  refine l_box hs rfl ?_
  intro b1 w1 hs hB1 hlt1
  refine l_alloc hs I30 ?_
  intro b2 w2 hs hB2 hlt2
  refine l_nil (nrm_then ?_)
  refine c_rseq ?_
  have hs : Sep w w2 [blk b2 (recC .zero) 30, blk b1 (recC r) 25] := hs
  refine l_v (by first | exact (r_fieldAddr0 (off := 0) (T := 23) (by kernel_rfl) rfl) | exact (r_fieldAddr (off := 0) (T := 23) (by kernel_rfl) rfl)) ?_
  refine l_v (r_load_part (i := 1) hs rfl Try.underlying23 I23 rfl (rec_key r h) hkl) ?_
  refine l_v (by first | exact (r_fieldAddr0 (off := 32) (T := 23) (by kernel_rfl) rfl) | exact (r_fieldAddr (off := 32) (T := 23) (by kernel_rfl) rfl)) ?_
  refine l_v (r_load_part (i := 1) hs rfl Try.underlying23 I23 rfl (rec_base r h) hbl) ?_
  refine l_v (by first | exact (r_fieldAddr0 (off := 64) (T := 4) (by kernel_rfl) rfl) | exact (r_fieldAddr (off := 64) (T := 4) (by kernel_rfl) rfl)) ?_
  refine l_v (r_load_at (i := 1) hs rfl Try.underlying4 rfl (rec_patch r h)) ?_
  refine l_v (by first | exact (r_fieldAddr0 (off := 65) (T := 9) (by kernel_rfl) rfl) | exact (r_fieldAddr (off := 65) (T := 9) (by kernel_rfl) rfl)) ?_
  refine l_v (r_load_at (i := 1) hs rfl Try.underlying9 rfl (rec_body r h)) ?_
  refine l_v (r_build rfl (ball r h)) ?_
  refine l_store_whole (i := 0) hs rfl I30 rfl rfl hol hzl (rec_one _) ?_
  intro w_ hs
  refine l_nil (nrm_then ?_)
  refine c_ret ?_
  show Fin _ _ _ _ _
  refine fin1c rfl rfl (run_loadVar_agg Try.underlying30 rfl I30 hol (cells_whole (hs.at_ 0).1)) ?_
  exact ⟨rfl, hs.below⟩
set_option maxHeartbeats 1000000 in
theorem rkey_c (s : ByteArray) (hz : 32 ≤ s.size) (w : World) :
    Calls Try.prog 58 #[sV s] w fun e w' => e = .returned (kV (keyOf (toL s))) ∧ Below w.heap.size w w' := by
  have hl := toL_size s
  have hko : keyOf (toL s) = (toL s).take 32 := if_neg (by omega)
  refine enter (P := Try.prog) Try.func58 rfl rfl ?_
  have hs := Sep.init w
  refine c_rseq ?_
  refine l_alloc hs I23 ?_
  intro b2 w2 hs hB2 hlt2
  refine l_nil (nrm_then ?_)
  refine c_rseq ?_
  refine l_alloc hs I23 ?_
  intro b3 w3 hs hB3 hlt3
  refine l_nil (nrm_then ?_)
  refine c_seq ?_
  refine c_rseq ?_
  refine l_v (by first | exact (r_assign (v := iV _) rfl) | exact (r_assign rfl)) ?_
  refine l_nil (nrm_then ?_)
  refine c_block ?_
  refine c_loopn [0, 2, 3] (fun m f' w' => ∃ i, i + m = 32 ∧ f' 4 = iV (i : Int) ∧ Sep w w' [blk b3 (((toL s).take i).map u8V ++ List.replicate (32 - i) (.int .u8 0)) 23, blk b2 (List.replicate 32 (.int .u8 0)) 23]) ?_ ?_
  · exact ⟨32, 0, rfl, rfl, hs⟩
  · rintro m g w_ ⟨i, hi, h4, hs⟩
    have htl : ((toL s).take i).length = i := by rw [List.length_take]; omega
    refine OkC.env ?_ (fixH (L := [(4, _)]) ⟨h4, trivial⟩)
    clear h4
    refine c_seq ?_
    refine c_rseq ?_
    refine l_v (by first | exact (r_move (v := iV _) rfl) | exact (r_move rfl)) ?_
    refine l_v (r_lssi rfl rfl) ?_
    refine l_nil (nrm_then ?_)
    refine c_cond rfl (fun h => ?_) (fun h => ?_)
    · have hi32 : i < 32 := by have := of_decide_eq_true h; omega
      have hlt : i < (toL s).length := by omega
      replace h := of_decide_eq_true h
      refine c_skip (nrm_then ?_)
      refine c_seq ?_
      refine c_block ?_
      refine c_region ?_
      refine l_v (by first | exact (r_move (v := iV _) rfl) | exact (r_move rfl)) ?_
      refine l_v (by first | exact (r_move (v := sV _) rfl) | exact (r_move rfl)) ?_
      refine l_v (by first | exact (r_move (v := iV _) rfl) | exact (r_move rfl)) ?_
      refine l_v (by first | exact (r_index_s Try.underlying9 rfl rfl (by omega)) | exact (r_index_si Try.underlying9 rfl rfl (by omega))) ?_
      refine l_v (by first | exact (r_indexAddr_a0 Try.underlying23 I5 rfl rfl (by omega)) | exact (r_indexAddr_a Try.underlying23 I5 rfl rfl (by omega))) ?_
      refine l_store (i := 0) (v := u8V _) hs rfl I5 rfl rfl (by rw [List.length_append, List.length_map, htl, List.length_replicate]; omega) ?_
      intro w_ hs
      refine l_nil (nrm_block (nrm_then ?_))
      refine c_region ?_
      refine l_v (by first | exact (r_move (v := iV _) rfl) | exact (r_move rfl)) ?_
      refine l_v (r_addi rfl rfl (by omega)) ?_
      refine l_v (by first | exact (r_assign (v := iV _) rfl) | exact (r_assign rfl)) ?_
      refine l_nil (nrm_then ?_)
      refine And.intro (by refine ⟨?_, ?_, ?_, trivial⟩ <;> ((conv => lhs; whnf); (try conv => rhs; whnf))) ?_
      refine ⟨31 - i, by omega, i + 1, by omega, rfl, ?_⟩
      have e : (((toL s).take i).map u8V ++ List.replicate (32 - i) (Value.int .u8 0)).set i (u8V (at8 s i)) = ((toL s).take (i + 1)).map u8V ++ List.replicate (32 - (i + 1)) (.int .u8 0) := by
        rw [List.take_succ_eq_append_getElem hlt, List.map_append, List.set_append_right _ _ (by rw [List.length_map, htl]; exact Nat.le_refl _), List.length_map, htl, Nat.sub_self, show 32 - i = (32 - (i + 1)) + 1 by omega, List.replicate_succ]
        have e8 : at8 s i = (toL s)[i] := by
          show (toL s).getD i 0 = _
          rw [List.getD_eq_getElem?_getD, List.getElem?_eq_getElem hlt]; rfl
        rw [e8]
        simp
      rw [← e]
      exact hs
    · replace h := of_decide_eq_false h
      refine c_exit (ex_then (ex_then (ex_hit (nrm_then ?_))))
      refine c_rseq ?_
      obtain rfl : i = 32 := by omega
      have hkl : (((toL s).take 32).map u8V).length = 32 := by rw [List.length_map, htl]
      have hz32 : (List.replicate 32 (Value.int .u8 0)).length = 32 := List.length_replicate
      have hs : Sep w w_ [blk b3 (((toL s).take 32).map u8V) 23, blk b2 (List.replicate 32 (.int .u8 0)) 23] := by
        have e : ((toL s).take 32).map u8V ++ List.replicate (32 - 32) (Value.int .u8 0) = ((toL s).take 32).map u8V := by simp
        rw [← e]; exact hs
      refine l_v (r_load_whole (i := 0) hs rfl Try.underlying23 I23 rfl hkl) ?_
      refine l_store_whole (i := 1) hs rfl I23 rfl rfl hkl hz32 (one_map (g := u8V) (fun _ => rfl) _) ?_
      intro w_ hs
      refine l_nil (nrm_then ?_)
      refine c_ret ?_
      show Fin _ _ _ _ _
      refine fin1c rfl rfl (run_loadVar_agg Try.underlying23 rfl I23 hkl (cells_whole (hs.at_ 1).1)) ?_
      rw [hko]
      exact ⟨rfl, hs.below⟩
set_option maxHeartbeats 4000000 in
theorem begin_c (s : ByteArray) (hz : s.size ≤ 9223372036854775800) (w : World) :
    Calls Try.prog 46 #[sV s] w fun e w' => e = .returned (.tuple #[rV (nextR (toL s)).1, iV ((nextR (toL s)).2.1 : Int), iV (nextR (toL s)).2.2]) ∧ Below w.heap.size w w' := by
  have hl := toL_size s
  have hzl := recC_length zero_ok
  have cutcut : ∀ a c : Nat, cut (cut s a) c = cut s (a + c) := fun a c => by unfold cut; rw [Eng.toL_ofL, List.drop_drop]
  have hok1 : ({ Rec.zero with key := keyOf (toL s) } : Rec).ok := ⟨keyOf_len _, show zeros.length = 32 by decide⟩
  have hol1 := recC_length hok1
  have hone1 := rec_one ({ Rec.zero with key := keyOf (toL s) } : Rec)
  have hcsz := count_size ((toL s).drop 32)
  have hcnn := count_nonneg ((toL s).drop 32)
  rw [List.length_drop] at hcsz
  refine enter (P := Try.prog) Try.func46 rfl rfl ?_
  have hs := Sep.init w
  refine c_rseq ?_
  refine l_alloc hs I25 ?_
  intro b2 w2 hs hB2 hlt2
  refine l_v (by first | exact (r_assign (v := iV _) rfl) | exact (r_assign rfl)) ?_
  refine l_v (by first | exact (r_assign (v := iV _) rfl) | exact (r_assign rfl)) ?_
  refine l_nil (nrm_then ?_)
  refine c_seq ?_
  refine c_rseq ?_
  refine l_v (by first | exact (r_move (v := sV _) rfl) | exact (r_move rfl)) ?_
  refine l_v (r_len_s Try.underlying9 rfl) ?_
  refine l_v (r_lssi rfl rfl) ?_
  refine l_nil (nrm_then ?_)
  have hs : Sep w _ [blk b2 (recC .zero) 25] := hs
  refine c_cond rfl (fun h32 => ?_) (fun h32 => ?_)
  · have h32' : (toL s).length < 32 := by have := of_decide_eq_true h32; omega
    replace h32 := of_decide_eq_true h32
    refine c_rseq ?_
    refine l_v (r_build (l := []) rfl bzr) ?_
    refine l_store_whole (i := 0) hs rfl I25 rfl rfl hzl hzl (rec_one _) ?_
    intro w_ hs
    refine l_v (by first | exact (r_assign (v := iV _) rfl) | exact (r_assign rfl)) ?_
    refine l_v (by first | exact (r_assign (v := iV _) rfl) | exact (r_assign rfl)) ?_
    refine l_nil (nrm_then ?_)
    refine c_ret (ret_then ?_)
    show Fin _ _ _ _ _
    refine fin3c rfl rfl (run_loadVar_agg Try.underlying25 rfl I25 hzl (cells_whole (hs.at_ 0).1)) ?_
    have e : nextR (toL s) = (.zero, 0, 2) := by unfold nextR; rw [if_pos h32']
    rw [e]
    exact ⟨rfl, hs.below⟩
  · have h32' : ¬ (toL s).length < 32 := by have := of_decide_eq_false h32; omega
    replace h32 := of_decide_eq_false h32
    refine c_skip (nrm_then ?_)
    refine c_rseq ?_
    refine l_v (by first | exact (r_move (v := sV _) rfl) | exact (r_move rfl)) ?_
    refine l_call (r_call Try.func58 rfl rfl) ?_
    refine Calls.mono (rkey_c s (by omega) _) ?_
    rintro e w_ ⟨rfl, hb⟩
    refine ⟨_, rfl, ?_⟩
    have hs := hs.below_ hb
    refine l_v (r_build rfl (bkr _ (keyOf_len _))) ?_
    refine l_alloc hs I25 ?_
    intro b5 w5 hs hB5 hlt5
    first | refine l_store_whole (i := 0) hs rfl I25 rfl rfl (by first | assumption | (simp; done)) (by first | assumption | (simp; done)) (by first | assumption | simp [Value.oneCell']) ?_ | refine l_store_whole (i := 1) hs rfl I25 rfl rfl (by first | assumption | (simp; done)) (by first | assumption | (simp; done)) (by first | assumption | simp [Value.oneCell']) ?_ | refine l_store_whole (i := 2) hs rfl I25 rfl rfl (by first | assumption | (simp; done)) (by first | assumption | (simp; done)) (by first | assumption | simp [Value.oneCell']) ?_ | refine l_store_whole (i := 3) hs rfl I25 rfl rfl (by first | assumption | (simp; done)) (by first | assumption | (simp; done)) (by first | assumption | simp [Value.oneCell']) ?_ | refine l_store_whole (i := 4) hs rfl I25 rfl rfl (by first | assumption | (simp; done)) (by first | assumption | (simp; done)) (by first | assumption | simp [Value.oneCell']) ?_ | refine l_store_whole (i := 5) hs rfl I25 rfl rfl (by first | assumption | (simp; done)) (by first | assumption | (simp; done)) (by first | assumption | simp [Value.oneCell']) ?_ | refine l_store_whole (i := 6) hs rfl I25 rfl rfl (by first | assumption | (simp; done)) (by first | assumption | (simp; done)) (by first | assumption | simp [Value.oneCell']) ?_
    intro w_ hs
    refine l_nil (nrm_then ?_)
    refine c_rseq ?_
    refine l_v (by first | exact (r_assign (v := iV _) rfl) | exact (r_assign rfl)) ?_
    refine l_nil (nrm_then ?_)
    refine c_rseq ?_
    refine l_v (by first | exact (r_move (v := sV _) rfl) | exact (r_move rfl)) ?_
    refine l_v (by first | exact (r_move (v := iV _) rfl) | exact (r_move rfl)) ?_
    refine l_v (r_slice_sl 32 Try.underlying9 rfl rfl (by omega)) ?_
    have hs : Sep w _ [blk b5 (recC ({ Rec.zero with key := keyOf (toL s) } : Rec)) 25, blk b2 (recC .zero) 25] := hs
    rw [show (32 : Int).toNat = 32 from rfl, extract_cut]
    refine l_call (r_call Try.func59 rfl rfl) ?_
    refine Calls.mono (readcount_c (cut s 32) (Nat.le_trans (cut_size s 32) (by omega)) _) ?_
    rintro e w_ ⟨rfl, rfl⟩
    refine ⟨_, rfl, ?_⟩
    rw [toL_cut]
    refine l_v (r_move rfl) ?_
    refine l_v (r_extract rfl rfl) ?_
    refine l_v (r_extract rfl rfl) ?_
    refine l_v (r_extract rfl rfl) ?_
    refine l_v (by first | exact (r_assign (v := iV _) rfl) | exact (r_assign rfl)) ?_
    refine l_v (by first | exact (r_assign (v := iV _) rfl) | exact (r_assign rfl)) ?_
    refine l_v (by first | exact (r_assign (v := iV _) rfl) | exact (r_assign rfl)) ?_
    refine l_nil (nrm_then ?_)
    refine c_seq ?_
    refine c_rseq ?_
    refine l_v (by first | exact (r_move (v := iV _) rfl) | exact (r_move rfl)) ?_
    refine l_v (r_neqi rfl rfl) ?_
    refine l_nil (nrm_then ?_)
    refine c_cond rfl (fun c2 => ?_) (fun c2 => ?_)
    · replace c2 := of_decide_eq_true c2
      refine c_rseq ?_
      refine l_v (r_build (l := []) rfl bzr) ?_
      refine l_v (by first | exact (r_move (v := iV _) rfl) | exact (r_move rfl)) ?_
      refine l_store_whole (i := 1) hs rfl I25 rfl rfl hzl hzl (rec_one _) ?_
      intro w_ hs
      refine l_v (by first | exact (r_assign (v := iV _) rfl) | exact (r_assign rfl)) ?_
      refine l_v (by first | exact (r_assign (v := iV _) rfl) | exact (r_assign rfl)) ?_
      refine l_nil (nrm_then ?_)
      refine c_ret (ret_then ?_)
      show Fin _ _ _ _ _
      refine fin3c rfl rfl (run_loadVar_agg Try.underlying25 rfl I25 hzl (cells_whole (hs.at_ 1).1)) ?_
      have e : nextR (toL s) = (.zero, 0, (count ((toL s).drop 32)).2.2) := by unfold nextR; rw [if_neg h32', if_pos c2]
      rw [e]
      exact ⟨rfl, hs.below⟩
    · replace c2 := of_decide_eq_false c2
      refine c_skip (nrm_then ?_)
      refine c_seq ?_
      refine c_rseq ?_
      refine l_v (by first | exact (r_move (v := iV _) rfl) | exact (r_move rfl)) ?_
      refine l_v (r_gtri rfl rfl) ?_
      refine l_nil (nrm_then ?_)
      refine c_cond rfl (fun c3 => ?_) (fun c3 => ?_)
      · replace c3 := of_decide_eq_true c3
        refine c_rseq ?_
        refine l_v (r_build (l := []) rfl bzr) ?_
        refine l_store_whole (i := 1) hs rfl I25 rfl rfl hzl hzl (rec_one _) ?_
        intro w_ hs
        refine l_v (by first | exact (r_assign (v := iV _) rfl) | exact (r_assign rfl)) ?_
        refine l_v (by first | exact (r_assign (v := iV _) rfl) | exact (r_assign rfl)) ?_
        refine l_nil (nrm_then ?_)
        refine c_ret (ret_then ?_)
        show Fin _ _ _ _ _
        refine fin3c rfl rfl (run_loadVar_agg Try.underlying25 rfl I25 hzl (cells_whole (hs.at_ 1).1)) ?_
        have e : nextR (toL s) = (.zero, 0, 3) := by unfold nextR; rw [if_neg h32', if_neg c2, if_pos c3]
        rw [e]
        exact ⟨rfl, hs.below⟩
      · replace c3 := of_decide_eq_false c3
        refine c_skip (nrm_then ?_)
        refine c_rseq ?_
        refine l_v (by first | exact (r_move (v := iV _) rfl) | exact (r_move rfl)) ?_
        refine l_v (by first | exact (r_move (v := iV _) rfl) | exact (r_move rfl)) ?_
        refine l_v (r_addi rfl rfl (by omega)) ?_
        refine l_v (by first | exact (r_assign (v := iV _) rfl) | exact (r_assign rfl)) ?_
        refine l_nil (nrm_then ?_)
        refine c_seq ?_
        refine c_rseq ?_
        refine l_v (by first | exact (r_move (v := iV _) rfl) | exact (r_move rfl)) ?_
        refine l_v (r_eqli rfl rfl) ?_
        refine l_nil (nrm_then ?_)
        have c3' : ¬ 1 < (count ((toL s).drop 32)).1 := c3
        refine c_cond rfl (fun c4 => ?_) (fun c4 => ?_)
        · replace c4 := of_decide_eq_true c4
          refine c_seq ?_
          refine c_rseq ?_
          refine l_v (by first | exact (r_move (v := sV _) rfl) | exact (r_move rfl)) ?_
          refine l_v (r_len_s Try.underlying9 rfl) ?_
          refine l_v (by first | exact (r_move (v := iV _) rfl) | exact (r_move rfl)) ?_
          refine l_v (r_subi rfl rfl (by omega)) ?_
          refine l_v (r_lssi rfl rfl) ?_
          refine l_nil (nrm_then ?_)
          have hcutl : (((toL s).drop (32 + (count ((toL s).drop 32)).2.1)).length : Int) = (s.size : Int) - (32 + ((count ((toL s).drop 32)).2.1 : Int)) := by rw [List.length_drop]; omega
          refine c_cond rfl (fun c5 => ?_) (fun c5 => ?_)
          · have c5' : ((toL s).drop (32 + (count ((toL s).drop 32)).2.1)).length < 32 := by have h := of_decide_eq_true c5; omega
            replace c5 := of_decide_eq_true c5
            refine c_rseq ?_
            refine l_v (r_build (l := []) rfl bzr) ?_
            refine l_store_whole (i := 1) hs rfl I25 rfl rfl hzl hzl (rec_one _) ?_
            intro w_ hs
            refine l_v (by first | exact (r_assign (v := iV _) rfl) | exact (r_assign rfl)) ?_
            refine l_v (by first | exact (r_assign (v := iV _) rfl) | exact (r_assign rfl)) ?_
            refine l_nil (nrm_then ?_)
            refine c_ret (ret_then (ret_then ?_))
            show Fin _ _ _ _ _
            refine fin3c rfl rfl (run_loadVar_agg Try.underlying25 rfl I25 hzl (cells_whole (hs.at_ 1).1)) ?_
            have e : nextR (toL s) = (.zero, 0, 2) := by unfold nextR; rw [if_neg h32', if_neg c2, if_neg c3', if_pos c4, if_pos c5']
            rw [e]
            exact ⟨rfl, hs.below⟩
          · have c5' : ¬ ((toL s).drop (32 + (count ((toL s).drop 32)).2.1)).length < 32 := by have h := of_decide_eq_false c5; omega
            replace c5 := of_decide_eq_false c5
            refine c_skip (nrm_then ?_)
            refine c_rseq ?_
            refine l_v (by first | exact (r_fieldAddr0 (off := 64) (T := 4) (by kernel_rfl) rfl) | exact (r_fieldAddr (off := 64) (T := 4) (by kernel_rfl) rfl)) ?_
            refine l_store (i := 0) (v := bV true) hs rfl I4 rfl rfl (by rw [hol1]; decide) ?_
            intro w_ hs
            rw [rec_setpatch _ hok1] at hs
            have hokp : ({ ({ Rec.zero with key := keyOf (toL s) } : Rec) with patch := true } : Rec).ok := hok1
            have holp := recC_length hokp
            refine l_nil (nrm_then ?_)
            refine c_rseq ?_
            refine l_v (by first | exact (r_move (v := sV _) rfl) | exact (r_move rfl)) ?_
            refine l_v (by first | exact (r_move (v := iV _) rfl) | exact (r_move rfl)) ?_
            refine l_v (r_slice_sl (32 + ((count ((toL s).drop 32)).2.1 : Int)) Try.underlying9 rfl rfl (by omega)) ?_
            rw [show (32 + ((count ((toL s).drop 32)).2.1 : Int)).toNat = (32 + (count ((toL s).drop 32)).2.1) by omega, extract_cut]
            refine l_call (r_call Try.func58 rfl rfl) ?_
            refine Calls.mono (rkey_c (cut s (32 + (count ((toL s).drop 32)).2.1)) (by rw [← toL_size, toL_cut]; omega) _) ?_
            rintro e w_ ⟨rfl, hb⟩
            refine ⟨_, rfl, ?_⟩
            have hs := hs.below_ hb
            rw [toL_cut]
            have hkl2 : ((keyOf ((toL s).drop (32 + (count ((toL s).drop 32)).2.1))).map u8V).length = 32 := (List.length_map u8V).trans (keyOf_len _)
            refine l_v (by first | exact (r_fieldAddr0 (off := 32) (T := 23) (by kernel_rfl) rfl) | exact (r_fieldAddr (off := 32) (T := 23) (by kernel_rfl) rfl)) ?_
            refine l_store_agg (i := 0) (o := 32) hs rfl I23 rfl rfl hkl2 (by rw [holp]; decide) (one_map (g := u8V) (fun _ => rfl) _) ?_
            intro w_ hs
            have hs : Sep w w_ [blk b5 (recC ({ ({ Rec.zero with key := keyOf (toL s) } : Rec) with patch := true, base := keyOf ((toL s).drop (32 + (count ((toL s).drop 32)).2.1)) } : Rec)) 25, blk b2 (recC .zero) 25] := by
              have e := rec_setbase _ hokp (keyOf ((toL s).drop (32 + (count ((toL s).drop 32)).2.1))) (keyOf_len _)
              rw [← e]; exact hs
            have hok2 : ({ ({ Rec.zero with key := keyOf (toL s) } : Rec) with patch := true, base := keyOf ((toL s).drop (32 + (count ((toL s).drop 32)).2.1)) } : Rec).ok := ⟨keyOf_len _, keyOf_len _⟩
            rw [List.length_drop] at c5'
            refine l_nil (nrm_then ?_)
            refine c_region ?_
            refine l_v (by first | exact (r_move (v := iV _) rfl) | exact (r_move rfl)) ?_
            refine l_v (r_addi rfl rfl (by omega)) ?_
            refine l_v (by first | exact (r_assign (v := iV _) rfl) | exact (r_assign rfl)) ?_
            refine l_nil (nrm_then ?_)
            refine c_rseq ?_
            refine l_v (by first | exact (r_move (v := sV _) rfl) | exact (r_move rfl)) ?_
            refine l_v (by first | exact (r_move (v := iV _) rfl) | exact (r_move rfl)) ?_
            refine l_v (r_slice_sl (32 + ((count ((toL s).drop 32)).2.1 : Int) + 32) Try.underlying9 rfl rfl (by omega)) ?_
            rw [show (32 + ((count ((toL s).drop 32)).2.1 : Int) + 32 : Int).toNat = ((32 + (count ((toL s).drop 32)).2.1) + 32) by omega, extract_cut]
            refine l_call (r_call Try.func60 rfl rfl) ?_
            refine Calls.mono (readtext_c (cut s ((32 + (count ((toL s).drop 32)).2.1) + 32)) (Nat.le_trans (cut_size s _) (by omega)) _) ?_
            rintro e w_ ⟨rfl, rfl⟩
            refine ⟨_, rfl, ?_⟩
            rw [toL_cut]
            have htsz := text_size ((toL s).drop ((32 + (count ((toL s).drop 32)).2.1) + 32))
            rw [List.length_drop] at htsz
            have hol2 := recC_length hok2
            have hone2 := rec_one ({ ({ Rec.zero with key := keyOf (toL s) } : Rec) with patch := true, base := keyOf ((toL s).drop (32 + (count ((toL s).drop 32)).2.1)) } : Rec)
            refine l_v (r_move rfl) ?_
            refine l_v (r_extract rfl rfl) ?_
            refine l_v (r_extract rfl rfl) ?_
            refine l_v (r_extract rfl rfl) ?_
            refine l_v (by first | exact (r_assign (v := sV _) rfl) | exact (r_assign rfl)) ?_
            refine l_v (by first | exact (r_assign (v := iV _) rfl) | exact (r_assign rfl)) ?_
            refine l_v (by first | exact (r_assign (v := iV _) rfl) | exact (r_assign rfl)) ?_
            refine l_nil (nrm_then ?_)
            refine c_seq ?_
            refine c_rseq ?_
            refine l_v (by first | exact (r_move (v := iV _) rfl) | exact (r_move rfl)) ?_
            refine l_v (r_neqi rfl rfl) ?_
            refine l_nil (nrm_then ?_)
            refine c_cond rfl (fun c6 => ?_) (fun c6 => ?_)
            · replace c6 := of_decide_eq_true c6
              refine c_rseq ?_
              refine l_v (r_build (l := []) rfl bzr) ?_
              refine l_v (by first | exact (r_move (v := iV _) rfl) | exact (r_move rfl)) ?_
              refine l_store_whole (i := 1) hs rfl I25 rfl rfl hzl hzl (rec_one _) ?_
              intro w_ hs
              refine l_v (by first | exact (r_assign (v := iV _) rfl) | exact (r_assign rfl)) ?_
              refine l_v (by first | exact (r_assign (v := iV _) rfl) | exact (r_assign rfl)) ?_
              refine l_nil (nrm_then ?_)
              refine c_ret (ret_then ?_)
              show Fin _ _ _ _ _
              refine fin3c rfl rfl (run_loadVar_agg Try.underlying25 rfl I25 hzl (cells_whole (hs.at_ 1).1)) ?_
              have e : nextR (toL s) = (.zero, 0, (text ((toL s).drop ((32 + (count ((toL s).drop 32)).2.1) + 32))).2.2) := by
                unfold nextR
                rw [if_neg h32', if_neg c2, if_neg c3', if_pos c4, if_neg (by rw [List.length_drop]; exact c5')]
                rw [if_pos c6]
              rw [e]
              exact ⟨rfl, hs.below⟩
            · replace c6 := of_decide_eq_false c6
              refine c_skip (nrm_then ?_)
              refine c_seq ?_
              refine c_rseq ?_
              refine l_v (by first | exact (r_move (v := sV _) rfl) | exact (r_move rfl)) ?_
              refine l_v (r_len_s Try.underlying9 rfl) ?_
              refine l_v (r_gtri rfl rfl) ?_
              refine l_nil (nrm_then ?_)
              refine c_cond rfl (fun c7 => ?_) (fun c7 => ?_)
              · have c7' : 8192 < (text ((toL s).drop ((32 + (count ((toL s).drop 32)).2.1) + 32))).1.length := by have h : (((text ((toL s).drop ((32 + (count ((toL s).drop 32)).2.1) + 32))).1.length : Nat) : Int) > 8192 := of_decide_eq_true c7; omega
                replace c7 := of_decide_eq_true c7
                refine c_rseq ?_
                refine l_v (r_build (l := []) rfl bzr) ?_
                refine l_store_whole (i := 1) hs rfl I25 rfl rfl hzl hzl (rec_one _) ?_
                intro w_ hs
                refine l_v (by first | exact (r_assign (v := iV _) rfl) | exact (r_assign rfl)) ?_
                refine l_v (by first | exact (r_assign (v := iV _) rfl) | exact (r_assign rfl)) ?_
                refine l_nil (nrm_then ?_)
                refine c_ret (ret_then ?_)
                show Fin _ _ _ _ _
                refine fin3c rfl rfl (run_loadVar_agg Try.underlying25 rfl I25 hzl (cells_whole (hs.at_ 1).1)) ?_
                have e : nextR (toL s) = (.zero, 0, 6) := by
                  unfold nextR
                  rw [if_neg h32', if_neg c2, if_neg c3', if_pos c4, if_neg (by rw [List.length_drop]; exact c5')]
                  rw [if_neg c6, if_pos c7']
                rw [e]
                exact ⟨rfl, hs.below⟩
              · have c7' : ¬ 8192 < (text ((toL s).drop ((32 + (count ((toL s).drop 32)).2.1) + 32))).1.length := by have h : ¬ (((text ((toL s).drop ((32 + (count ((toL s).drop 32)).2.1) + 32))).1.length : Nat) : Int) > 8192 := of_decide_eq_false c7; omega
                replace c7 := of_decide_eq_false c7
                refine c_skip (nrm_then ?_)
                refine c_rseq ?_
                refine l_v (by first | exact (r_move (v := sV _) rfl) | exact (r_move rfl)) ?_
                refine l_v (by first | exact (r_fieldAddr0 (off := 65) (T := 9) (by kernel_rfl) rfl) | exact (r_fieldAddr (off := 65) (T := 9) (by kernel_rfl) rfl)) ?_
                refine l_store (i := 0) (v := sV _) hs rfl I9 rfl rfl (by rw [hol2]; decide) ?_
                intro w_ hs
                rw [rec_setbody _ hok2] at hs
                have hok3 : ({ ({ ({ Rec.zero with key := keyOf (toL s) } : Rec) with patch := true, base := keyOf ((toL s).drop (32 + (count ((toL s).drop 32)).2.1)) } : Rec) with body := toL (ofL (text ((toL s).drop ((32 + (count ((toL s).drop 32)).2.1) + 32))).1) } : Rec).ok := hok2
                have hol3 := recC_length hok3
                refine l_nil (nrm_then ?_)
                refine c_rseq ?_
                refine l_v (r_load_whole (i := 0) hs rfl Try.underlying25 I25 rfl hol3) ?_
                refine l_v (by first | exact (r_move (v := iV _) rfl) | exact (r_move rfl)) ?_
                refine l_v (by first | exact (r_move (v := iV _) rfl) | exact (r_move rfl)) ?_
                refine l_v (r_addi rfl rfl (by omega)) ?_
                refine l_store_whole (i := 1) hs rfl I25 rfl rfl hol3 hzl (rec_one _) ?_
                intro w_ hs
                refine l_v (by first | exact (r_assign (v := iV _) rfl) | exact (r_assign rfl)) ?_
                refine l_v (by first | exact (r_assign (v := iV _) rfl) | exact (r_assign rfl)) ?_
                refine l_nil (nrm_then ?_)
                refine c_ret ?_
                show Fin _ _ _ _ _
                refine fin3c rfl rfl (run_loadVar_agg Try.underlying25 rfl I25 hol3 (cells_whole (hs.at_ 1).1)) ?_
                have e : nextR (toL s) = ({ ({ ({ Rec.zero with key := keyOf (toL s) } : Rec) with patch := true, base := keyOf ((toL s).drop (32 + (count ((toL s).drop 32)).2.1)) } : Rec) with body := (text ((toL s).drop ((32 + (count ((toL s).drop 32)).2.1) + 32))).1 }, ((32 + (count ((toL s).drop 32)).2.1) + 32) + (text ((toL s).drop ((32 + (count ((toL s).drop 32)).2.1) + 32))).2.1, 0) := by
                  unfold nextR
                  rw [if_neg h32', if_neg c2, if_neg c3', if_pos c4, if_neg (by rw [List.length_drop]; exact c5')]
                  rw [if_neg c6, if_neg c7']
                  unfold keyOf; rw [if_neg h32', if_neg (by rw [List.length_drop]; exact c5')]
                rw [e]
                exact ⟨congrArg (fun z => Ending.returned (Value.tuple #[rV { ({ ({ Rec.zero with key := keyOf (toL s) } : Rec) with patch := true, base := keyOf ((toL s).drop (32 + (count ((toL s).drop 32)).2.1)) } : Rec) with body := (text ((toL s).drop ((32 + (count ((toL s).drop 32)).2.1) + 32))).1 }, iV z, iV 0])) (by dsimp only; omega), hs.below⟩
        · replace c4 := of_decide_eq_false c4
          refine c_skip (nrm_then ?_)
          refine c_rseq ?_
          refine l_v (by first | exact (r_move (v := sV _) rfl) | exact (r_move rfl)) ?_
          refine l_v (by first | exact (r_move (v := iV _) rfl) | exact (r_move rfl)) ?_
          refine l_v (r_slice_sl (32 + ((count ((toL s).drop 32)).2.1 : Int)) Try.underlying9 rfl rfl (by omega)) ?_
          rw [show (32 + ((count ((toL s).drop 32)).2.1 : Int) : Int).toNat = (32 + (count ((toL s).drop 32)).2.1) by omega, extract_cut]
          refine l_call (r_call Try.func60 rfl rfl) ?_
          refine Calls.mono (readtext_c (cut s (32 + (count ((toL s).drop 32)).2.1)) (Nat.le_trans (cut_size s _) (by omega)) _) ?_
          rintro e w_ ⟨rfl, rfl⟩
          refine ⟨_, rfl, ?_⟩
          rw [toL_cut]
          have htsz := text_size ((toL s).drop (32 + (count ((toL s).drop 32)).2.1))
          rw [List.length_drop] at htsz
          have hol2 := recC_length hok1
          have hone2 := rec_one ({ Rec.zero with key := keyOf (toL s) } : Rec)
          refine l_v (r_move rfl) ?_
          refine l_v (r_extract rfl rfl) ?_
          refine l_v (r_extract rfl rfl) ?_
          refine l_v (r_extract rfl rfl) ?_
          refine l_v (by first | exact (r_assign (v := sV _) rfl) | exact (r_assign rfl)) ?_
          refine l_v (by first | exact (r_assign (v := iV _) rfl) | exact (r_assign rfl)) ?_
          refine l_v (by first | exact (r_assign (v := iV _) rfl) | exact (r_assign rfl)) ?_
          refine l_nil (nrm_then ?_)
          refine c_seq ?_
          refine c_rseq ?_
          refine l_v (by first | exact (r_move (v := iV _) rfl) | exact (r_move rfl)) ?_
          refine l_v (r_neqi rfl rfl) ?_
          refine l_nil (nrm_then ?_)
          refine c_cond rfl (fun c6 => ?_) (fun c6 => ?_)
          · replace c6 := of_decide_eq_true c6
            refine c_rseq ?_
            refine l_v (r_build (l := []) rfl bzr) ?_
            refine l_v (by first | exact (r_move (v := iV _) rfl) | exact (r_move rfl)) ?_
            refine l_store_whole (i := 1) hs rfl I25 rfl rfl hzl hzl (rec_one _) ?_
            intro w_ hs
            refine l_v (by first | exact (r_assign (v := iV _) rfl) | exact (r_assign rfl)) ?_
            refine l_v (by first | exact (r_assign (v := iV _) rfl) | exact (r_assign rfl)) ?_
            refine l_nil (nrm_then ?_)
            refine c_ret (ret_then ?_)
            show Fin _ _ _ _ _
            refine fin3c rfl rfl (run_loadVar_agg Try.underlying25 rfl I25 hzl (cells_whole (hs.at_ 1).1)) ?_
            have e : nextR (toL s) = (.zero, 0, (text ((toL s).drop (32 + (count ((toL s).drop 32)).2.1))).2.2) := by
              unfold nextR
              rw [if_neg h32', if_neg c2, if_neg c3', if_neg c4]
              rw [if_pos c6]
            rw [e]
            exact ⟨rfl, hs.below⟩
          · replace c6 := of_decide_eq_false c6
            refine c_skip (nrm_then ?_)
            refine c_seq ?_
            refine c_rseq ?_
            refine l_v (by first | exact (r_move (v := sV _) rfl) | exact (r_move rfl)) ?_
            refine l_v (r_len_s Try.underlying9 rfl) ?_
            refine l_v (r_gtri rfl rfl) ?_
            refine l_nil (nrm_then ?_)
            refine c_cond rfl (fun c7 => ?_) (fun c7 => ?_)
            · have c7' : 8192 < (text ((toL s).drop (32 + (count ((toL s).drop 32)).2.1))).1.length := by have h : (((text ((toL s).drop (32 + (count ((toL s).drop 32)).2.1))).1.length : Nat) : Int) > 8192 := of_decide_eq_true c7; omega
              replace c7 := of_decide_eq_true c7
              refine c_rseq ?_
              refine l_v (r_build (l := []) rfl bzr) ?_
              refine l_store_whole (i := 1) hs rfl I25 rfl rfl hzl hzl (rec_one _) ?_
              intro w_ hs
              refine l_v (by first | exact (r_assign (v := iV _) rfl) | exact (r_assign rfl)) ?_
              refine l_v (by first | exact (r_assign (v := iV _) rfl) | exact (r_assign rfl)) ?_
              refine l_nil (nrm_then ?_)
              refine c_ret (ret_then ?_)
              show Fin _ _ _ _ _
              refine fin3c rfl rfl (run_loadVar_agg Try.underlying25 rfl I25 hzl (cells_whole (hs.at_ 1).1)) ?_
              have e : nextR (toL s) = (.zero, 0, 6) := by
                unfold nextR
                rw [if_neg h32', if_neg c2, if_neg c3', if_neg c4]
                rw [if_neg c6, if_pos c7']
              rw [e]
              exact ⟨rfl, hs.below⟩
            · have c7' : ¬ 8192 < (text ((toL s).drop (32 + (count ((toL s).drop 32)).2.1))).1.length := by have h : ¬ (((text ((toL s).drop (32 + (count ((toL s).drop 32)).2.1))).1.length : Nat) : Int) > 8192 := of_decide_eq_false c7; omega
              replace c7 := of_decide_eq_false c7
              refine c_skip (nrm_then ?_)
              refine c_rseq ?_
              refine l_v (by first | exact (r_move (v := sV _) rfl) | exact (r_move rfl)) ?_
              refine l_v (by first | exact (r_fieldAddr0 (off := 65) (T := 9) (by kernel_rfl) rfl) | exact (r_fieldAddr (off := 65) (T := 9) (by kernel_rfl) rfl)) ?_
              refine l_store (i := 0) (v := sV _) hs rfl I9 rfl rfl (by rw [hol2]; decide) ?_
              intro w_ hs
              rw [rec_setbody _ hok1] at hs
              have hok3 : ({ ({ Rec.zero with key := keyOf (toL s) } : Rec) with body := toL (ofL (text ((toL s).drop (32 + (count ((toL s).drop 32)).2.1))).1) } : Rec).ok := hok1
              have hol3 := recC_length hok3
              refine l_nil (nrm_then ?_)
              refine c_rseq ?_
              refine l_v (r_load_whole (i := 0) hs rfl Try.underlying25 I25 rfl hol3) ?_
              refine l_v (by first | exact (r_move (v := iV _) rfl) | exact (r_move rfl)) ?_
              refine l_v (by first | exact (r_move (v := iV _) rfl) | exact (r_move rfl)) ?_
              refine l_v (r_addi rfl rfl (by omega)) ?_
              refine l_store_whole (i := 1) hs rfl I25 rfl rfl hol3 hzl (rec_one _) ?_
              intro w_ hs
              refine l_v (by first | exact (r_assign (v := iV _) rfl) | exact (r_assign rfl)) ?_
              refine l_v (by first | exact (r_assign (v := iV _) rfl) | exact (r_assign rfl)) ?_
              refine l_nil (nrm_then ?_)
              refine c_ret ?_
              show Fin _ _ _ _ _
              refine fin3c rfl rfl (run_loadVar_agg Try.underlying25 rfl I25 hol3 (cells_whole (hs.at_ 1).1)) ?_
              have e : nextR (toL s) = ({ ({ Rec.zero with key := keyOf (toL s) } : Rec) with body := (text ((toL s).drop (32 + (count ((toL s).drop 32)).2.1))).1 }, (32 + (count ((toL s).drop 32)).2.1) + (text ((toL s).drop (32 + (count ((toL s).drop 32)).2.1))).2.1, 0) := by
                unfold nextR
                rw [if_neg h32', if_neg c2, if_neg c3', if_neg c4]
                rw [if_neg c6, if_neg c7']
                unfold keyOf; rw [if_neg h32']; try rfl
              rw [e]
              exact ⟨congrArg (fun z => Ending.returned (Value.tuple #[rV { ({ Rec.zero with key := keyOf (toL s) } : Rec) with body := (text ((toL s).drop (32 + (count ((toL s).drop 32)).2.1))).1 }, iV z, iV 0])) (by dsimp only; omega), hs.below⟩
end Go.Proofs.Ytiipibmliffghaa.Box
