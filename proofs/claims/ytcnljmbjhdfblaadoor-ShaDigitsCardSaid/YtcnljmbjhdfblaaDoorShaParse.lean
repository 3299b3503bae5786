/- The walks of Parse, of the document's Parse and Hex, and of the law ShaDigits. -/
import Derived.Test.YtcnljmbjhdfblaaDoorShaDig
import Derived.Test.YtcnljmbjhdfblaaDoorMore
namespace Go.Proofs.YtcnljmbjhdfblaaDoor.Sha
open Go Go.RowKit Go.Proofs.YtcnljmbjhdfblaaDoor.Eng
set_option linter.unusedVariables false
set_option maxRecDepth 100000
theorem hexDigs : (ofL digs).size = 16 := rfl
theorem cut1 (c : UInt8) (h : c.toNat < 16) : (ofL digs).extract c.toNat (c + 1).toNat = ofL [digs.getD c.toNat 0] := by
  have := u8_all (p := fun c => decide (c.toNat < 16 → (ofL digs).extract c.toNat (c + 1).toNat = ofL [digs.getD c.toNat 0])) (by decide +kernel) c
  exact of_decide_eq_true this h
theorem succ16 (c : UInt8) (h : c.toNat < 16) : c.toNat ≤ (c + 1).toNat ∧ (c + 1).toNat ≤ 16 := by
  rw [UInt8.toNat_add]; show c.toNat ≤ (c.toNat + 1) % 256 ∧ (c.toNat + 1) % 256 ≤ 16; omega
set_option maxHeartbeats 2000000 in
theorem refhex_c (k : List UInt8) (hk : k.length = 32) (w : World) :
    Calls Tryd.prog 17 #[kV k] w fun e w' => e = .returned (sV (ofL (hexOf k))) ∧ Below w.heap.size w w' := by
  have hk32 : (k.map u8V).length = 32 := (List.length_map u8V).trans hk
  refine enter (P := Tryd.prog) Tryd.func17 rfl rfl ?_
  have hs := Sep.init w
  refine c_rseq ?_
  refine l_box hs rfl ?_
  intro b1 w1 hs hB1 hlt1
  refine l_v (by first | exact (r_assign (v := sV _) rfl) | exact (r_assign rfl)) ?_
  refine l_nil (nrm_then ?_)
  refine c_rseq ?_
  refine l_v (by first | exact (r_assign (v := sV _) rfl) | exact (r_assign rfl)) ?_
  refine l_nil (nrm_then ?_)
  refine c_seq ?_
  refine c_rseq ?_
  refine l_v (by first | exact (r_assign (v := iV _) rfl) | exact (r_assign rfl)) ?_
  refine l_nil (nrm_then ?_)
  refine c_block ?_
  refine c_loopn [1, 2] (fun m f' w' => ∃ i, i + m = 32 ∧ f' 4 = iV (i : Int) ∧ f' 3 = sV (ofL (hexOf (k.take i))) ∧ Sep w w' [blk b1 (k.map u8V) 25]) ?_ ?_
  · exact ⟨32, 0, rfl, rfl, rfl, hs⟩
  · rintro m g w_ ⟨i, hi, h4, h3, hs⟩
    refine OkC.env ?_ (fixH (L := [(4, _), (3, _)]) ⟨h4, h3, trivial⟩)
    clear h4 h3
    refine c_seq ?_
    refine c_rseq ?_
    refine l_v (by first | exact (r_move (v := iV _) rfl) | exact (r_move rfl)) ?_
    refine l_v (r_lssi rfl rfl) ?_
    refine l_nil (nrm_then ?_)
    refine c_cond rfl (fun h => ?_) (fun h => ?_)
    · have hi32 : i < 32 := by have := of_decide_eq_true h; omega
      have hv := r_getD k i (by omega)
      have hn := hex_next k i (by omega)
      have hl := hex_len (k.take i)
      have hkl : (k.take i).length ≤ 32 := by rw [List.length_take]; omega
      have hz : (ofL (hexOf (k.take i))).size ≤ 64 := by show (hexOf (k.take i)).length ≤ 64; omega
      generalize hexOf (k.take i) = H at *
      generalize k.getD i 0 = c at *
      have x4 := (hi4 c).2
      have y4 := (lo4 c).2
      have e1 := cut1 _ x4
      have e2 := cut1 _ y4
      have s1 : (ofL H).size + ((ofL digs).extract (c / 16).toNat (c / 16 + 1).toNat).size ≤ 9223372036854775807 := by rw [e1]; show (ofL H).size + 1 ≤ _; omega
      have s2 : (ofL H ++ (ofL digs).extract (c / 16).toNat (c / 16 + 1).toNat).size + ((ofL digs).extract (c % 16).toNat (c % 16 + 1).toNat).size ≤ 9223372036854775807 := by rw [e1, e2, ByteArray.size_append]; show (ofL H).size + 1 + 1 ≤ _; omega
      replace h := of_decide_eq_true h
      refine c_skip (nrm_then ?_)
      refine c_seq ?_
      refine c_block ?_
      refine c_float [] 22 (by kernel_rfl) (by kernel_rfl) ?_
      intro hbF
      show OkF _ _ _ _ _ _ (_ :: _) 0 _ _
      refine f_v (fun wl hbl => by have hs := hs.below_ hbl; first | exact (r_move (v := sV _) rfl) | exact (r_move rfl)) ?_
      refine f_v (fun wl hbl => by have hs := hs.below_ hbl; first | exact (r_move (v := iV _) rfl) | exact (r_move rfl)) ?_
      refine f_v (fun wl hbl => by have hs := hs.below_ hbl; first | exact (r_indexAddr_a0 Tryd.underlying25 I5 rfl rfl (by omega)) | exact (r_indexAddr_a Tryd.underlying25 I5 rfl rfl (by omega))) ?_
      refine f_v (fun wl hbl => by have hs := hs.below_ hbl; exact (r_load_at (i := 0) hs rfl Tryd.underlying5 rfl hv)) ?_
      refine f_v (fun wl hbl => by have hs := hs.below_ hbl; exact (r_quo8 (b := 16) rfl rfl (by first | decide | omega))) ?_
      refine f_v (fun wl hbl => by have hs := hs.below_ hbl; first | exact (r_move (v := iV _) rfl) | exact (r_move rfl)) ?_
      refine f_v (fun wl hbl => by have hs := hs.below_ hbl; first | exact (r_indexAddr_a0 Tryd.underlying25 I5 rfl rfl (by omega)) | exact (r_indexAddr_a Tryd.underlying25 I5 rfl rfl (by omega))) ?_
      refine f_v (fun wl hbl => by have hs := hs.below_ hbl; exact (r_load_at (i := 0) hs rfl Tryd.underlying5 rfl hv)) ?_
      refine f_v (fun wl hbl => by have hs := hs.below_ hbl; exact (r_quo8 (b := 16) rfl rfl (by first | decide | omega))) ?_
      refine f_v (fun wl hbl => by have hs := hs.below_ hbl; exact (r_add8 (b := 1) rfl rfl)) ?_
      refine f_v (fun wl hbl => by have hs := hs.below_ hbl; exact (r_slice_s8 (s := ofL digs) (c / 16) (c / 16 + 1) Tryd.underlying9 rfl rfl rfl (by have := succ16 _ x4; rw [hexDigs]; exact this))) ?_
      refine f_v (fun wl hbl => by have hs := hs.below_ hbl; exact (r_adds rfl rfl s1)) ?_
      refine f_v (fun wl hbl => by have hs := hs.below_ hbl; first | exact (r_move (v := iV _) rfl) | exact (r_move rfl)) ?_
      refine f_v (fun wl hbl => by have hs := hs.below_ hbl; first | exact (r_indexAddr_a0 Tryd.underlying25 I5 rfl rfl (by omega)) | exact (r_indexAddr_a Tryd.underlying25 I5 rfl rfl (by omega))) ?_
      refine f_v (fun wl hbl => by have hs := hs.below_ hbl; exact (r_load_at (i := 0) hs rfl Tryd.underlying5 rfl hv)) ?_
      refine f_v (fun wl hbl => by have hs := hs.below_ hbl; exact (r_rem8 (b := 16) rfl rfl (by first | decide | omega))) ?_
      refine f_v (fun wl hbl => by have hs := hs.below_ hbl; first | exact (r_move (v := iV _) rfl) | exact (r_move rfl)) ?_
      refine f_v (fun wl hbl => by have hs := hs.below_ hbl; first | exact (r_indexAddr_a0 Tryd.underlying25 I5 rfl rfl (by omega)) | exact (r_indexAddr_a Tryd.underlying25 I5 rfl rfl (by omega))) ?_
      refine f_v (fun wl hbl => by have hs := hs.below_ hbl; exact (r_load_at (i := 0) hs rfl Tryd.underlying5 rfl hv)) ?_
      refine f_v (fun wl hbl => by have hs := hs.below_ hbl; exact (r_rem8 (b := 16) rfl rfl (by first | decide | omega))) ?_
      refine f_v (fun wl hbl => by have hs := hs.below_ hbl; exact (r_add8 (b := 1) rfl rfl)) ?_
      refine f_v (fun wl hbl => by have hs := hs.below_ hbl; exact (r_slice_s8 (s := ofL digs) (c % 16) (c % 16 + 1) Tryd.underlying9 rfl rfl rfl (by have := succ16 _ y4; rw [hexDigs]; exact this))) ?_
      refine f_nil ?_
      have hs := hs.below_ hbF
      show OkL _ _ _ _ (_ :: _) _ _
      refine l_v (r_adds rfl rfl s2) ?_
      refine l_v (by first | exact (r_assign (v := sV _) rfl) | exact (r_assign rfl)) ?_
      refine l_nil (nrm_block (nrm_then ?_))
      refine c_region ?_
      refine l_v (by first | exact (r_move (v := iV _) rfl) | exact (r_move rfl)) ?_
      refine l_v (r_addi rfl rfl (by omega)) ?_
      refine l_v (by first | exact (r_assign (v := iV _) rfl) | exact (r_assign rfl)) ?_
      refine l_nil (nrm_then ?_)
      refine And.intro (by refine ⟨?_, ?_, trivial⟩ <;> ((conv => lhs; whnf); (try conv => rhs; whnf))) ?_
      refine ⟨31 - i, by omega, i + 1, by omega, rfl, ?_, hs⟩
      show sV _ = sV _
      rw [hn, e1, e2]
      refine congrArg Value.string (toL_inj ?_)
      simp [toL_ofL]
    · replace h := of_decide_eq_false h
      refine c_exit (ex_then (ex_then (ex_hit (nrm_then ?_))))
      refine c_rseq ?_
      refine l_v (by first | exact (r_move (v := sV _) rfl) | exact (r_move rfl)) ?_
      refine l_v (by first | exact (r_assign (v := sV _) rfl) | exact (r_assign rfl)) ?_
      refine l_nil (nrm_then ?_)
      obtain rfl : i = 32 := by omega
      rw [List.take_of_length_le (by omega)]
      refine c_ret ?_
      show Fin _ _ _ _ _
      refine fin1 rfl ?_
      exact ⟨rfl, hs.below⟩
set_option maxHeartbeats 2000000 in
theorem refparse_c (s : ByteArray) (hz : s.size ≤ 9223372036854775807) (w : World) :
    Calls Tryd.prog 15 #[sV s] w fun e w' => e = .returned (.tuple #[kV (parsed (toL s)).1, bV (parsed (toL s)).2]) ∧ Below w.heap.size w w' := by
  have hl := toL_size s
  have h32 : ((List.replicate 32 (0 : UInt8)).map u8V).length = 32 := by rw [List.length_map, List.length_replicate]
  refine enter (P := Tryd.prog) Tryd.func15 rfl rfl ?_
  have hs := Sep.init w
  refine c_rseq ?_
  refine l_alloc hs I25 ?_
  intro b2 w2 hs hB2 hlt2
  refine l_v (by first | exact (r_assign (v := bV _) rfl) | exact (r_assign rfl)) ?_
  refine l_nil (nrm_then ?_)
  refine c_rseq ?_
  refine l_alloc hs I25 ?_
  intro b4 w4 hs hB4 hlt4
  refine l_nil (nrm_then ?_)
  refine c_seq ?_
  refine c_rseq ?_
  refine l_v (by first | exact (r_move (v := sV _) rfl) | exact (r_move rfl)) ?_
  refine l_v (r_len_s Tryd.underlying9 rfl) ?_
  refine l_v (r_neqi rfl rfl) ?_
  refine l_nil (nrm_then ?_)
  have hs : Sep w _ [blk b4 ((List.replicate 32 (0 : UInt8)).map u8V) 25, blk b2 ((List.replicate 32 (0 : UInt8)).map u8V) 25] := hs
  refine c_cond rfl (fun h => ?_) (fun h => ?_)
  · replace h := of_decide_eq_true h
    refine c_rseq ?_
    refine l_v (by first | exact (r_load_whole (i := 0) hs rfl Tryd.underlying25 I25 rfl (by first | assumption | (simp; done))) | exact (r_load_whole (i := 1) hs rfl Tryd.underlying25 I25 rfl (by first | assumption | (simp; done))) | exact (r_load_whole (i := 2) hs rfl Tryd.underlying25 I25 rfl (by first | assumption | (simp; done))) | exact (r_load_whole (i := 3) hs rfl Tryd.underlying25 I25 rfl (by first | assumption | (simp; done))) | exact (r_load_whole (i := 4) hs rfl Tryd.underlying25 I25 rfl (by first | assumption | (simp; done))) | exact (r_load_whole (i := 5) hs rfl Tryd.underlying25 I25 rfl (by first | assumption | (simp; done))) | exact (r_load_whole (i := 6) hs rfl Tryd.underlying25 I25 rfl (by first | assumption | (simp; done)))) ?_
    first | refine l_store_whole (i := 0) hs rfl I25 rfl rfl (by first | assumption | (simp; done)) (by first | assumption | (simp; done)) (by simp [Value.oneCell']) ?_ | refine l_store_whole (i := 1) hs rfl I25 rfl rfl (by first | assumption | (simp; done)) (by first | assumption | (simp; done)) (by simp [Value.oneCell']) ?_ | refine l_store_whole (i := 2) hs rfl I25 rfl rfl (by first | assumption | (simp; done)) (by first | assumption | (simp; done)) (by simp [Value.oneCell']) ?_ | refine l_store_whole (i := 3) hs rfl I25 rfl rfl (by first | assumption | (simp; done)) (by first | assumption | (simp; done)) (by simp [Value.oneCell']) ?_ | refine l_store_whole (i := 4) hs rfl I25 rfl rfl (by first | assumption | (simp; done)) (by first | assumption | (simp; done)) (by simp [Value.oneCell']) ?_ | refine l_store_whole (i := 5) hs rfl I25 rfl rfl (by first | assumption | (simp; done)) (by first | assumption | (simp; done)) (by simp [Value.oneCell']) ?_ | refine l_store_whole (i := 6) hs rfl I25 rfl rfl (by first | assumption | (simp; done)) (by first | assumption | (simp; done)) (by simp [Value.oneCell']) ?_
    intro w_ hs
    refine l_v (by first | exact (r_assign (v := bV _) rfl) | exact (r_assign rfl)) ?_
    refine l_nil (nrm_then ?_)
    refine c_ret (ret_then ?_)
    show Fin _ _ _ _ _
    refine fin2c rfl rfl (run_loadVar_agg Tryd.underlying25 rfl I25 h32 (cells_whole (hs.at_ 1).1)) ?_
    have e := parsed_len (l := toL s) (by rw [hl]; omega)
    rw [e]
    exact ⟨rfl, hs.below⟩
  · replace h := of_decide_eq_false h
    refine c_skip (nrm_then ?_)
    refine c_seq ?_
    refine c_rseq ?_
    refine l_v (by first | exact (r_assign (v := iV _) rfl) | exact (r_assign rfl)) ?_
    refine l_nil (nrm_then ?_)
    refine c_block ?_
    have hs64 : s.size = 64 := by omega
    refine c_loopn [0, 2, 4] (fun m f' w' => ∃ i, i + m = 64 ∧ f' 5 = iV (i : Int) ∧ (∀ j, j < i → d4 (toL s) j ≠ 16) ∧ Sep w w' [blk b4 ((pk (toL s) i).map u8V) 25, blk b2 ((List.replicate 32 (0 : UInt8)).map u8V) 25]) ?_ ?_
    · exact ⟨64, 0, rfl, rfl, fun j hj => by omega, by rw [pk_zero]; exact hs⟩
    · rintro m g w_ ⟨i, hi, h5, hg, hs⟩
      refine OkC.env ?_ (fixH (L := [(5, _)]) ⟨h5, trivial⟩)
      clear h5
      refine c_seq ?_
      refine c_rseq ?_
      refine l_v (by first | exact (r_move (v := iV _) rfl) | exact (r_move rfl)) ?_
      refine l_v (r_lssi rfl rfl) ?_
      refine l_nil (nrm_then ?_)
      refine c_cond rfl (fun h2 => ?_) (fun h2 => ?_)
      · replace h2 := of_decide_eq_true h2
        refine c_skip (nrm_then ?_)
        refine c_seq ?_
        refine c_block ?_
        refine c_rseq ?_
        refine l_v (by first | exact (r_move (v := sV _) rfl) | exact (r_move rfl)) ?_
        refine l_v (by first | exact (r_move (v := iV _) rfl) | exact (r_move rfl)) ?_
        refine l_v (by first | exact (r_index_s Tryd.underlying9 rfl rfl (by omega)) | exact (r_index_si Tryd.underlying9 rfl rfl (by omega))) ?_
        refine l_call (r_call Tryd.func23 rfl rfl) ?_
        refine Calls.mono (digit_c (at8 s i) _) ?_
        rintro e w_ ⟨⟨r, rfl, hr⟩, rfl⟩
        refine ⟨_, rfl, ?_⟩
        rw [isDig_digF hr]
        refine l_v (by first | exact (r_assign (v := u8V _) rfl) | exact (r_assign rfl)) ?_
        refine l_nil (nrm_then ?_)
        refine c_seq ?_
        refine c_rseq ?_
        refine l_v (by first | exact (r_move (v := u8V _) rfl) | exact (r_move rfl)) ?_
        refine l_v (r_eql8 (b := 16) rfl rfl) ?_
        refine l_nil (nrm_then ?_)
        refine c_cond rfl (fun h3 => ?_) (fun h3 => ?_)
        · replace h3 := of_decide_eq_true h3
          refine c_rseq ?_
          refine l_v (r_build0 Tryd.underlying25 I25 I5) ?_
          first | refine l_store_whole (i := 0) hs rfl I25 rfl rfl (by first | assumption | (simp; done)) (by first | assumption | (simp; done)) (by simp [Value.oneCell']) ?_ | refine l_store_whole (i := 1) hs rfl I25 rfl rfl (by first | assumption | (simp; done)) (by first | assumption | (simp; done)) (by simp [Value.oneCell']) ?_ | refine l_store_whole (i := 2) hs rfl I25 rfl rfl (by first | assumption | (simp; done)) (by first | assumption | (simp; done)) (by simp [Value.oneCell']) ?_ | refine l_store_whole (i := 3) hs rfl I25 rfl rfl (by first | assumption | (simp; done)) (by first | assumption | (simp; done)) (by simp [Value.oneCell']) ?_ | refine l_store_whole (i := 4) hs rfl I25 rfl rfl (by first | assumption | (simp; done)) (by first | assumption | (simp; done)) (by simp [Value.oneCell']) ?_ | refine l_store_whole (i := 5) hs rfl I25 rfl rfl (by first | assumption | (simp; done)) (by first | assumption | (simp; done)) (by simp [Value.oneCell']) ?_ | refine l_store_whole (i := 6) hs rfl I25 rfl rfl (by first | assumption | (simp; done)) (by first | assumption | (simp; done)) (by simp [Value.oneCell']) ?_
          intro w_ hs
          refine l_v (by first | exact (r_assign (v := bV _) rfl) | exact (r_assign rfl)) ?_
          refine l_nil (nrm_then ?_)
          refine c_ret (ret_then (ret_block (ret_then (ret_then (ret_block (ret_then ?_))))))
          show Fin _ _ _ _ _
          refine fin2c rfl rfl (run_loadVar_agg Tryd.underlying25 rfl I25 h32 (cells_whole (hs.at_ 1).1)) ?_
          rw [parsed_no (l := toL s) (i := i) (by omega) h3]
          exact ⟨rfl, hs.below⟩
        · have hi64 : i < 64 := by omega
          have hk := r_getD (pk (toL s) i) (i / 2) (by rw [pk_length]; omega)
          have hn := pk_next (toL s) i hi64
          have hpl := pk_length (toL s) i
          generalize pk (toL s) i = K at *
          replace h3 := of_decide_eq_false h3
          refine c_skip (nrm_then ?_)
          refine c_region ?_
          refine l_v (by first | exact (r_move (v := iV _) rfl) | exact (r_move rfl)) ?_
          refine l_v (r_quoi rfl rfl (by omega) (by omega)) ?_
          refine l_v (by first | exact (r_move (v := iV _) rfl) | exact (r_move rfl)) ?_
          refine l_v (r_quoi rfl rfl (by omega) (by omega)) ?_
          refine l_v (r_indexAddr_a0 (k := i / 2) Tryd.underlying25 I5 rfl (ivn (by omega)) (by omega)) ?_
          refine l_v (r_load_at (i := 0) hs rfl Tryd.underlying5 rfl hk) ?_
          refine l_v (r_mul8 (a := 16) rfl rfl) ?_
          refine l_v (by first | exact (r_move (v := u8V _) rfl) | exact (r_move rfl)) ?_
          refine l_v (r_add8 rfl rfl) ?_
          refine l_v (r_indexAddr_a0 (k := i / 2) Tryd.underlying25 I5 rfl (ivn (by omega)) (by omega)) ?_
          first | refine l_store (i := 0) (v := u8V _) hs rfl I5 rfl rfl (by first | (simp; done) | (simp; omega) | omega) ?_ | refine l_store (i := 1) (v := u8V _) hs rfl I5 rfl rfl (by first | (simp; done) | (simp; omega) | omega) ?_ | refine l_store (i := 2) (v := u8V _) hs rfl I5 rfl rfl (by first | (simp; done) | (simp; omega) | omega) ?_ | refine l_store (i := 3) (v := u8V _) hs rfl I5 rfl rfl (by first | (simp; done) | (simp; omega) | omega) ?_ | refine l_store (i := 4) (v := u8V _) hs rfl I5 rfl rfl (by first | (simp; done) | (simp; omega) | omega) ?_ | refine l_store (i := 5) (v := u8V _) hs rfl I5 rfl rfl (by first | (simp; done) | (simp; omega) | omega) ?_ | refine l_store (i := 6) (v := u8V _) hs rfl I5 rfl rfl (by first | (simp; done) | (simp; omega) | omega) ?_
          intro w_ hs
          refine l_nil (nrm_block (nrm_then ?_))
          refine c_region ?_
          refine l_v (by first | exact (r_move (v := iV _) rfl) | exact (r_move rfl)) ?_
          refine l_v (r_addi rfl rfl (by omega)) ?_
          refine l_v (by first | exact (r_assign (v := iV _) rfl) | exact (r_assign rfl)) ?_
          refine l_nil (nrm_then ?_)
          refine And.intro (by refine ⟨?_, ?_, ?_, trivial⟩ <;> ((conv => lhs; whnf); (try conv => rhs; whnf))) ?_
          refine ⟨63 - i, by omega, i + 1, by omega, rfl, fun j hj => ?_, ?_⟩
          · by_cases hji : j < i
            · exact hg j hji
            · obtain rfl : j = i := by omega
              exact h3
          · rw [← hn, List.map_set]
            exact hs
      · replace h2 := of_decide_eq_false h2
        refine c_exit (ex_then (ex_then (ex_hit (nrm_then ?_))))
        refine c_rseq ?_
        obtain rfl : i = 64 := by omega
        have hpl : ((pk (toL s) 64).map u8V).length = 32 := (List.length_map u8V).trans (pk_length _ _)
        rw [parsed_yes (by omega) hg]
        refine l_v (by first | exact (r_load_whole (i := 0) hs rfl Tryd.underlying25 I25 rfl (by first | assumption | (simp; done))) | exact (r_load_whole (i := 1) hs rfl Tryd.underlying25 I25 rfl (by first | assumption | (simp; done))) | exact (r_load_whole (i := 2) hs rfl Tryd.underlying25 I25 rfl (by first | assumption | (simp; done))) | exact (r_load_whole (i := 3) hs rfl Tryd.underlying25 I25 rfl (by first | assumption | (simp; done))) | exact (r_load_whole (i := 4) hs rfl Tryd.underlying25 I25 rfl (by first | assumption | (simp; done))) | exact (r_load_whole (i := 5) hs rfl Tryd.underlying25 I25 rfl (by first | assumption | (simp; done))) | exact (r_load_whole (i := 6) hs rfl Tryd.underlying25 I25 rfl (by first | assumption | (simp; done)))) ?_
        first | refine l_store_whole (i := 0) hs rfl I25 rfl rfl (by first | assumption | (simp; done)) (by first | assumption | (simp; done)) (by simp [Value.oneCell']) ?_ | refine l_store_whole (i := 1) hs rfl I25 rfl rfl (by first | assumption | (simp; done)) (by first | assumption | (simp; done)) (by simp [Value.oneCell']) ?_ | refine l_store_whole (i := 2) hs rfl I25 rfl rfl (by first | assumption | (simp; done)) (by first | assumption | (simp; done)) (by simp [Value.oneCell']) ?_ | refine l_store_whole (i := 3) hs rfl I25 rfl rfl (by first | assumption | (simp; done)) (by first | assumption | (simp; done)) (by simp [Value.oneCell']) ?_ | refine l_store_whole (i := 4) hs rfl I25 rfl rfl (by first | assumption | (simp; done)) (by first | assumption | (simp; done)) (by simp [Value.oneCell']) ?_ | refine l_store_whole (i := 5) hs rfl I25 rfl rfl (by first | assumption | (simp; done)) (by first | assumption | (simp; done)) (by simp [Value.oneCell']) ?_ | refine l_store_whole (i := 6) hs rfl I25 rfl rfl (by first | assumption | (simp; done)) (by first | assumption | (simp; done)) (by simp [Value.oneCell']) ?_
        intro w_ hs
        refine l_v (by first | exact (r_assign (v := bV _) rfl) | exact (r_assign rfl)) ?_
        refine l_nil (nrm_then ?_)
        refine c_ret ?_
        show Fin _ _ _ _ _
        refine fin2c rfl rfl (run_loadVar_agg Tryd.underlying25 rfl I25 hpl (cells_whole (hs.at_ 1).1)) ?_
        exact ⟨rfl, hs.below⟩
theorem digF_lo (c : UInt8) (h1 : c.toNat ≥ 48) (h2 : c.toNat ≤ 57) : c - 48 = digF c ∧ digF c ≠ 16 ∧ c.toNat < 128 := by
  have := u8_all (p := fun c => decide (c.toNat ≥ 48 → c.toNat ≤ 57 → c - 48 = digF c ∧ digF c ≠ 16 ∧ c.toNat < 128)) (by decide +kernel) c
  exact of_decide_eq_true this h1 h2
theorem digF_hi (c : UInt8) (h1 : c.toNat ≥ 97) (h2 : c.toNat ≤ 102) : c - 87 = digF c ∧ digF c ≠ 16 ∧ c.toNat < 128 := by
  have := u8_all (p := fun c => decide (c.toNat ≥ 97 → c.toNat ≤ 102 → c - 87 = digF c ∧ digF c ≠ 16 ∧ c.toNat < 128)) (by decide +kernel) c
  exact of_decide_eq_true this h1 h2
theorem digF_none (c : UInt8) (h1 : ¬ (c.toNat ≥ 48 ∧ c.toNat ≤ 57)) (h2 : ¬ (c.toNat ≥ 97 ∧ c.toNat ≤ 102)) : digF c = 16 := by
  have := u8_all (p := fun c => decide (¬ (c.toNat ≥ 48 ∧ c.toNat ≤ 57) → ¬ (c.toNat ≥ 97 ∧ c.toNat ≤ 102) → digF c = 16)) (by decide +kernel) c
  exact of_decide_eq_true this h1 h2
set_option maxHeartbeats 2000000 in
theorem parse_c (s : ByteArray) (hz : s.size ≤ 9223372036854775807) (w : World) :
    Calls Tryd.prog 14 #[sV s] w fun e w' => e = .returned (.tuple #[kV (parsed (toL s)).1, iV (if (parsed (toL s)).2 then 0 else 3)]) ∧ Below w.heap.size w w' := by
  have hl := toL_size s
  have h32 : ((List.replicate 32 (0 : UInt8)).map u8V).length = 32 := by rw [List.length_map, List.length_replicate]
  refine enter (P := Tryd.prog) Tryd.func14 rfl rfl ?_
  have hs := Sep.init w
  refine c_rseq ?_
  refine l_alloc hs I25 ?_
  intro b2 w2 hs hB2 hlt2
  refine l_v (by first | exact (r_assign (v := iV _) rfl) | exact (r_assign rfl)) ?_
  refine l_nil (nrm_then ?_)
  refine c_rseq ?_
  refine l_alloc hs I25 ?_
  intro b4 w4 hs hB4 hlt4
  refine l_nil (nrm_then ?_)
  refine c_seq ?_
  refine c_rseq ?_
  refine l_v (by first | exact (r_move (v := sV _) rfl) | exact (r_move rfl)) ?_
  refine l_v (r_len_s Tryd.underlying9 rfl) ?_
  refine l_v (r_neqi rfl rfl) ?_
  refine l_nil (nrm_then ?_)
  have hs : Sep w _ [blk b4 ((List.replicate 32 (0 : UInt8)).map u8V) 25, blk b2 ((List.replicate 32 (0 : UInt8)).map u8V) 25] := hs
  refine c_cond rfl (fun h => ?_) (fun h => ?_)
  · replace h := of_decide_eq_true h
    refine c_rseq ?_
    refine l_v (by first | exact (r_load_whole (i := 0) hs rfl Tryd.underlying25 I25 rfl (by first | assumption | (simp; done))) | exact (r_load_whole (i := 1) hs rfl Tryd.underlying25 I25 rfl (by first | assumption | (simp; done))) | exact (r_load_whole (i := 2) hs rfl Tryd.underlying25 I25 rfl (by first | assumption | (simp; done))) | exact (r_load_whole (i := 3) hs rfl Tryd.underlying25 I25 rfl (by first | assumption | (simp; done))) | exact (r_load_whole (i := 4) hs rfl Tryd.underlying25 I25 rfl (by first | assumption | (simp; done))) | exact (r_load_whole (i := 5) hs rfl Tryd.underlying25 I25 rfl (by first | assumption | (simp; done))) | exact (r_load_whole (i := 6) hs rfl Tryd.underlying25 I25 rfl (by first | assumption | (simp; done)))) ?_
    first | refine l_store_whole (i := 0) hs rfl I25 rfl rfl (by first | assumption | (simp; done)) (by first | assumption | (simp; done)) (by simp [Value.oneCell']) ?_ | refine l_store_whole (i := 1) hs rfl I25 rfl rfl (by first | assumption | (simp; done)) (by first | assumption | (simp; done)) (by simp [Value.oneCell']) ?_ | refine l_store_whole (i := 2) hs rfl I25 rfl rfl (by first | assumption | (simp; done)) (by first | assumption | (simp; done)) (by simp [Value.oneCell']) ?_ | refine l_store_whole (i := 3) hs rfl I25 rfl rfl (by first | assumption | (simp; done)) (by first | assumption | (simp; done)) (by simp [Value.oneCell']) ?_ | refine l_store_whole (i := 4) hs rfl I25 rfl rfl (by first | assumption | (simp; done)) (by first | assumption | (simp; done)) (by simp [Value.oneCell']) ?_ | refine l_store_whole (i := 5) hs rfl I25 rfl rfl (by first | assumption | (simp; done)) (by first | assumption | (simp; done)) (by simp [Value.oneCell']) ?_ | refine l_store_whole (i := 6) hs rfl I25 rfl rfl (by first | assumption | (simp; done)) (by first | assumption | (simp; done)) (by simp [Value.oneCell']) ?_
    intro w_ hs
    refine l_v (by first | exact (r_assign (v := iV _) rfl) | exact (r_assign rfl)) ?_
    refine l_nil (nrm_then ?_)
    refine c_ret (ret_then ?_)
    show Fin _ _ _ _ _
    refine fin2c rfl rfl (run_loadVar_agg Tryd.underlying25 rfl I25 h32 (cells_whole (hs.at_ 1).1)) ?_
    have e := parsed_len (l := toL s) (by rw [hl]; omega)
    rw [e]
    exact ⟨rfl, hs.below⟩
  · replace h := of_decide_eq_false h
    refine c_skip (nrm_then ?_)
    refine c_seq ?_
    refine c_rseq ?_
    refine l_v (by first | exact (r_move (v := sV _) rfl) | exact (r_move rfl)) ?_
    have hs64 : s.size = 64 := by omega
    refine l_range_s hs Tryd.underlying9 rfl ?_
    intro b12 w12 hs
    refine l_nil (nrm_then ?_)
    refine c_block ?_
    refine c_loopn [0, 2, 4, 12] (fun m f' w' => ∃ i, i + m = 64 ∧ (∀ j, j < i → d4 (toL s) j ≠ 16) ∧ Sep w w' [obj b12 (.stringIter s i), blk b4 ((pk (toL s) i).map u8V) 25, blk b2 ((List.replicate 32 (0 : UInt8)).map u8V) 25]) ?_ ?_
    · exact ⟨64, 0, rfl, fun j hj => by omega, by rw [pk_zero]; exact hs⟩
    · rintro m g w_ ⟨i, hi, hg, hs⟩
      refine c_rseq ?_
      by_cases hi64 : i < 64
      · skip
        refine l_next_s (t := 0) hs rfl (by omega) ?_
        intro r p' w13 hs hp'
        refine l_v (r_extract rfl rfl) ?_
        refine l_nil (nrm_then ?_)
        refine c_seq ?_
        refine c_true rfl (rfl) ?_
        refine c_skip (nrm_then ?_)
        refine c_block ?_
        refine c_rseq ?_
        refine l_v (r_extract rfl rfl) ?_
        refine l_v (by first | exact (r_assign (v := iV _) rfl) | exact (r_assign rfl)) ?_
        refine l_nil (nrm_then ?_)
        refine c_rseq ?_
        refine l_v (by first | exact (r_move (v := sV _) rfl) | exact (r_move rfl)) ?_
        refine l_v (by first | exact (r_move (v := iV _) rfl) | exact (r_move rfl)) ?_
        refine l_v (by first | exact (r_index_s Tryd.underlying9 rfl rfl (by omega)) | exact (r_index_si Tryd.underlying9 rfl rfl (by omega))) ?_
        refine l_v (by first | exact (r_assign (v := u8V _) rfl) | exact (r_assign rfl)) ?_
        refine l_nil (nrm_then ?_)
        refine c_seq ?_
        refine c_block ?_
        refine c_rseq ?_
        refine l_v (by first | exact (r_move (v := u8V _) rfl) | exact (r_move rfl)) ?_
        refine l_v (r_geq8 (b := 48) rfl rfl) ?_
        have hk := r_getD (pk (toL s) i) (i / 2) (by rw [pk_length]; omega)
        have hn := pk_next (toL s) i hi64
        have hpl := pk_length (toL s) i
        have hno16 : digF (at8 s i) = 16 → d4 (toL s) i = 16 := fun h => h
        change _ = _ at hn
        unfold d4 at hn
        change (pk (toL s) i).set (i / 2) (16 * (pk (toL s) i).getD (i / 2) 0 + digF (at8 s i)) = pk (toL s) (i + 1) at hn
        change ∀ j, j < i → d4 (toL s) j ≠ 16 at hg
        generalize pk (toL s) i = K at *
        have hgi : d4 (toL s) i = digF (at8 s i) := rfl
        generalize at8 s i = c at *
        by_cases h48 : c.toNat ≥ 48
        · have f48 : decide (c.toNat ≥ 48) = true := decide_eq_true h48
          by_cases h57 : c.toNat ≤ 57
          · have hd := digF_lo c h48 h57
            refine l_v (by first | exact (r_move (v := bV _) rfl) | exact (r_move rfl)) ?_
            refine l_vg (by first | exact (r_move (v := u8V _) rfl) | exact (r_move rfl)) rfl (f48) ?_
            refine l_vg (r_leq8 (b := 57) rfl rfl) rfl (f48) ?_
            refine l_v (r_pick_t rfl f48 rfl) ?_
            refine l_v (by first | exact (r_assign (v := bV _) rfl) | exact (r_assign rfl)) ?_
            refine l_nil (nrm_then ?_)
            refine c_true rfl (decide_eq_true h57) ?_
            have hp' := hp' hd.2.2
            subst hp'
            refine c_region ?_
            refine l_v (by first | exact (r_move (v := u8V _) rfl) | exact (r_move rfl)) ?_
            refine l_v (r_sub8 (b := 48) rfl rfl) ?_
            refine l_v (by first | exact (r_assign (v := u8V _) rfl) | exact (r_assign rfl)) ?_
            refine l_nil (nrm_block (nrm_then ?_))
            refine c_region ?_
            refine l_v (by first | exact (r_move (v := iV _) rfl) | exact (r_move rfl)) ?_
            refine l_v (r_quoi rfl rfl (by omega) (by omega)) ?_
            refine l_v (by first | exact (r_move (v := iV _) rfl) | exact (r_move rfl)) ?_
            refine l_v (r_quoi rfl rfl (by omega) (by omega)) ?_
            refine l_v (r_indexAddr_a0 (k := i / 2) Tryd.underlying25 I5 rfl (ivn (by omega)) (by omega)) ?_
            refine l_v (r_load_at (i := 1) hs rfl Tryd.underlying5 rfl hk) ?_
            refine l_v (r_shl8 (b := 4) rfl rfl (by omega)) ?_
            refine l_v (by first | exact (r_move (v := u8V _) rfl) | exact (r_move rfl)) ?_
            refine l_v (r_or8 rfl rfl) ?_
            refine l_v (r_indexAddr_a0 (k := i / 2) Tryd.underlying25 I5 rfl (ivn (by omega)) (by omega)) ?_
            first | refine l_store (i := 0) (v := u8V _) hs rfl I5 rfl rfl (by first | (simp; done) | (simp; omega) | omega) ?_ | refine l_store (i := 1) (v := u8V _) hs rfl I5 rfl rfl (by first | (simp; done) | (simp; omega) | omega) ?_ | refine l_store (i := 2) (v := u8V _) hs rfl I5 rfl rfl (by first | (simp; done) | (simp; omega) | omega) ?_ | refine l_store (i := 3) (v := u8V _) hs rfl I5 rfl rfl (by first | (simp; done) | (simp; omega) | omega) ?_ | refine l_store (i := 4) (v := u8V _) hs rfl I5 rfl rfl (by first | (simp; done) | (simp; omega) | omega) ?_ | refine l_store (i := 5) (v := u8V _) hs rfl I5 rfl rfl (by first | (simp; done) | (simp; omega) | omega) ?_ | refine l_store (i := 6) (v := u8V _) hs rfl I5 rfl rfl (by first | (simp; done) | (simp; omega) | omega) ?_
            intro w_ hs
            refine l_nil (nrm_block (nrm_then ?_))
            refine And.intro (by refine ⟨?_, ?_, ?_, ?_, trivial⟩ <;> ((conv => lhs; whnf); (try conv => rhs; whnf))) ?_
            refine ⟨63 - i, by omega, i + 1, by omega, fun j hj => ?_, ?_⟩
            · by_cases hji : j < i
              · exact hg j hji
              · obtain rfl : j = i := by omega
                rw [hgi]; exact hd.2.1
            · rw [← hn, ← (put4 _ _ (digF_ok _ hd.2.1).2), ← hd.1, List.map_set]
              exact hs
          · by_cases h97 : c.toNat ≥ 97
            · have f97 : decide (c.toNat ≥ 97) = true := decide_eq_true h97
              by_cases h102 : c.toNat ≤ 102
              · have hd := digF_hi c h97 h102
                refine l_v (by first | exact (r_move (v := bV _) rfl) | exact (r_move rfl)) ?_
                refine l_vg (by first | exact (r_move (v := u8V _) rfl) | exact (r_move rfl)) rfl (f48) ?_
                refine l_vg (r_leq8 (b := 57) rfl rfl) rfl (f48) ?_
                refine l_v (r_pick_t rfl f48 rfl) ?_
                refine l_v (by first | exact (r_assign (v := bV _) rfl) | exact (r_assign rfl)) ?_
                refine l_nil (nrm_then ?_)
                refine c_false rfl (decide_eq_false h57) ?_
                refine c_rseq ?_
                refine l_v (by first | exact (r_move (v := u8V _) rfl) | exact (r_move rfl)) ?_
                refine l_v (r_geq8 (b := 97) rfl rfl) ?_
                refine l_v (by first | exact (r_move (v := bV _) rfl) | exact (r_move rfl)) ?_
                refine l_vg (by first | exact (r_move (v := u8V _) rfl) | exact (r_move rfl)) rfl (f97) ?_
                refine l_vg (r_leq8 (b := 102) rfl rfl) rfl (f97) ?_
                refine l_v (r_pick_t rfl f97 rfl) ?_
                refine l_v (by first | exact (r_assign (v := bV _) rfl) | exact (r_assign rfl)) ?_
                refine l_nil (nrm_then ?_)
                refine c_true rfl (decide_eq_true h102) ?_
                have hp' := hp' hd.2.2
                subst hp'
                refine c_region ?_
                refine l_v (by first | exact (r_move (v := u8V _) rfl) | exact (r_move rfl)) ?_
                refine l_v (r_sub8 (b := 87) rfl rfl) ?_
                refine l_v (by first | exact (r_assign (v := u8V _) rfl) | exact (r_assign rfl)) ?_
                refine l_nil (nrm_block (nrm_then ?_))
                refine c_region ?_
                refine l_v (by first | exact (r_move (v := iV _) rfl) | exact (r_move rfl)) ?_
                refine l_v (r_quoi rfl rfl (by omega) (by omega)) ?_
                refine l_v (by first | exact (r_move (v := iV _) rfl) | exact (r_move rfl)) ?_
                refine l_v (r_quoi rfl rfl (by omega) (by omega)) ?_
                refine l_v (r_indexAddr_a0 (k := i / 2) Tryd.underlying25 I5 rfl (ivn (by omega)) (by omega)) ?_
                refine l_v (r_load_at (i := 1) hs rfl Tryd.underlying5 rfl hk) ?_
                refine l_v (r_shl8 (b := 4) rfl rfl (by omega)) ?_
                refine l_v (by first | exact (r_move (v := u8V _) rfl) | exact (r_move rfl)) ?_
                refine l_v (r_or8 rfl rfl) ?_
                refine l_v (r_indexAddr_a0 (k := i / 2) Tryd.underlying25 I5 rfl (ivn (by omega)) (by omega)) ?_
                first | refine l_store (i := 0) (v := u8V _) hs rfl I5 rfl rfl (by first | (simp; done) | (simp; omega) | omega) ?_ | refine l_store (i := 1) (v := u8V _) hs rfl I5 rfl rfl (by first | (simp; done) | (simp; omega) | omega) ?_ | refine l_store (i := 2) (v := u8V _) hs rfl I5 rfl rfl (by first | (simp; done) | (simp; omega) | omega) ?_ | refine l_store (i := 3) (v := u8V _) hs rfl I5 rfl rfl (by first | (simp; done) | (simp; omega) | omega) ?_ | refine l_store (i := 4) (v := u8V _) hs rfl I5 rfl rfl (by first | (simp; done) | (simp; omega) | omega) ?_ | refine l_store (i := 5) (v := u8V _) hs rfl I5 rfl rfl (by first | (simp; done) | (simp; omega) | omega) ?_ | refine l_store (i := 6) (v := u8V _) hs rfl I5 rfl rfl (by first | (simp; done) | (simp; omega) | omega) ?_
                intro w_ hs
                refine l_nil (nrm_block (nrm_then ?_))
                refine And.intro (by refine ⟨?_, ?_, ?_, ?_, trivial⟩ <;> ((conv => lhs; whnf); (try conv => rhs; whnf))) ?_
                refine ⟨63 - i, by omega, i + 1, by omega, fun j hj => ?_, ?_⟩
                · by_cases hji : j < i
                  · exact hg j hji
                  · obtain rfl : j = i := by omega
                    rw [hgi]; exact hd.2.1
                · rw [← hn, ← (put4 _ _ (digF_ok _ hd.2.1).2), ← hd.1, List.map_set]
                  exact hs
              · have hno := hno16 (digF_none c (by omega) (by omega))
                refine l_v (by first | exact (r_move (v := bV _) rfl) | exact (r_move rfl)) ?_
                refine l_vg (by first | exact (r_move (v := u8V _) rfl) | exact (r_move rfl)) rfl (f48) ?_
                refine l_vg (r_leq8 (b := 57) rfl rfl) rfl (f48) ?_
                refine l_v (r_pick_t rfl f48 rfl) ?_
                refine l_v (by first | exact (r_assign (v := bV _) rfl) | exact (r_assign rfl)) ?_
                refine l_nil (nrm_then ?_)
                refine c_false rfl (decide_eq_false h57) ?_
                refine c_rseq ?_
                refine l_v (by first | exact (r_move (v := u8V _) rfl) | exact (r_move rfl)) ?_
                refine l_v (r_geq8 (b := 97) rfl rfl) ?_
                refine l_v (by first | exact (r_move (v := bV _) rfl) | exact (r_move rfl)) ?_
                refine l_vg (by first | exact (r_move (v := u8V _) rfl) | exact (r_move rfl)) rfl (f97) ?_
                refine l_vg (r_leq8 (b := 102) rfl rfl) rfl (f97) ?_
                refine l_v (r_pick_t rfl f97 rfl) ?_
                refine l_v (by first | exact (r_assign (v := bV _) rfl) | exact (r_assign rfl)) ?_
                refine l_nil (nrm_then ?_)
                refine c_false rfl (decide_eq_false h102) ?_
                refine c_rseq ?_
                refine l_v (r_build0 Tryd.underlying25 I25 I5) ?_
                first | refine l_store_whole (i := 0) hs rfl I25 rfl rfl (by first | assumption | (simp; done)) (by first | assumption | (simp; done)) (by simp [Value.oneCell']) ?_ | refine l_store_whole (i := 1) hs rfl I25 rfl rfl (by first | assumption | (simp; done)) (by first | assumption | (simp; done)) (by simp [Value.oneCell']) ?_ | refine l_store_whole (i := 2) hs rfl I25 rfl rfl (by first | assumption | (simp; done)) (by first | assumption | (simp; done)) (by simp [Value.oneCell']) ?_ | refine l_store_whole (i := 3) hs rfl I25 rfl rfl (by first | assumption | (simp; done)) (by first | assumption | (simp; done)) (by simp [Value.oneCell']) ?_ | refine l_store_whole (i := 4) hs rfl I25 rfl rfl (by first | assumption | (simp; done)) (by first | assumption | (simp; done)) (by simp [Value.oneCell']) ?_ | refine l_store_whole (i := 5) hs rfl I25 rfl rfl (by first | assumption | (simp; done)) (by first | assumption | (simp; done)) (by simp [Value.oneCell']) ?_ | refine l_store_whole (i := 6) hs rfl I25 rfl rfl (by first | assumption | (simp; done)) (by first | assumption | (simp; done)) (by simp [Value.oneCell']) ?_
                intro w_ hs
                refine l_v (by first | exact (r_assign (v := iV _) rfl) | exact (r_assign rfl)) ?_
                refine l_nil (nrm_then ?_)
                refine c_ret (ret_block (ret_then (ret_block (ret_then (ret_block (ret_then ?_))))))
                show Fin _ _ _ _ _
                refine fin2c rfl rfl (run_loadVar_agg Tryd.underlying25 rfl I25 h32 (cells_whole (hs.at_ 2).1)) ?_
                rw [parsed_no (l := toL s) (i := i) (by omega) hno]
                exact ⟨rfl, hs.below⟩
            · have f97 : decide (c.toNat ≥ 97) = false := decide_eq_false h97
              have hno := hno16 (digF_none c (by omega) (by omega))
              refine l_v (by first | exact (r_move (v := bV _) rfl) | exact (r_move rfl)) ?_
              refine l_vg (by first | exact (r_move (v := u8V _) rfl) | exact (r_move rfl)) rfl (f48) ?_
              refine l_vg (r_leq8 (b := 57) rfl rfl) rfl (f48) ?_
              refine l_v (r_pick_t rfl f48 rfl) ?_
              refine l_v (by first | exact (r_assign (v := bV _) rfl) | exact (r_assign rfl)) ?_
              refine l_nil (nrm_then ?_)
              refine c_false rfl (decide_eq_false h57) ?_
              refine c_rseq ?_
              refine l_v (by first | exact (r_move (v := u8V _) rfl) | exact (r_move rfl)) ?_
              refine l_v (r_geq8 (b := 97) rfl rfl) ?_
              refine l_v (by first | exact (r_move (v := bV _) rfl) | exact (r_move rfl)) ?_
              refine l_no rfl (f97) ?_
              refine l_no rfl (f97) ?_
              refine l_v (r_pick_f rfl f97 rfl) ?_
              refine l_v (by first | exact (r_assign (v := bV _) rfl) | exact (r_assign rfl)) ?_
              refine l_nil (nrm_then ?_)
              refine c_false rfl (rfl) ?_
              refine c_rseq ?_
              refine l_v (r_build0 Tryd.underlying25 I25 I5) ?_
              first | refine l_store_whole (i := 0) hs rfl I25 rfl rfl (by first | assumption | (simp; done)) (by first | assumption | (simp; done)) (by simp [Value.oneCell']) ?_ | refine l_store_whole (i := 1) hs rfl I25 rfl rfl (by first | assumption | (simp; done)) (by first | assumption | (simp; done)) (by simp [Value.oneCell']) ?_ | refine l_store_whole (i := 2) hs rfl I25 rfl rfl (by first | assumption | (simp; done)) (by first | assumption | (simp; done)) (by simp [Value.oneCell']) ?_ | refine l_store_whole (i := 3) hs rfl I25 rfl rfl (by first | assumption | (simp; done)) (by first | assumption | (simp; done)) (by simp [Value.oneCell']) ?_ | refine l_store_whole (i := 4) hs rfl I25 rfl rfl (by first | assumption | (simp; done)) (by first | assumption | (simp; done)) (by simp [Value.oneCell']) ?_ | refine l_store_whole (i := 5) hs rfl I25 rfl rfl (by first | assumption | (simp; done)) (by first | assumption | (simp; done)) (by simp [Value.oneCell']) ?_ | refine l_store_whole (i := 6) hs rfl I25 rfl rfl (by first | assumption | (simp; done)) (by first | assumption | (simp; done)) (by simp [Value.oneCell']) ?_
              intro w_ hs
              refine l_v (by first | exact (r_assign (v := iV _) rfl) | exact (r_assign rfl)) ?_
              refine l_nil (nrm_then ?_)
              refine c_ret (ret_block (ret_then (ret_block (ret_then (ret_block (ret_then ?_))))))
              show Fin _ _ _ _ _
              refine fin2c rfl rfl (run_loadVar_agg Tryd.underlying25 rfl I25 h32 (cells_whole (hs.at_ 2).1)) ?_
              rw [parsed_no (l := toL s) (i := i) (by omega) hno]
              exact ⟨rfl, hs.below⟩
        · have f48 : decide (c.toNat ≥ 48) = false := decide_eq_false h48
          have f97 : decide (c.toNat ≥ 97) = false := decide_eq_false (by omega)
          have hno := hno16 (digF_none c (by omega) (by omega))
          refine l_v (by first | exact (r_move (v := bV _) rfl) | exact (r_move rfl)) ?_
          refine l_no rfl (f48) ?_
          refine l_no rfl (f48) ?_
          refine l_v (r_pick_f rfl f48 rfl) ?_
          refine l_v (by first | exact (r_assign (v := bV _) rfl) | exact (r_assign rfl)) ?_
          refine l_nil (nrm_then ?_)
          refine c_false rfl (rfl) ?_
          refine c_rseq ?_
          refine l_v (by first | exact (r_move (v := u8V _) rfl) | exact (r_move rfl)) ?_
          refine l_v (r_geq8 (b := 97) rfl rfl) ?_
          refine l_v (by first | exact (r_move (v := bV _) rfl) | exact (r_move rfl)) ?_
          refine l_no rfl (f97) ?_
          refine l_no rfl (f97) ?_
          refine l_v (r_pick_f rfl f97 rfl) ?_
          refine l_v (by first | exact (r_assign (v := bV _) rfl) | exact (r_assign rfl)) ?_
          refine l_nil (nrm_then ?_)
          refine c_false rfl (rfl) ?_
          refine c_rseq ?_
          refine l_v (r_build0 Tryd.underlying25 I25 I5) ?_
          first | refine l_store_whole (i := 0) hs rfl I25 rfl rfl (by first | assumption | (simp; done)) (by first | assumption | (simp; done)) (by simp [Value.oneCell']) ?_ | refine l_store_whole (i := 1) hs rfl I25 rfl rfl (by first | assumption | (simp; done)) (by first | assumption | (simp; done)) (by simp [Value.oneCell']) ?_ | refine l_store_whole (i := 2) hs rfl I25 rfl rfl (by first | assumption | (simp; done)) (by first | assumption | (simp; done)) (by simp [Value.oneCell']) ?_ | refine l_store_whole (i := 3) hs rfl I25 rfl rfl (by first | assumption | (simp; done)) (by first | assumption | (simp; done)) (by simp [Value.oneCell']) ?_ | refine l_store_whole (i := 4) hs rfl I25 rfl rfl (by first | assumption | (simp; done)) (by first | assumption | (simp; done)) (by simp [Value.oneCell']) ?_ | refine l_store_whole (i := 5) hs rfl I25 rfl rfl (by first | assumption | (simp; done)) (by first | assumption | (simp; done)) (by simp [Value.oneCell']) ?_ | refine l_store_whole (i := 6) hs rfl I25 rfl rfl (by first | assumption | (simp; done)) (by first | assumption | (simp; done)) (by simp [Value.oneCell']) ?_
          intro w_ hs
          refine l_v (by first | exact (r_assign (v := iV _) rfl) | exact (r_assign rfl)) ?_
          refine l_nil (nrm_then ?_)
          refine c_ret (ret_block (ret_then (ret_block (ret_then (ret_block (ret_then ?_))))))
          show Fin _ _ _ _ _
          refine fin2c rfl rfl (run_loadVar_agg Tryd.underlying25 rfl I25 h32 (cells_whole (hs.at_ 2).1)) ?_
          rw [parsed_no (l := toL s) (i := i) (by omega) hno]
          exact ⟨rfl, hs.below⟩
      · skip
        refine l_next_end (t := 0) hs rfl (by omega) ?_
        refine l_v (r_extract rfl rfl) ?_
        refine l_nil (nrm_then ?_)
        refine c_seq ?_
        refine c_false rfl (rfl) ?_
        obtain rfl : i = 64 := by omega
        have hpl : ((pk (toL s) 64).map u8V).length = 32 := (List.length_map u8V).trans (pk_length _ _)
        rw [parsed_yes (by omega) hg]
        refine c_exit (ex_then (ex_then (ex_hit (nrm_then ?_))))
        refine c_rseq ?_
        refine l_v (by first | exact (r_load_whole (i := 0) hs rfl Tryd.underlying25 I25 rfl (by first | assumption | (simp; done))) | exact (r_load_whole (i := 1) hs rfl Tryd.underlying25 I25 rfl (by first | assumption | (simp; done))) | exact (r_load_whole (i := 2) hs rfl Tryd.underlying25 I25 rfl (by first | assumption | (simp; done))) | exact (r_load_whole (i := 3) hs rfl Tryd.underlying25 I25 rfl (by first | assumption | (simp; done))) | exact (r_load_whole (i := 4) hs rfl Tryd.underlying25 I25 rfl (by first | assumption | (simp; done))) | exact (r_load_whole (i := 5) hs rfl Tryd.underlying25 I25 rfl (by first | assumption | (simp; done))) | exact (r_load_whole (i := 6) hs rfl Tryd.underlying25 I25 rfl (by first | assumption | (simp; done)))) ?_
        first | refine l_store_whole (i := 0) hs rfl I25 rfl rfl (by first | assumption | (simp; done)) (by first | assumption | (simp; done)) (by simp [Value.oneCell']) ?_ | refine l_store_whole (i := 1) hs rfl I25 rfl rfl (by first | assumption | (simp; done)) (by first | assumption | (simp; done)) (by simp [Value.oneCell']) ?_ | refine l_store_whole (i := 2) hs rfl I25 rfl rfl (by first | assumption | (simp; done)) (by first | assumption | (simp; done)) (by simp [Value.oneCell']) ?_ | refine l_store_whole (i := 3) hs rfl I25 rfl rfl (by first | assumption | (simp; done)) (by first | assumption | (simp; done)) (by simp [Value.oneCell']) ?_ | refine l_store_whole (i := 4) hs rfl I25 rfl rfl (by first | assumption | (simp; done)) (by first | assumption | (simp; done)) (by simp [Value.oneCell']) ?_ | refine l_store_whole (i := 5) hs rfl I25 rfl rfl (by first | assumption | (simp; done)) (by first | assumption | (simp; done)) (by simp [Value.oneCell']) ?_ | refine l_store_whole (i := 6) hs rfl I25 rfl rfl (by first | assumption | (simp; done)) (by first | assumption | (simp; done)) (by simp [Value.oneCell']) ?_
        intro w_ hs
        refine l_v (by first | exact (r_assign (v := iV _) rfl) | exact (r_assign rfl)) ?_
        refine l_nil (nrm_then ?_)
        refine c_ret ?_
        show Fin _ _ _ _ _
        refine fin2c rfl rfl (run_loadVar_agg Tryd.underlying25 rfl I25 hpl (cells_whole (hs.at_ 2).1)) ?_
        exact ⟨rfl, hs.below⟩
set_option maxHeartbeats 2000000 in
theorem shaDigits_walk (k : List UInt8) (hk : k.length = 32) (s : ByteArray) (hz : s.size ≤ 140737488351232) {w : World} (h0 : Ok0 w) :
    Calls Tryd.prog 6 #[kV k, sV s] w fun e w' => e = .returned (bV true) ∧ Below w.heap.size w w' := by
  have hk32 : (k.map u8V).length = 32 := (List.length_map u8V).trans hk
  obtain ⟨hg1, hg2⟩ := pk_hex k hk
  have hpa : parsed (toL (ofL (hexOf k))) = (k, true) := by rw [toL_ofL, parsed_yes (by rw [hex_len, hk]) hg1, hg2]
  have hpl := parsed_length (toL s)
  have hhex : (parsed (toL s)).2 = true → ofL (hexOf (parsed (toL s)).1) = s := by
    intro h
    by_cases hp : (toL s).length = 64 ∧ good (toL s)
    · rw [parsed_yes hp.1 hp.2, hex_pk _ hp.1 hp.2]
    · unfold parsed at h; rw [if_neg hp] at h; cases h
  obtain ⟨a, hR1⟩ : ∃ a, (parsed (toL s)).1 = a := ⟨_, rfl⟩
  obtain ⟨ok, hR2⟩ : ∃ ok, (parsed (toL s)).2 = ok := ⟨_, rfl⟩
  rw [hR1] at hpl
  rw [hR1, hR2] at hhex
  have ha : a.length = 32 := hpl
  have ha32 : (a.map u8V).length = 32 := (List.length_map u8V).trans ha
  refine enter (P := Tryd.prog) Tryd.func6 rfl rfl ?_
  have hs := Sep.init w
  refine c_rseq ?_
  refine l_box hs rfl ?_
  intro b2 w2 hs hB2 hlt2
  refine l_v (by first | exact (r_assign (v := bV _) rfl) | exact (r_assign rfl)) ?_
  refine l_nil (nrm_then ?_)
  refine c_rseq ?_
  refine l_v (by first | exact (r_move (v := sV _) rfl) | exact (r_move rfl)) ?_
  refine l_call (r_call Tryd.func14 rfl rfl) ?_
  refine Calls.mono (parse_c s (by omega) _) ?_
  rintro e w_ ⟨rfl, hb⟩
  refine ⟨_, rfl, ?_⟩
  have hs := hs.below_ hb
  rw [hR1, hR2]
  refine l_v (r_move rfl) ?_
  refine l_v (r_extract rfl rfl) ?_
  refine l_v (r_extract rfl rfl) ?_
  refine l_alloc hs I25 ?_
  intro b5 w5 hs hB5 hlt5
  first | refine l_store_whole (i := 0) hs rfl I25 rfl rfl (by first | assumption | (simp; done)) (by first | assumption | (simp; done)) (by simp [Value.oneCell']) ?_ | refine l_store_whole (i := 1) hs rfl I25 rfl rfl (by first | assumption | (simp; done)) (by first | assumption | (simp; done)) (by simp [Value.oneCell']) ?_ | refine l_store_whole (i := 2) hs rfl I25 rfl rfl (by first | assumption | (simp; done)) (by first | assumption | (simp; done)) (by simp [Value.oneCell']) ?_ | refine l_store_whole (i := 3) hs rfl I25 rfl rfl (by first | assumption | (simp; done)) (by first | assumption | (simp; done)) (by simp [Value.oneCell']) ?_ | refine l_store_whole (i := 4) hs rfl I25 rfl rfl (by first | assumption | (simp; done)) (by first | assumption | (simp; done)) (by simp [Value.oneCell']) ?_ | refine l_store_whole (i := 5) hs rfl I25 rfl rfl (by first | assumption | (simp; done)) (by first | assumption | (simp; done)) (by simp [Value.oneCell']) ?_ | refine l_store_whole (i := 6) hs rfl I25 rfl rfl (by first | assumption | (simp; done)) (by first | assumption | (simp; done)) (by simp [Value.oneCell']) ?_
  intro w_ hs
  refine l_v (by first | exact (r_assign (v := iV _) rfl) | exact (r_assign rfl)) ?_
  refine l_nil (nrm_then ?_)
  refine c_rseq ?_
  refine l_v (by first | exact (r_move (v := sV _) rfl) | exact (r_move rfl)) ?_
  refine l_call (r_call Tryd.func15 rfl rfl) ?_
  refine Calls.mono (refparse_c s (by omega) _) ?_
  rintro e w_ ⟨rfl, hb⟩
  refine ⟨_, rfl, ?_⟩
  have hs := hs.below_ hb
  rw [hR1, hR2]
  refine l_v (r_move rfl) ?_
  refine l_v (r_extract rfl rfl) ?_
  refine l_v (r_extract rfl rfl) ?_
  refine l_alloc hs I25 ?_
  intro b7 w7 hs hB7 hlt7
  first | refine l_store_whole (i := 0) hs rfl I25 rfl rfl (by first | assumption | (simp; done)) (by first | assumption | (simp; done)) (by simp [Value.oneCell']) ?_ | refine l_store_whole (i := 1) hs rfl I25 rfl rfl (by first | assumption | (simp; done)) (by first | assumption | (simp; done)) (by simp [Value.oneCell']) ?_ | refine l_store_whole (i := 2) hs rfl I25 rfl rfl (by first | assumption | (simp; done)) (by first | assumption | (simp; done)) (by simp [Value.oneCell']) ?_ | refine l_store_whole (i := 3) hs rfl I25 rfl rfl (by first | assumption | (simp; done)) (by first | assumption | (simp; done)) (by simp [Value.oneCell']) ?_ | refine l_store_whole (i := 4) hs rfl I25 rfl rfl (by first | assumption | (simp; done)) (by first | assumption | (simp; done)) (by simp [Value.oneCell']) ?_ | refine l_store_whole (i := 5) hs rfl I25 rfl rfl (by first | assumption | (simp; done)) (by first | assumption | (simp; done)) (by simp [Value.oneCell']) ?_ | refine l_store_whole (i := 6) hs rfl I25 rfl rfl (by first | assumption | (simp; done)) (by first | assumption | (simp; done)) (by simp [Value.oneCell']) ?_
  intro w_ hs
  refine l_v (by first | exact (r_assign (v := bV _) rfl) | exact (r_assign rfl)) ?_
  refine l_nil (nrm_then ?_)
  refine c_rseq ?_
  refine l_v (by first | exact (r_load_whole (i := 0) hs rfl Tryd.underlying25 I25 rfl (by first | assumption | (simp; done))) | exact (r_load_whole (i := 1) hs rfl Tryd.underlying25 I25 rfl (by first | assumption | (simp; done))) | exact (r_load_whole (i := 2) hs rfl Tryd.underlying25 I25 rfl (by first | assumption | (simp; done))) | exact (r_load_whole (i := 3) hs rfl Tryd.underlying25 I25 rfl (by first | assumption | (simp; done))) | exact (r_load_whole (i := 4) hs rfl Tryd.underlying25 I25 rfl (by first | assumption | (simp; done))) | exact (r_load_whole (i := 5) hs rfl Tryd.underlying25 I25 rfl (by first | assumption | (simp; done))) | exact (r_load_whole (i := 6) hs rfl Tryd.underlying25 I25 rfl (by first | assumption | (simp; done)))) ?_
  refine l_call (r_call Tryd.func16 rfl rfl) ?_
  refine Calls.mono (hex_c k hk _) ?_
  rintro e w_ ⟨rfl, hb⟩
  refine ⟨_, rfl, ?_⟩
  have hs := hs.below_ hb
  refine l_call (r_call Tryd.func14 rfl rfl) ?_
  refine Calls.mono (parse_c _ (by show (hexOf k).length ≤ _; rw [hex_len, hk]; decide) _) ?_
  rintro e w_ ⟨rfl, hb⟩
  refine ⟨_, rfl, ?_⟩
  have hs := hs.below_ hb
  rw [hpa]
  refine l_v (r_move rfl) ?_
  refine l_v (r_extract rfl rfl) ?_
  refine l_v (r_extract rfl rfl) ?_
  refine l_alloc hs I25 ?_
  intro b9 w9 hs hB9 hlt9
  first | refine l_store_whole (i := 0) hs rfl I25 rfl rfl (by first | assumption | (simp; done)) (by first | assumption | (simp; done)) (by simp [Value.oneCell']) ?_ | refine l_store_whole (i := 1) hs rfl I25 rfl rfl (by first | assumption | (simp; done)) (by first | assumption | (simp; done)) (by simp [Value.oneCell']) ?_ | refine l_store_whole (i := 2) hs rfl I25 rfl rfl (by first | assumption | (simp; done)) (by first | assumption | (simp; done)) (by simp [Value.oneCell']) ?_ | refine l_store_whole (i := 3) hs rfl I25 rfl rfl (by first | assumption | (simp; done)) (by first | assumption | (simp; done)) (by simp [Value.oneCell']) ?_ | refine l_store_whole (i := 4) hs rfl I25 rfl rfl (by first | assumption | (simp; done)) (by first | assumption | (simp; done)) (by simp [Value.oneCell']) ?_ | refine l_store_whole (i := 5) hs rfl I25 rfl rfl (by first | assumption | (simp; done)) (by first | assumption | (simp; done)) (by simp [Value.oneCell']) ?_ | refine l_store_whole (i := 6) hs rfl I25 rfl rfl (by first | assumption | (simp; done)) (by first | assumption | (simp; done)) (by simp [Value.oneCell']) ?_
  intro w_ hs
  refine l_v (by first | exact (r_assign (v := iV _) rfl) | exact (r_assign rfl)) ?_
  refine l_nil (nrm_then ?_)
  refine c_seq ?_
  clear hR1 hR2
  have hA : decide (ofL (hexOf k) = ofL (hexOf k)) = true := decide_eq_true rfl
  have hB : decide (a = a) = true := decide_eq_true rfl
  have hK : decide (k = k) = true := decide_eq_true rfl
  cases ok with
  | true =>
    have hS : decide (ofL (hexOf a) = s) = true := decide_eq_true (hhex rfl)
    refine c_float [40, 5, 3, 0] 45 (by kernel_rfl) (by kernel_rfl) ?_
    intro hbF
    show OkF _ _ _ _ _ _ (_ :: _) 0 _ _
    refine f_call (r_call Tryd.func7 rfl rfl) ?_
    refine Calls.mono (awake_c _ (h0.sep (hs.below_ hbF))) ?_
    rintro e w_ ⟨rfl, hb⟩
    have hbF := hbF.trans (Below.mono hb hbF.size)
    refine ⟨_, rfl, hb, ?_⟩
    refine f_v (fun wl hbl => by have hs := hs.below_ hbl; first | exact (r_move (v := bV _) rfl) | exact (r_move rfl)) ?_
    refine f_vg (fun wl hbl => by have hs := hs.below_ hbl; first | exact (r_load_whole (i := 0) hs rfl Tryd.underlying25 I25 rfl (by first | assumption | (simp; done))) | exact (r_load_whole (i := 1) hs rfl Tryd.underlying25 I25 rfl (by first | assumption | (simp; done))) | exact (r_load_whole (i := 2) hs rfl Tryd.underlying25 I25 rfl (by first | assumption | (simp; done))) | exact (r_load_whole (i := 3) hs rfl Tryd.underlying25 I25 rfl (by first | assumption | (simp; done))) | exact (r_load_whole (i := 4) hs rfl Tryd.underlying25 I25 rfl (by first | assumption | (simp; done))) | exact (r_load_whole (i := 5) hs rfl Tryd.underlying25 I25 rfl (by first | assumption | (simp; done))) | exact (r_load_whole (i := 6) hs rfl Tryd.underlying25 I25 rfl (by first | assumption | (simp; done)))) rfl (rfl) ?_
    refine f_callg (r_call Tryd.func16 rfl rfl) rfl (rfl) ?_
    refine Calls.mono (hex_c k hk _) ?_
    rintro e w_ ⟨rfl, hb⟩
    have hbF := hbF.trans (Below.mono hb hbF.size)
    refine ⟨_, rfl, hb, ?_⟩
    refine f_vg (fun wl hbl => by have hs := hs.below_ hbl; first | exact (r_load_whole (i := 0) hs rfl Tryd.underlying25 I25 rfl (by first | assumption | (simp; done))) | exact (r_load_whole (i := 1) hs rfl Tryd.underlying25 I25 rfl (by first | assumption | (simp; done))) | exact (r_load_whole (i := 2) hs rfl Tryd.underlying25 I25 rfl (by first | assumption | (simp; done))) | exact (r_load_whole (i := 3) hs rfl Tryd.underlying25 I25 rfl (by first | assumption | (simp; done))) | exact (r_load_whole (i := 4) hs rfl Tryd.underlying25 I25 rfl (by first | assumption | (simp; done))) | exact (r_load_whole (i := 5) hs rfl Tryd.underlying25 I25 rfl (by first | assumption | (simp; done))) | exact (r_load_whole (i := 6) hs rfl Tryd.underlying25 I25 rfl (by first | assumption | (simp; done)))) rfl (rfl) ?_
    refine f_callg (r_call Tryd.func17 rfl rfl) rfl (rfl) ?_
    refine Calls.mono (refhex_c k hk _) ?_
    rintro e w_ ⟨rfl, hb⟩
    have hbF := hbF.trans (Below.mono hb hbF.size)
    refine ⟨_, rfl, hb, ?_⟩
    refine f_vg (fun wl hbl => by have hs := hs.below_ hbl; exact (r_eqls rfl rfl)) rfl (rfl) ?_
    refine f_v (fun wl hbl => by have hs := hs.below_ hbl; exact (r_pick_t rfl rfl rfl)) ?_
    refine f_v (fun wl hbl => by have hs := hs.below_ hbl; first | exact (r_move (v := bV _) rfl) | exact (r_move rfl)) ?_
    refine f_vg (fun wl hbl => by have hs := hs.below_ hbl; first | exact (r_load_whole (i := 0) hs rfl Tryd.underlying25 I25 rfl (by first | assumption | (simp; done))) | exact (r_load_whole (i := 1) hs rfl Tryd.underlying25 I25 rfl (by first | assumption | (simp; done))) | exact (r_load_whole (i := 2) hs rfl Tryd.underlying25 I25 rfl (by first | assumption | (simp; done))) | exact (r_load_whole (i := 3) hs rfl Tryd.underlying25 I25 rfl (by first | assumption | (simp; done))) | exact (r_load_whole (i := 4) hs rfl Tryd.underlying25 I25 rfl (by first | assumption | (simp; done))) | exact (r_load_whole (i := 5) hs rfl Tryd.underlying25 I25 rfl (by first | assumption | (simp; done))) | exact (r_load_whole (i := 6) hs rfl Tryd.underlying25 I25 rfl (by first | assumption | (simp; done)))) rfl (hA) ?_
    refine f_vg (fun wl hbl => by have hs := hs.below_ hbl; first | exact (r_load_whole (i := 0) hs rfl Tryd.underlying25 I25 rfl (by first | assumption | (simp; done))) | exact (r_load_whole (i := 1) hs rfl Tryd.underlying25 I25 rfl (by first | assumption | (simp; done))) | exact (r_load_whole (i := 2) hs rfl Tryd.underlying25 I25 rfl (by first | assumption | (simp; done))) | exact (r_load_whole (i := 3) hs rfl Tryd.underlying25 I25 rfl (by first | assumption | (simp; done))) | exact (r_load_whole (i := 4) hs rfl Tryd.underlying25 I25 rfl (by first | assumption | (simp; done))) | exact (r_load_whole (i := 5) hs rfl Tryd.underlying25 I25 rfl (by first | assumption | (simp; done))) | exact (r_load_whole (i := 6) hs rfl Tryd.underlying25 I25 rfl (by first | assumption | (simp; done)))) rfl (hA) ?_
    refine f_vg (fun wl hbl => by have hs := hs.below_ hbl; exact (r_eqA (a := a) (b := a) Tryd.underlying25 Tryd.underlying5 I5 (by kernel_rfl) rfl rfl ha ha)) rfl (hA) ?_
    refine f_v (fun wl hbl => by have hs := hs.below_ hbl; exact (r_pick_t rfl hA rfl)) ?_
    refine f_v (fun wl hbl => by have hs := hs.below_ hbl; first | exact (r_move (v := bV _) rfl) | exact (r_move rfl)) ?_
    refine f_vg (fun wl hbl => by have hs := hs.below_ hbl; first | exact (r_move (v := iV _) rfl) | exact (r_move rfl)) rfl (hB) ?_
    refine f_vg (fun wl hbl => by have hs := hs.below_ hbl; exact (r_eqli rfl rfl)) rfl (hB) ?_
    refine f_vg (fun wl hbl => by have hs := hs.below_ hbl; first | exact (r_move (v := bV _) rfl) | exact (r_move rfl)) rfl (hB) ?_
    refine f_vg (fun wl hbl => by have hs := hs.below_ hbl; exact (r_eqlb Tryd.underlying4 rfl rfl)) rfl (hB) ?_
    refine f_v (fun wl hbl => by have hs := hs.below_ hbl; exact (r_pick_t rfl hB rfl)) ?_
    refine f_v (fun wl hbl => by have hs := hs.below_ hbl; first | exact (r_move (v := bV _) rfl) | exact (r_move rfl)) ?_
    refine f_vg (fun wl hbl => by have hs := hs.below_ hbl; first | exact (r_move (v := bV _) rfl) | exact (r_move rfl)) rfl (rfl) ?_
    refine f_vg (fun wl hbl => by have hs := hs.below_ hbl; first | exact (r_move (v := bV _) rfl) | exact (r_move rfl)) rfl (rfl) ?_
    refine f_no rfl (rfl) ?_
    refine f_no rfl (rfl) ?_
    refine f_vg (fun wl hbl => by have hs := hs.below_ hbl; exact (r_pick_t rfl rfl rfl)) rfl (rfl) ?_
    refine f_v (fun wl hbl => by have hs := hs.below_ hbl; exact (r_pick_t rfl rfl rfl)) ?_
    refine f_v (fun wl hbl => by have hs := hs.below_ hbl; first | exact (r_move (v := bV _) rfl) | exact (r_move rfl)) ?_
    refine f_vg (fun wl hbl => by have hs := hs.below_ hbl; first | exact (r_load_whole (i := 0) hs rfl Tryd.underlying25 I25 rfl (by first | assumption | (simp; done))) | exact (r_load_whole (i := 1) hs rfl Tryd.underlying25 I25 rfl (by first | assumption | (simp; done))) | exact (r_load_whole (i := 2) hs rfl Tryd.underlying25 I25 rfl (by first | assumption | (simp; done))) | exact (r_load_whole (i := 3) hs rfl Tryd.underlying25 I25 rfl (by first | assumption | (simp; done))) | exact (r_load_whole (i := 4) hs rfl Tryd.underlying25 I25 rfl (by first | assumption | (simp; done))) | exact (r_load_whole (i := 5) hs rfl Tryd.underlying25 I25 rfl (by first | assumption | (simp; done))) | exact (r_load_whole (i := 6) hs rfl Tryd.underlying25 I25 rfl (by first | assumption | (simp; done)))) rfl (rfl) ?_
    refine f_vg (fun wl hbl => by have hs := hs.below_ hbl; first | exact (r_load_whole (i := 0) hs rfl Tryd.underlying25 I25 rfl (by first | assumption | (simp; done))) | exact (r_load_whole (i := 1) hs rfl Tryd.underlying25 I25 rfl (by first | assumption | (simp; done))) | exact (r_load_whole (i := 2) hs rfl Tryd.underlying25 I25 rfl (by first | assumption | (simp; done))) | exact (r_load_whole (i := 3) hs rfl Tryd.underlying25 I25 rfl (by first | assumption | (simp; done))) | exact (r_load_whole (i := 4) hs rfl Tryd.underlying25 I25 rfl (by first | assumption | (simp; done))) | exact (r_load_whole (i := 5) hs rfl Tryd.underlying25 I25 rfl (by first | assumption | (simp; done))) | exact (r_load_whole (i := 6) hs rfl Tryd.underlying25 I25 rfl (by first | assumption | (simp; done)))) rfl (rfl) ?_
    refine f_vg (fun wl hbl => by have hs := hs.below_ hbl; exact (r_eqA (a := k) (b := k) Tryd.underlying25 Tryd.underlying5 I5 (by kernel_rfl) rfl rfl hk hk)) rfl (rfl) ?_
    refine f_v (fun wl hbl => by have hs := hs.below_ hbl; exact (r_pick_t rfl rfl rfl)) ?_
    refine f_v (fun wl hbl => by have hs := hs.below_ hbl; first | exact (r_move (v := bV _) rfl) | exact (r_move rfl)) ?_
    refine f_vg (fun wl hbl => by have hs := hs.below_ hbl; first | exact (r_move (v := iV _) rfl) | exact (r_move rfl)) rfl (hK) ?_
    refine f_vg (fun wl hbl => by have hs := hs.below_ hbl; exact (r_eqli rfl rfl)) rfl (hK) ?_
    refine f_v (fun wl hbl => by have hs := hs.below_ hbl; exact (r_pick_t rfl hK rfl)) ?_
    refine f_v (fun wl hbl => by have hs := hs.below_ hbl; first | exact (r_move (v := bV _) rfl) | exact (r_move rfl)) ?_
    refine f_vg (fun wl hbl => by have hs := hs.below_ hbl; first | exact (r_move (v := bV _) rfl) | exact (r_move rfl)) rfl (rfl) ?_
    refine f_vg (fun wl hbl => by have hs := hs.below_ hbl; exact (r_not rfl)) rfl (rfl) ?_
    refine f_vg (fun wl hbl => by have hs := hs.below_ hbl; first | exact (r_move (v := bV _) rfl) | exact (r_move rfl)) rfl (rfl) ?_
    refine f_vg (fun wl hbl => by have hs := hs.below_ hbl; first | exact (r_load_whole (i := 0) hs rfl Tryd.underlying25 I25 rfl (by first | assumption | (simp; done))) | exact (r_load_whole (i := 1) hs rfl Tryd.underlying25 I25 rfl (by first | assumption | (simp; done))) | exact (r_load_whole (i := 2) hs rfl Tryd.underlying25 I25 rfl (by first | assumption | (simp; done))) | exact (r_load_whole (i := 3) hs rfl Tryd.underlying25 I25 rfl (by first | assumption | (simp; done))) | exact (r_load_whole (i := 4) hs rfl Tryd.underlying25 I25 rfl (by first | assumption | (simp; done))) | exact (r_load_whole (i := 5) hs rfl Tryd.underlying25 I25 rfl (by first | assumption | (simp; done))) | exact (r_load_whole (i := 6) hs rfl Tryd.underlying25 I25 rfl (by first | assumption | (simp; done)))) rfl (rfl) ?_
    refine f_callg (r_call Tryd.func16 rfl rfl) rfl (rfl) ?_
    refine Calls.mono (hex_c a ha _) ?_
    rintro e w_ ⟨rfl, hb⟩
    have hbF := hbF.trans (Below.mono hb hbF.size)
    refine ⟨_, rfl, hb, ?_⟩
    refine f_vg (fun wl hbl => by have hs := hs.below_ hbl; first | exact (r_move (v := sV _) rfl) | exact (r_move rfl)) rfl (rfl) ?_
    refine f_vg (fun wl hbl => by have hs := hs.below_ hbl; exact (r_eqls rfl rfl)) rfl (rfl) ?_
    refine f_vg (fun wl hbl => by have hs := hs.below_ hbl; exact (r_pick_f rfl rfl rfl)) rfl (rfl) ?_
    refine f_v (fun wl hbl => by have hs := hs.below_ hbl; exact (r_pick_t rfl rfl rfl)) ?_
    refine f_nil ?_
    have hs := hs.below_ hbF
    show OkL _ _ _ _ (_ :: _) _ _
    refine l_v (by first | exact (r_assign (v := bV _) rfl) | exact (r_assign rfl)) ?_
    refine l_nil (nrm_then ?_)
    refine c_ret ?_
    show Fin _ _ _ _ _
    refine fin1 rfl ?_
    exact ⟨congrArg Ending.returned (congrArg Value.bool hS), hs.below⟩
  | false =>
    refine c_float [40, 5, 3, 0] 45 (by kernel_rfl) (by kernel_rfl) ?_
    intro hbF
    show OkF _ _ _ _ _ _ (_ :: _) 0 _ _
    refine f_call (r_call Tryd.func7 rfl rfl) ?_
    refine Calls.mono (awake_c _ (h0.sep (hs.below_ hbF))) ?_
    rintro e w_ ⟨rfl, hb⟩
    have hbF := hbF.trans (Below.mono hb hbF.size)
    refine ⟨_, rfl, hb, ?_⟩
    refine f_v (fun wl hbl => by have hs := hs.below_ hbl; first | exact (r_move (v := bV _) rfl) | exact (r_move rfl)) ?_
    refine f_vg (fun wl hbl => by have hs := hs.below_ hbl; first | exact (r_load_whole (i := 0) hs rfl Tryd.underlying25 I25 rfl (by first | assumption | (simp; done))) | exact (r_load_whole (i := 1) hs rfl Tryd.underlying25 I25 rfl (by first | assumption | (simp; done))) | exact (r_load_whole (i := 2) hs rfl Tryd.underlying25 I25 rfl (by first | assumption | (simp; done))) | exact (r_load_whole (i := 3) hs rfl Tryd.underlying25 I25 rfl (by first | assumption | (simp; done))) | exact (r_load_whole (i := 4) hs rfl Tryd.underlying25 I25 rfl (by first | assumption | (simp; done))) | exact (r_load_whole (i := 5) hs rfl Tryd.underlying25 I25 rfl (by first | assumption | (simp; done))) | exact (r_load_whole (i := 6) hs rfl Tryd.underlying25 I25 rfl (by first | assumption | (simp; done)))) rfl (rfl) ?_
    refine f_callg (r_call Tryd.func16 rfl rfl) rfl (rfl) ?_
    refine Calls.mono (hex_c k hk _) ?_
    rintro e w_ ⟨rfl, hb⟩
    have hbF := hbF.trans (Below.mono hb hbF.size)
    refine ⟨_, rfl, hb, ?_⟩
    refine f_vg (fun wl hbl => by have hs := hs.below_ hbl; first | exact (r_load_whole (i := 0) hs rfl Tryd.underlying25 I25 rfl (by first | assumption | (simp; done))) | exact (r_load_whole (i := 1) hs rfl Tryd.underlying25 I25 rfl (by first | assumption | (simp; done))) | exact (r_load_whole (i := 2) hs rfl Tryd.underlying25 I25 rfl (by first | assumption | (simp; done))) | exact (r_load_whole (i := 3) hs rfl Tryd.underlying25 I25 rfl (by first | assumption | (simp; done))) | exact (r_load_whole (i := 4) hs rfl Tryd.underlying25 I25 rfl (by first | assumption | (simp; done))) | exact (r_load_whole (i := 5) hs rfl Tryd.underlying25 I25 rfl (by first | assumption | (simp; done))) | exact (r_load_whole (i := 6) hs rfl Tryd.underlying25 I25 rfl (by first | assumption | (simp; done)))) rfl (rfl) ?_
    refine f_callg (r_call Tryd.func17 rfl rfl) rfl (rfl) ?_
    refine Calls.mono (refhex_c k hk _) ?_
    rintro e w_ ⟨rfl, hb⟩
    have hbF := hbF.trans (Below.mono hb hbF.size)
    refine ⟨_, rfl, hb, ?_⟩
    refine f_vg (fun wl hbl => by have hs := hs.below_ hbl; exact (r_eqls rfl rfl)) rfl (rfl) ?_
    refine f_v (fun wl hbl => by have hs := hs.below_ hbl; exact (r_pick_t rfl rfl rfl)) ?_
    refine f_v (fun wl hbl => by have hs := hs.below_ hbl; first | exact (r_move (v := bV _) rfl) | exact (r_move rfl)) ?_
    refine f_vg (fun wl hbl => by have hs := hs.below_ hbl; first | exact (r_load_whole (i := 0) hs rfl Tryd.underlying25 I25 rfl (by first | assumption | (simp; done))) | exact (r_load_whole (i := 1) hs rfl Tryd.underlying25 I25 rfl (by first | assumption | (simp; done))) | exact (r_load_whole (i := 2) hs rfl Tryd.underlying25 I25 rfl (by first | assumption | (simp; done))) | exact (r_load_whole (i := 3) hs rfl Tryd.underlying25 I25 rfl (by first | assumption | (simp; done))) | exact (r_load_whole (i := 4) hs rfl Tryd.underlying25 I25 rfl (by first | assumption | (simp; done))) | exact (r_load_whole (i := 5) hs rfl Tryd.underlying25 I25 rfl (by first | assumption | (simp; done))) | exact (r_load_whole (i := 6) hs rfl Tryd.underlying25 I25 rfl (by first | assumption | (simp; done)))) rfl (hA) ?_
    refine f_vg (fun wl hbl => by have hs := hs.below_ hbl; first | exact (r_load_whole (i := 0) hs rfl Tryd.underlying25 I25 rfl (by first | assumption | (simp; done))) | exact (r_load_whole (i := 1) hs rfl Tryd.underlying25 I25 rfl (by first | assumption | (simp; done))) | exact (r_load_whole (i := 2) hs rfl Tryd.underlying25 I25 rfl (by first | assumption | (simp; done))) | exact (r_load_whole (i := 3) hs rfl Tryd.underlying25 I25 rfl (by first | assumption | (simp; done))) | exact (r_load_whole (i := 4) hs rfl Tryd.underlying25 I25 rfl (by first | assumption | (simp; done))) | exact (r_load_whole (i := 5) hs rfl Tryd.underlying25 I25 rfl (by first | assumption | (simp; done))) | exact (r_load_whole (i := 6) hs rfl Tryd.underlying25 I25 rfl (by first | assumption | (simp; done)))) rfl (hA) ?_
    refine f_vg (fun wl hbl => by have hs := hs.below_ hbl; exact (r_eqA (a := a) (b := a) Tryd.underlying25 Tryd.underlying5 I5 (by kernel_rfl) rfl rfl ha ha)) rfl (hA) ?_
    refine f_v (fun wl hbl => by have hs := hs.below_ hbl; exact (r_pick_t rfl hA rfl)) ?_
    refine f_v (fun wl hbl => by have hs := hs.below_ hbl; first | exact (r_move (v := bV _) rfl) | exact (r_move rfl)) ?_
    refine f_vg (fun wl hbl => by have hs := hs.below_ hbl; first | exact (r_move (v := iV _) rfl) | exact (r_move rfl)) rfl (hB) ?_
    refine f_vg (fun wl hbl => by have hs := hs.below_ hbl; exact (r_eqli rfl rfl)) rfl (hB) ?_
    refine f_vg (fun wl hbl => by have hs := hs.below_ hbl; first | exact (r_move (v := bV _) rfl) | exact (r_move rfl)) rfl (hB) ?_
    refine f_vg (fun wl hbl => by have hs := hs.below_ hbl; exact (r_eqlb Tryd.underlying4 rfl rfl)) rfl (hB) ?_
    refine f_v (fun wl hbl => by have hs := hs.below_ hbl; exact (r_pick_t rfl hB rfl)) ?_
    refine f_v (fun wl hbl => by have hs := hs.below_ hbl; first | exact (r_move (v := bV _) rfl) | exact (r_move rfl)) ?_
    refine f_vg (fun wl hbl => by have hs := hs.below_ hbl; first | exact (r_move (v := bV _) rfl) | exact (r_move rfl)) rfl (rfl) ?_
    refine f_vg (fun wl hbl => by have hs := hs.below_ hbl; first | exact (r_move (v := bV _) rfl) | exact (r_move rfl)) rfl (rfl) ?_
    refine f_vg (fun wl hbl => by have hs := hs.below_ hbl; first | exact (r_move (v := iV _) rfl) | exact (r_move rfl)) rfl (rfl) ?_
    refine f_vg (fun wl hbl => by have hs := hs.below_ hbl; exact (r_eqli rfl rfl)) rfl (rfl) ?_
    refine f_vg (fun wl hbl => by have hs := hs.below_ hbl; exact (r_pick_f rfl rfl rfl)) rfl (rfl) ?_
    refine f_v (fun wl hbl => by have hs := hs.below_ hbl; exact (r_pick_t rfl rfl rfl)) ?_
    refine f_v (fun wl hbl => by have hs := hs.below_ hbl; first | exact (r_move (v := bV _) rfl) | exact (r_move rfl)) ?_
    refine f_vg (fun wl hbl => by have hs := hs.below_ hbl; first | exact (r_load_whole (i := 0) hs rfl Tryd.underlying25 I25 rfl (by first | assumption | (simp; done))) | exact (r_load_whole (i := 1) hs rfl Tryd.underlying25 I25 rfl (by first | assumption | (simp; done))) | exact (r_load_whole (i := 2) hs rfl Tryd.underlying25 I25 rfl (by first | assumption | (simp; done))) | exact (r_load_whole (i := 3) hs rfl Tryd.underlying25 I25 rfl (by first | assumption | (simp; done))) | exact (r_load_whole (i := 4) hs rfl Tryd.underlying25 I25 rfl (by first | assumption | (simp; done))) | exact (r_load_whole (i := 5) hs rfl Tryd.underlying25 I25 rfl (by first | assumption | (simp; done))) | exact (r_load_whole (i := 6) hs rfl Tryd.underlying25 I25 rfl (by first | assumption | (simp; done)))) rfl (rfl) ?_
    refine f_vg (fun wl hbl => by have hs := hs.below_ hbl; first | exact (r_load_whole (i := 0) hs rfl Tryd.underlying25 I25 rfl (by first | assumption | (simp; done))) | exact (r_load_whole (i := 1) hs rfl Tryd.underlying25 I25 rfl (by first | assumption | (simp; done))) | exact (r_load_whole (i := 2) hs rfl Tryd.underlying25 I25 rfl (by first | assumption | (simp; done))) | exact (r_load_whole (i := 3) hs rfl Tryd.underlying25 I25 rfl (by first | assumption | (simp; done))) | exact (r_load_whole (i := 4) hs rfl Tryd.underlying25 I25 rfl (by first | assumption | (simp; done))) | exact (r_load_whole (i := 5) hs rfl Tryd.underlying25 I25 rfl (by first | assumption | (simp; done))) | exact (r_load_whole (i := 6) hs rfl Tryd.underlying25 I25 rfl (by first | assumption | (simp; done)))) rfl (rfl) ?_
    refine f_vg (fun wl hbl => by have hs := hs.below_ hbl; exact (r_eqA (a := k) (b := k) Tryd.underlying25 Tryd.underlying5 I5 (by kernel_rfl) rfl rfl hk hk)) rfl (rfl) ?_
    refine f_v (fun wl hbl => by have hs := hs.below_ hbl; exact (r_pick_t rfl rfl rfl)) ?_
    refine f_v (fun wl hbl => by have hs := hs.below_ hbl; first | exact (r_move (v := bV _) rfl) | exact (r_move rfl)) ?_
    refine f_vg (fun wl hbl => by have hs := hs.below_ hbl; first | exact (r_move (v := iV _) rfl) | exact (r_move rfl)) rfl (hK) ?_
    refine f_vg (fun wl hbl => by have hs := hs.below_ hbl; exact (r_eqli rfl rfl)) rfl (hK) ?_
    refine f_v (fun wl hbl => by have hs := hs.below_ hbl; exact (r_pick_t rfl hK rfl)) ?_
    refine f_v (fun wl hbl => by have hs := hs.below_ hbl; first | exact (r_move (v := bV _) rfl) | exact (r_move rfl)) ?_
    refine f_vg (fun wl hbl => by have hs := hs.below_ hbl; first | exact (r_move (v := bV _) rfl) | exact (r_move rfl)) rfl (rfl) ?_
    refine f_vg (fun wl hbl => by have hs := hs.below_ hbl; exact (r_not rfl)) rfl (rfl) ?_
    refine f_vg (fun wl hbl => by have hs := hs.below_ hbl; first | exact (r_move (v := bV _) rfl) | exact (r_move rfl)) rfl (rfl) ?_
    refine f_no rfl (rfl) ?_
    refine f_no rfl (rfl) ?_
    refine f_no rfl (rfl) ?_
    refine f_no rfl (rfl) ?_
    refine f_vg (fun wl hbl => by have hs := hs.below_ hbl; exact (r_pick_t rfl rfl rfl)) rfl (rfl) ?_
    refine f_v (fun wl hbl => by have hs := hs.below_ hbl; exact (r_pick_t rfl rfl rfl)) ?_
    refine f_nil ?_
    have hs := hs.below_ hbF
    show OkL _ _ _ _ (_ :: _) _ _
    refine l_v (by first | exact (r_assign (v := bV _) rfl) | exact (r_assign rfl)) ?_
    refine l_nil (nrm_then ?_)
    refine c_ret ?_
    show Fin _ _ _ _ _
    refine fin1 rfl ?_
    exact ⟨rfl, hs.below⟩
end Go.Proofs.YtcnljmbjhdfblaaDoor.Sha
