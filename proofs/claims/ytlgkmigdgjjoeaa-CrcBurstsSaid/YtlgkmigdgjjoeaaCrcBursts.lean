/- The walk of the law CrcBursts. -/
import Derived.Test.YtlgkmigdgjjoeaaBurstsTake
namespace Go.Proofs.Ytlgkmigdgjjoeaa.Crc
open Go Go.RowKit Go.Proofs.Ytlgkmigdgjjoeaa.Eng Go.Proofs.Ytlgkmigdgjjoeaa.CrcFn Go.Proofs.Ytlgkmigdgjjoeaa.Bursts
set_option linter.unusedVariables false
set_option maxRecDepth 100000
set_option maxHeartbeats 1000000 in
theorem awake_c (w : World) : Calls Try.prog 7 #[] w fun e w' => e = .returned (bV true) ∧ Below w.heap.size w w' := by
  refine enter (P := Try.prog) Try.func7 rfl rfl ?_
  have hs := Sep.init w
  refine c_rseq ?_
  refine l_v (by first | exact (r_assign (v := bV _) rfl) | exact (r_assign rfl)) ?_
  refine l_nil (nrm_then ?_)
  refine c_rseq ?_
  refine l_call (r_call Try.func10 rfl rfl) ?_
  refine Calls.mono (take_c _ _ (by decide)) ?_
  rintro e w_ ⟨rfl, hb⟩
  refine ⟨_, rfl, ?_⟩
  have hs := hs.below_ hb
  clear hb
  refine l_v (r_move rfl) ?_
  refine l_v (r_extract rfl rfl) ?_
  refine l_v (r_extract rfl rfl) ?_
  refine l_v (by first | exact (r_assign (v := sV _) rfl) | exact (r_assign rfl)) ?_
  refine l_v (by first | exact (r_assign (v := iV _) rfl) | exact (r_assign rfl)) ?_
  refine l_nil (nrm_then ?_)
  refine c_rseq ?_
  refine l_lit1 [sV _, sV _] hs Try.underlying22 I9 rfl (by simp [Value.oneCell']) rfl (by decide) (by decide) ?_
  intro b7 w7 hs hB7 hlt7
  refine l_call (r_call Try.func9 rfl rfl) ?_
  refine Calls.mono (sum_c [⟨#[49, 50, 51, 52]⟩, ⟨#[53, 54, 55, 56, 57]⟩] _ _ _ (rd_blk (hs.at_ 0).1 rfl (by simp)) (by decide)) ?_
  rintro e w_ ⟨rfl, rfl⟩
  refine ⟨_, rfl, ?_⟩
  have h1 : decide (crc ([(⟨#[49, 50, 51, 52]⟩ : ByteArray), ⟨#[53, 54, 55, 56, 57]⟩].flatMap toL) = 3808858755) = true := by decide +kernel
  refine l_v (r_eql32 (b := 3808858755) rfl rfl) ?_
  refine l_v (by first | exact (r_move (v := bV _) rfl) | exact (r_move rfl)) ?_
  refine l_callg (r_call Try.func12 rfl rfl) rfl (h1) ?_
  refine Calls.mono (put_c _ _ (by decide)) ?_
  rintro e w_ ⟨rfl, hb⟩
  refine ⟨_, rfl, ?_⟩
  have hs := hs.below_ hb
  have h2 : decide (ofL (put (toL ⟨#[]⟩)) = (⟨#[0, 0, 0, 0]⟩ : ByteArray)) = true := by decide +kernel
  have h3 : (take (toL ⟨#[0, 0, 0, 1]⟩)).2 = 4 := by decide +kernel
  refine l_vg (r_eqls rfl rfl) rfl (h1) ?_
  refine l_v (r_pick_t rfl (h1) rfl) ?_
  refine l_v (by first | exact (r_move (v := bV _) rfl) | exact (r_move rfl)) ?_
  refine l_vg (by first | exact (r_move (v := iV _) rfl) | exact (r_move rfl)) rfl (h2) ?_
  refine l_vg (r_eqli rfl rfl) rfl (h2) ?_
  refine l_v (r_pick_t rfl (h2) rfl) ?_
  refine l_v (by first | exact (r_assign (v := bV _) rfl) | exact (r_assign rfl)) ?_
  refine l_nil (nrm_then ?_)
  refine c_ret ?_
  show Fin _ _ _ _ _
  refine fin1 rfl ?_
  exact ⟨congrArg Ending.returned (congrArg Value.bool (decide_eq_true h3)), hs.below⟩
theorem on_eq (m : BitVec 32) (k : Nat) : decide (m >>> k &&& 1 = 1) = on m.toNat k := by
  unfold on
  have h : (m >>> k &&& 1).toNat = m.toNat / 2 ^ k % 2 := by
    rw [BitVec.toNat_and, BitVec.toNat_ushiftRight, Nat.shiftRight_eq_div_pow]
    show _ &&& 1 = _
    rw [Nat.and_one_is_mod]
  by_cases h1 : m.toNat / 2 ^ k % 2 = 1
  · rw [decide_eq_true h1]; exact decide_eq_true (BitVec.eq_of_toNat_eq (by rw [h, h1]; rfl))
  · rw [decide_eq_false h1]; exact decide_eq_false (fun e => h1 (by rw [← h, e]; rfl))
theorem pow_bit (r : Nat) (h : r < 8) : (1 : UInt8) <<< UInt8.ofNat r = UInt8.ofNat (2 ^ r) := by
  have : ∀ r : Fin 8, (1 : UInt8) <<< UInt8.ofNat r.val = UInt8.ofNat (2 ^ r.val) := by decide
  exact this ⟨r, h⟩
theorem buf_set (l : List UInt8) (r o : Nat) (x : UInt8) (h : o < l.length) : (bufCells l r).set o (u8V x) = bufCells (l.set o x) r := by
  rw [bufCells, List.set_append_left _ _ (by simpa using h), bufCells, List.map_set]
set_option maxHeartbeats 4000000 in
theorem bursts_c (s : ByteArray) (a : Int) (M : BitVec 32) (w : World) (hz : s.size ≤ 140737488351232) :
    Calls Try.prog 6 #[.string s, iV a, u32V M] w fun e w' => e = .returned (bV true) ∧ Below w.heap.size w w' := by
  have hl := len_toL s
  refine enter (P := Try.prog) Try.func6 rfl rfl ?_
  have hs := Sep.init w
  by_cases hm : M = 0
  · have h0 : decide (M = 0) = true := decide_eq_true hm
    refine c_rseq ?_
    refine l_v (by first | exact (r_assign (v := bV _) rfl) | exact (r_assign rfl)) ?_
    refine l_nil (nrm_then ?_)
    refine c_seq ?_
    refine c_rseq ?_
    refine l_v (by first | exact (r_move (v := u32V _) rfl) | exact (r_move rfl)) ?_
    refine l_v (r_eql32 (b := 0) rfl rfl) ?_
    refine l_v (by first | exact (r_move (v := bV _) rfl) | exact (r_move rfl)) ?_
    refine l_no rfl (h0) ?_
    refine l_no rfl (h0) ?_
    refine l_no rfl (h0) ?_
    refine l_v (r_pick_t rfl (h0) rfl) ?_
    refine l_nil (nrm_then ?_)
    refine c_true rfl (rfl) ?_
    refine c_rseq ?_
    refine l_call (r_call Try.func7 rfl rfl) ?_
    refine Calls.mono (awake_c _) ?_
    rintro e w_ ⟨rfl, hb⟩
    refine ⟨_, rfl, ?_⟩
    refine l_v (by first | exact (r_assign (v := bV _) rfl) | exact (r_assign rfl)) ?_
    refine l_nil (nrm_then ?_)
    refine c_ret (ret_then ?_)
    show Fin _ _ _ _ _
    refine fin1 rfl ?_
    exact ⟨rfl, hb⟩
  · have h0 : decide (M = 0) = false := decide_eq_false hm
    refine c_rseq ?_
    refine l_v (by first | exact (r_assign (v := bV _) rfl) | exact (r_assign rfl)) ?_
    refine l_nil (nrm_then ?_)
    refine c_seq ?_
    refine c_rseq ?_
    refine l_v (by first | exact (r_move (v := u32V _) rfl) | exact (r_move rfl)) ?_
    refine l_v (r_eql32 (b := 0) rfl rfl) ?_
    refine l_v (by first | exact (r_move (v := bV _) rfl) | exact (r_move rfl)) ?_
    refine l_vg (by first | exact (r_move (v := sV _) rfl) | exact (r_move rfl)) rfl (h0) ?_
    refine l_vg (r_len_s Try.underlying9 rfl) rfl (h0) ?_
    refine l_vg (r_gtri rfl rfl) rfl (h0) ?_
    refine l_v (r_pick_f rfl (h0) rfl) ?_
    refine l_nil (nrm_then ?_)
    refine c_cond rfl (fun h => ?_) (fun h => ?_)
    · replace h := of_decide_eq_true h
      refine c_rseq ?_
      refine l_call (r_call Try.func7 rfl rfl) ?_
      refine Calls.mono (awake_c _) ?_
      rintro e w_ ⟨rfl, hb⟩
      refine ⟨_, rfl, ?_⟩
      refine l_v (by first | exact (r_assign (v := bV _) rfl) | exact (r_assign rfl)) ?_
      refine l_nil (nrm_then ?_)
      refine c_ret (ret_then ?_)
      show Fin _ _ _ _ _
      refine fin1 rfl ?_
      exact ⟨rfl, hb⟩
    · replace h := of_decide_eq_false h
      refine c_skip (nrm_then ?_)
      refine c_rseq ?_
      refine l_v (by first | exact (r_move (v := sV _) rfl) | exact (r_move rfl)) ?_
      refine l_call (r_call Try.func12 rfl rfl) ?_
      refine Calls.mono (put_c _ _ (by omega)) ?_
      rintro e w_ ⟨rfl, hb⟩
      refine ⟨_, rfl, ?_⟩
      have hs := hs.below_ hb
      have hp : (toL (ofL (put (toL s)))).length = s.size + 4 := by rw [toL_ofL]; unfold put; rw [List.length_append, four_length, hl]
      have hp2 : (ofL (put (toL s))).size = s.size + 4 := by rw [← len_toL, hp]
      refine l_cv_sb hs Try.underlying9 Try.underlying36 Try.underlying5 rfl ?_
      rw [hp2]
      intro b r w1 hs hB1 hlt1
      refine l_v (by first | exact (r_assign (v := .slice _ _ _) rfl) | exact (r_assign rfl)) ?_
      refine l_nil (nrm_then ?_)
      refine c_seq ?_
      refine c_rseq ?_
      refine l_v (by first | exact (r_move (v := .slice _ _ _) rfl) | exact (r_move rfl)) ?_
      refine l_v (r_len_l Try.underlying36 rfl) ?_
      refine l_v (r_lssi rfl rfl) ?_
      refine l_nil (nrm_then ?_)
      refine c_false rfl (decide_eq_false (by omega)) ?_
      have hN : (BitVec.ofInt 64 (8 * ((s.size + 4 : Nat) : Int))).toNat = 8 * (s.size + 4) := by rw [BitVec.toNat_ofInt]; omega
      obtain ⟨st, hst, hlt⟩ : ∃ st, (BitVec.ofInt 64 a % BitVec.ofInt 64 (8 * ((s.size + 4 : Nat) : Int))).toNat = st ∧ st < 8 * (s.size + 4) :=
        ⟨_, rfl, by rw [BitVec.toNat_umod, hN]; exact Nat.mod_lt _ (by omega)⟩
      refine c_skip (nrm_then ?_)
      refine c_rseq ?_
      refine l_v (by first | exact (r_move (v := sV _) rfl) | exact (r_move rfl)) ?_
      refine l_v (r_len_s Try.underlying9 rfl) ?_
      refine l_v (r_muli rfl rfl (by omega)) ?_
      refine l_v (by first | exact (r_assign (v := iV _) rfl) | exact (r_assign rfl)) ?_
      refine l_nil (nrm_then ?_)
      refine c_rseq ?_
      refine l_v (by first | exact (r_move (v := iV _) rfl) | exact (r_move rfl)) ?_
      refine l_v (r_cv_i64 Try.underlying3 Try.underlying37 rfl) ?_
      refine l_v (by first | exact (r_move (v := .slice _ _ _) rfl) | exact (r_move rfl)) ?_
      refine l_v (r_len_l Try.underlying36 rfl) ?_
      refine l_v (r_muli rfl rfl (by omega)) ?_
      refine l_v (r_cv_i64 Try.underlying3 Try.underlying37 rfl) ?_
      refine l_v (r_rem64 rfl rfl (by rw [hN]; omega)) ?_
      refine l_v (r_cv_64n hst Try.underlying37 Try.underlying3 rfl (by omega)) ?_
      refine l_v (by first | exact (r_assign (v := iV _) rfl) | exact (r_assign rfl)) ?_
      refine l_nil (nrm_then ?_)
      refine c_seq ?_
      refine c_rseq ?_
      refine l_v (by first | exact (r_move (v := iV _) rfl) | exact (r_move rfl)) ?_
      refine l_v (by first | exact (r_move (v := iV _) rfl) | exact (r_move rfl)) ?_
      refine l_v (r_geqi rfl rfl) ?_
      refine l_nil (nrm_then ?_)
      obtain ⟨N, hNe⟩ : ∃ N : Nat, N = if st ≥ 8 * s.size then 8 * (s.size + 4) else 8 * s.size := ⟨_, rfl⟩
      have hNb : N ≤ 8 * (s.size + 4) ∧ (N = 8 * s.size ∧ st < 8 * s.size ∨ N = 8 * (s.size + 4) ∧ 8 * s.size ≤ st) := by
        rw [hNe]; by_cases h : st ≥ 8 * s.size
        · rw [if_pos h]; omega
        · rw [if_neg h]; omega
      refine c_mid [2, 6, 7, 9] (fun f' w' => w' = w1 ∧ f' 8 = iV (N : Int)) ?_ ?_
      · skip
        refine c_cond rfl (fun h2 => ?_) (fun h2 => ?_)
        · replace h2 := of_decide_eq_true h2
          refine c_region ?_
          refine l_v (by first | exact (r_move (v := .slice _ _ _) rfl) | exact (r_move rfl)) ?_
          refine l_v (r_len_l Try.underlying36 rfl) ?_
          refine l_v (r_muli rfl rfl (by omega)) ?_
          refine l_v (by first | exact (r_assign (v := iV _) rfl) | exact (r_assign rfl)) ?_
          refine l_nil (nrm_then ?_)
          refine ⟨⟨rfl, rfl, rfl, rfl, trivial⟩, ?_⟩
          exact ⟨rfl, by rw [hNe, if_pos (by omega)]; rfl⟩
        · replace h2 := of_decide_eq_false h2
          refine c_skip (nrm_then ?_)
          refine ⟨⟨rfl, rfl, rfl, rfl, trivial⟩, ?_⟩
          exact ⟨rfl, by rw [hNe, if_neg (by omega)]; rfl⟩
      · rintro g w_ ⟨rfl, h8⟩
        show OkC _ _ _ _ _ _
        refine OkC.env ?_ (fixH (L := [(8, _)]) ⟨h8, trivial⟩)
        clear h8
        refine c_rseq ?_
        refine l_v (by first | exact (r_assign (v := bV _) rfl) | exact (r_assign rfl)) ?_
        refine l_nil (nrm_then ?_)
        refine c_seq ?_
        refine c_rseq ?_
        refine l_v (by first | exact (r_assign (v := iV _) rfl) | exact (r_assign rfl)) ?_
        refine l_nil (nrm_then ?_)
        refine c_block ?_
        refine c_loopn [2, 6, 7, 8, 9] (fun m f' w' => ∃ k, k + m = 32 ∧ k ≤ N - st ∧ f' 11 = iV (k : Int) ∧ f' 10 = bV (turn M.toNat st (put (toL s)) k).2 ∧ Eng.Sep w w' [blkF b (bufCells (turn M.toNat st (put (toL s)) k).1 r) 5 (s.size + 4 + r, s.size + 4 + r + 1)]) ?_ ?_
        · exact ⟨32, 0, rfl, Nat.zero_le _, rfl, rfl, hs⟩
        · rintro m g w_ ⟨k, hk, hkN, h11, h10, hs⟩
          refine OkC.env ?_ (fixH (L := [(11, _), (10, _)]) ⟨h11, h10, trivial⟩)
          clear h11 h10
          have hT := turn_length M.toNat st (put (toL s)) k
          have hT2 : (put (toL s)).length = s.size + 4 := by rw [← hp, toL_ofL]
          refine c_seq ?_
          refine c_seq ?_
          refine c_mid [2, 6, 7, 8, 9, 10, 11] (fun f' w' => w' = w_ ∧ f' 53 = bV (decide (k < 32 ∧ st + k < N))) ?_ ?_
          · by_cases hk32 : k < 32
            · have hkb : decide ((k : Int) < 32) = true := decide_eq_true (by omega)
              refine c_region ?_
              refine l_v (by first | exact (r_move (v := iV _) rfl) | exact (r_move rfl)) ?_
              refine l_v (r_lssi rfl rfl) ?_
              refine l_v (by first | exact (r_move (v := bV _) rfl) | exact (r_move rfl)) ?_
              refine l_vg (by first | exact (r_move (v := iV _) rfl) | exact (r_move rfl)) rfl (hkb) ?_
              refine l_vg (by first | exact (r_move (v := iV _) rfl) | exact (r_move rfl)) rfl (hkb) ?_
              refine l_vg (r_addi rfl rfl (by omega)) rfl (hkb) ?_
              refine l_vg (by first | exact (r_move (v := iV _) rfl) | exact (r_move rfl)) rfl (hkb) ?_
              refine l_vg (r_lssi rfl rfl) rfl (hkb) ?_
              refine l_v (r_pick_t rfl (hkb) rfl) ?_
              refine l_nil (nrm_then ?_)
              refine ⟨⟨rfl, rfl, rfl, rfl, rfl, rfl, rfl, trivial⟩, ?_⟩
              refine ⟨rfl, congrArg Value.bool ?_⟩
              by_cases hkn : st + k < N
              · rw [decide_eq_true (by omega : k < 32 ∧ st + k < N)]; exact decide_eq_true (by omega)
              · rw [decide_eq_false (by omega : ¬ (k < 32 ∧ st + k < N))]; exact decide_eq_false (by omega)
            · have hkb : decide ((k : Int) < 32) = false := decide_eq_false (by omega)
              refine c_region ?_
              refine l_v (by first | exact (r_move (v := iV _) rfl) | exact (r_move rfl)) ?_
              refine l_v (r_lssi rfl rfl) ?_
              refine l_v (by first | exact (r_move (v := bV _) rfl) | exact (r_move rfl)) ?_
              refine l_no rfl (hkb) ?_
              refine l_no rfl (hkb) ?_
              refine l_no rfl (hkb) ?_
              refine l_no rfl (hkb) ?_
              refine l_no rfl (hkb) ?_
              refine l_v (r_pick_f rfl (hkb) rfl) ?_
              refine l_nil (nrm_then ?_)
              refine ⟨⟨rfl, rfl, rfl, rfl, rfl, rfl, rfl, trivial⟩, ?_⟩
              exact ⟨rfl, congrArg Value.bool (decide_eq_false (by omega)).symm⟩
          · rintro g w_ ⟨rfl, h53⟩
            show OkC _ _ _ _ _ _
            refine OkC.env ?_ (fixH (L := [(53, _)]) ⟨h53, trivial⟩)
            clear h53
            refine c_cond rfl (fun hc => ?_) (fun hc => ?_)
            · replace hc := of_decide_eq_true hc
              refine c_skip (nrm_then ?_)
              refine c_seq ?_
              refine c_block ?_
              refine c_rseq ?_
              refine l_v (by first | exact (r_move (v := u32V _) rfl) | exact (r_move rfl)) ?_
              refine l_v (by first | exact (r_move (v := iV _) rfl) | exact (r_move rfl)) ?_
              refine l_v (r_shr32 rfl rfl) ?_
              refine l_v (r_and32 (b := 1) rfl rfl) ?_
              refine l_v (r_eql32 (b := 1) rfl rfl) ?_
              refine l_nil (nrm_then ?_)
              have hon := on_eq M k
              cases hb : on M.toNat k with
              | true =>
                rw [hb] at hon
                refine c_true rfl (hon) ?_
                refine c_seq ?_
                have ho : (st + k) / 8 < (turn M.toNat st (put (toL s)) k).1.length := by rw [hT, hT2]; omega
                have hv : (bufCells (turn M.toNat st (put (toL s)) k).1 r)[(st + k) / 8]? = some (u8V ((turn M.toNat st (put (toL s)) k).1.getD ((st + k) / 8) 0)) := by
                  rw [List.getElem?_append_left (by simpa using ho), List.getElem?_map, List.getD_eq_getElem?_getD, List.getElem?_eq_getElem ho]; rfl
                have ho' : (st + k) / 8 < s.size + 4 := by rw [hT, hT2] at ho; exact ho
                refine c_tail 14 (by kernel_rfl) (by kernel_rfl) ?_
                have hs := hs.drew
                show OkS _ _ _ _ _ (_ :: _) _
                refine s_v (by first | exact (r_move (v := .slice _ _ _) rfl) | exact (r_move rfl)) ?_
                refine s_v (by first | exact (r_move (v := iV _) rfl) | exact (r_move rfl)) ?_
                refine s_v (by first | exact (r_move (v := iV _) rfl) | exact (r_move rfl)) ?_
                refine s_v (r_addi rfl rfl (by omega)) ?_
                refine s_v (r_quoi rfl rfl (by omega) (by omega)) ?_
                refine s_v (r_indexAddr_o1 (k := (st + k) / 8) Try.underlying36 I5 rfl rfl ho') ?_
                refine s_v (r_load_atF (i := 0) hs rfl Try.underlying5 rfl hv) ?_
                refine s_v (by first | exact (r_move (v := iV _) rfl) | exact (r_move rfl)) ?_
                refine s_v (by first | exact (r_move (v := iV _) rfl) | exact (r_move rfl)) ?_
                refine s_v (r_addi rfl rfl (by omega)) ?_
                refine s_v (r_remi rfl rfl (by omega) (by omega)) ?_
                refine s_v (r_shl8 (a := 1) (b := (st + k) % 8) rfl rfl (by omega)) ?_
                refine s_v (r_xor8 rfl rfl) ?_
                refine s_v (r_indexAddr_o1 (k := (st + k) / 8) Try.underlying36 I5 rfl rfl ho') ?_
                refine s_nil ?_
                show OkL _ _ _ _ (_ :: _) _ _
                refine l_storeF (i := 0) hs rfl I5 rfl rfl (by simp; omega) (by omega) ?_
                intro w2 hs2
                have hT3 : turn M.toNat st (put (toL s)) (k + 1) = (flip (turn M.toNat st (put (toL s)) k).1 (st + k), true) := by rw [turn, if_pos hb]
                have hs : Eng.Sep w w2 [blkF b (bufCells (turn M.toNat st (put (toL s)) (k + 1)).1 r) 5 (s.size + 4 + r, s.size + 4 + r + 1)] := by
                  rw [hT3]
                  show Eng.Sep w w2 [blkF b (bufCells ((turn M.toNat st (put (toL s)) k).1.set _ _) r) 5 _]
                  rw [← pow_bit _ (Nat.mod_lt _ (by omega)), ← buf_set _ _ _ _ ho]
                  exact hs2
                refine l_nil (nrm_then ?_)
                refine c_region ?_
                refine l_v (by first | exact (r_assign (v := bV _) rfl) | exact (r_assign rfl)) ?_
                refine l_nil (nrm_block (nrm_then ?_))
                refine c_region ?_
                refine l_v (by first | exact (r_move (v := iV _) rfl) | exact (r_move rfl)) ?_
                refine l_v (r_addi rfl rfl (by omega)) ?_
                refine l_v (by first | exact (r_assign (v := iV _) rfl) | exact (r_assign rfl)) ?_
                refine l_nil (nrm_then ?_)
                refine ⟨⟨rfl, rfl, rfl, rfl, rfl, trivial⟩, ?_⟩
                exact ⟨31 - k, by omega, k + 1, by omega, by omega, rfl, by rw [hT3]; rfl, hs⟩
              | false =>
                rw [hb] at hon
                refine c_false rfl (hon) ?_
                refine c_skip (nrm_block (nrm_then ?_))
                refine c_region ?_
                refine l_v (by first | exact (r_move (v := iV _) rfl) | exact (r_move rfl)) ?_
                refine l_v (r_addi rfl rfl (by omega)) ?_
                refine l_v (by first | exact (r_assign (v := iV _) rfl) | exact (r_assign rfl)) ?_
                refine l_nil (nrm_then ?_)
                refine ⟨⟨rfl, rfl, rfl, rfl, rfl, trivial⟩, ?_⟩
                have hT3 : turn M.toNat st (put (toL s)) (k + 1) = turn M.toNat st (put (toL s)) k := by rw [turn, if_neg (by rw [hb]; simp)]
                exact ⟨31 - k, by omega, k + 1, by omega, by omega, rfl, by rw [hT3]; rfl, by rw [hT3]; exact hs⟩
            · replace hc := of_decide_eq_false hc
              refine c_exit (ex_then (ex_then (ex_hit (nrm_then ?_))))
              refine c_rseq ?_
              refine l_v (by first | exact (r_move (v := .slice _ _ _) rfl) | exact (r_move rfl)) ?_
              generalize hl' : turn M.toNat st (put (toL s)) k = T at *
              have hrd : Rd w_ 1 (some ⟨b, 0, none⟩) (s.size + 4) (T.1.map u8V) := ⟨by simp; omega, by omega, fun _ => ⟨_, rfl, fun j u hu => by
                rw [add_lit, Nat.zero_add, cell_blk (hs.at_ 0).1, List.getElem?_append_left (by have := (List.getElem?_eq_some_iff.1 hu).1; exact this)]; exact hu⟩⟩
              refine l_v (r_cv_bs (l := T.1) Try.underlying36 Try.underlying5 Try.underlying9 rfl hrd) ?_
              have hTl : (ofL T.1).size = s.size + 4 := by rw [← len_toL, toL_ofL]; omega
              refine l_call (r_call Try.func10 rfl rfl) ?_
              refine Calls.mono (take_c _ _ (by rw [hTl]; omega)) ?_
              rintro e w_ ⟨rfl, hb⟩
              refine ⟨_, rfl, ?_⟩
              have hs := hs.below_ hb
              have htold := told M.toNat st (toL s) k (by omega) (by omega)
              rw [hl'] at htold
              refine l_v (r_move rfl) ?_
              refine l_v (r_extract rfl rfl) ?_
              refine l_v (r_extract rfl rfl) ?_
              refine l_v (by first | exact (r_assign (v := sV _) rfl) | exact (r_assign rfl)) ?_
              refine l_v (by first | exact (r_assign (v := iV _) rfl) | exact (r_assign rfl)) ?_
              refine l_nil (nrm_then ?_)
              refine c_rseq ?_
              refine l_call (r_call Try.func7 rfl rfl) ?_
              refine Calls.mono (awake_c _) ?_
              rintro e w_ ⟨rfl, hb⟩
              refine ⟨_, rfl, ?_⟩
              have hs := hs.below_ hb
              rw [← toL_ofL T.1] at htold
              have h86 : (decide ((take (toL (ofL T.1))).2 = 4) == T.2) = true := by rw [htold]; cases T.2 <;> rfl
              cases hT2' : T.2 with
              | true =>
                rw [hT2'] at h86
                refine l_v (by first | exact (r_move (v := bV _) rfl) | exact (r_move rfl)) ?_
                refine l_vg (by first | exact (r_move (v := iV _) rfl) | exact (r_move rfl)) rfl (rfl) ?_
                refine l_vg (r_eqli rfl rfl) rfl (rfl) ?_
                refine l_vg (by first | exact (r_move (v := bV _) rfl) | exact (r_move rfl)) rfl (rfl) ?_
                refine l_vg (r_eqlb Try.underlying4 rfl rfl) rfl (rfl) ?_
                refine l_v (r_pick_t rfl (rfl) rfl) ?_
                refine l_v (by first | exact (r_move (v := bV _) rfl) | exact (r_move rfl)) ?_
                refine l_vg (by first | exact (r_move (v := bV _) rfl) | exact (r_move rfl)) rfl (h86) ?_
                refine l_vg (by first | exact (r_move (v := bV _) rfl) | exact (r_move rfl)) rfl (h86) ?_
                refine l_no rfl (rfl) ?_
                refine l_no rfl (rfl) ?_
                refine l_vg (r_pick_t rfl (rfl) rfl) rfl (h86) ?_
                refine l_v (r_pick_t rfl (h86) rfl) ?_
                refine l_v (by first | exact (r_assign (v := bV _) rfl) | exact (r_assign rfl)) ?_
                refine l_nil (nrm_then ?_)
                refine c_ret ?_
                show Fin _ _ _ _ _
                refine fin1 rfl ?_
                exact ⟨rfl, hs.below⟩
              | false =>
                rw [hT2'] at h86 htold
                have h92 : decide ((take (toL (ofL T.1))).2 = 0) = true := decide_eq_true (by rw [htold]; rfl)
                refine l_v (by first | exact (r_move (v := bV _) rfl) | exact (r_move rfl)) ?_
                refine l_vg (by first | exact (r_move (v := iV _) rfl) | exact (r_move rfl)) rfl (rfl) ?_
                refine l_vg (r_eqli rfl rfl) rfl (rfl) ?_
                refine l_vg (by first | exact (r_move (v := bV _) rfl) | exact (r_move rfl)) rfl (rfl) ?_
                refine l_vg (r_eqlb Try.underlying4 rfl rfl) rfl (rfl) ?_
                refine l_v (r_pick_t rfl (rfl) rfl) ?_
                refine l_v (by first | exact (r_move (v := bV _) rfl) | exact (r_move rfl)) ?_
                refine l_vg (by first | exact (r_move (v := bV _) rfl) | exact (r_move rfl)) rfl (h86) ?_
                refine l_vg (by first | exact (r_move (v := bV _) rfl) | exact (r_move rfl)) rfl (h86) ?_
                refine l_vg (by first | exact (r_move (v := iV _) rfl) | exact (r_move rfl)) rfl (rfl) ?_
                refine l_vg (r_eqli rfl rfl) rfl (rfl) ?_
                refine l_vg (r_pick_f rfl (rfl) rfl) rfl (h86) ?_
                refine l_v (r_pick_t rfl (h86) rfl) ?_
                refine l_v (by first | exact (r_assign (v := bV _) rfl) | exact (r_assign rfl)) ?_
                refine l_nil (nrm_then ?_)
                refine c_ret ?_
                show Fin _ _ _ _ _
                refine fin1 rfl ?_
                exact ⟨congrArg Ending.returned (congrArg Value.bool h92), hs.below⟩
theorem crcBursts_walk (w : World) (s : ByteArray) (hz : s.size ≤ 140737488351232) (a : Int) (ha : (Lit.int .i64 a).wf = true) (m : Int) (hm : (Lit.int .u32 m).wf = true) :
    Calls Try.prog 6 #[.string s, .int .i64 a, .int .u32 m] w fun e w' => e = .returned (.bool true) ∧ Below w.heap.size w w' := by
  have hb : 0 ≤ m ∧ m ≤ 4294967295 := by simpa [Lit.wf, IntKind.min, IntKind.max, IntKind.signed, IntKind.bits] using hm
  have e : Value.int .u32 m = u32V (BitVec.ofNat 32 m.toNat) := by
    show _ = Value.int .u32 _
    rw [BitVec.toNat_ofNat]
    congr 1
    omega
  rw [e]
  exact bursts_c s a _ w hz
end Go.Proofs.Ytlgkmigdgjjoeaa.Crc
