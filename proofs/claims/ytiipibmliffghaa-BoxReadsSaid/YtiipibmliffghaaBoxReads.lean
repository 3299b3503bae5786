/- The walk of the law BoxReads. -/
import Derived.Test.YtiipibmliffghaaBoxFlip
import Derived.Test.YtiipibmliffghaaFloatQ
namespace Go.Proofs.Ytiipibmliffghaa.Box
open Go Go.RowKit Go.Proofs.Ytiipibmliffghaa.Eng Go.Proofs.Ytiipibmliffghaa.Six Go.Proofs.Ytiipibmliffghaa.CrcFn Go.Proofs.Ytiipibmliffghaa.Crc Go.Proofs.Ytiipibmliffghaa.Dsk
set_option linter.unusedVariables false
set_option maxRecDepth 100000
theorem pack_short (r : Rec) (h : r.ok) : (packR r).1.length ≤ 8400 := by
  unfold packR
  split
  · simp
  · split
    · simp
    · have := body_len r h
      unfold put
      rw [List.length_append, four_length]
      omega
theorem pack_put (r : Rec) (h : (packR r).1 ≠ []) : ∃ l, (packR r).1 = put l := by
  unfold packR at *
  split
  · rename_i h1; rw [if_pos h1] at h; exact absurd rfl h
  · rename_i h1
    split
    · rename_i h2; rw [if_neg h1, if_pos h2] at h; exact absurd rfl h
    · exact ⟨_, rfl⟩
theorem open_flip {l : List UInt8} {i : Nat} {b : UInt8} (hp : ∃ q, l = put q) (hb : b ≠ 0) (hi : i < l.length) : openR (l.set i (l[i] ^^^ b)) = (Rec.zero, 4) := by
  obtain ⟨q, rfl⟩ := hp
  unfold openR
  rw [flip_take hb hi, if_pos (by decide)]
theorem buf_set (l : List UInt8) (r o : Nat) (x : UInt8) (h : o < l.length) : (bufCells l r).set o (u8V x) = bufCells (l.set o x) r := by
  rw [bufCells, List.set_append_left _ _ (by simpa using h), bufCells, List.map_set]
set_option maxHeartbeats 16000000 in
theorem reads_main {w : World} (r : Rec) (h : r.ok) (hz : r.body.length ≤ 9223372036854775807) (s : ByteArray) (hsw : s.size ≤ 140737488351232) (pf pa pn : Int) (hpa : -9223372036854775808 ≤ pa ∧ pa ≤ 9223372036854775807) (hpn : -9223372036854775808 ≤ pn ∧ pn ≤ 9223372036854775807) (a : Int) (bb : UInt8) :
    Calls Try.prog 6 #[rV r, sV s, plV pf pa pn, iV a, u8V bb] w fun e w' => e = .returned (bV true) ∧ Below w.heap.size w w' := by
  have hol := recC_length h
  have hone := rec_one r
  have hbody := rec_body r h
  have hzl := recC_length zero_ok
  have hsl := toL_size s
  refine enter (P := Try.prog) Try.func6 rfl rfl ?_
  have hs := Sep.init w
  refine c_rseq ?_
  refine l_box hs rfl ?_
  intro b5 w5 hs hB5 hlt5
  refine l_box hs rfl ?_
  intro b7 w7 hs hB7 hlt7
  refine l_v (by first | exact (r_assign (v := bV _) rfl) | exact (r_assign rfl)) ?_
  refine l_nil (nrm_then ?_)
  refine c_seq ?_
  refine c_rseq ?_
  have hs : Eng.Sep w _ [blk b7 [iV pf, iV pa, iV pn] 53, blk b5 (recC r) 25] := hs
  refine l_call (r_call Try.func9 rfl rfl) ?_
  refine Calls.mono (awake_c _) ?_
  rintro e w_ ⟨rfl, hb⟩
  refine ⟨_, rfl, ?_⟩
  have hs := hs.below_ hb
  refine l_v (r_not rfl) ?_
  refine l_v (by first | exact (r_move (v := bV _) rfl) | exact (r_move rfl)) ?_
  refine l_vg (by first | exact (r_fieldAddr0 (off := 65) (T := 9) (by kernel_rfl) rfl) | exact (r_fieldAddr (off := 65) (T := 9) (by kernel_rfl) rfl)) rfl (rfl) ?_
  refine l_vg (r_load_at (i := 1) hs rfl Try.underlying9 rfl hbody) rfl (rfl) ?_
  refine l_vg (r_len_s Try.underlying9 rfl) rfl (rfl) ?_
  refine l_vg (r_gtri rfl rfl) rfl (rfl) ?_
  refine l_v (r_pick_f rfl rfl rfl) ?_
  have hbz : (ofL r.body).size = r.body.length := rfl
  by_cases c1 : ((ofL r.body).size : Int) > 30000
  · have f1 : decide (((ofL r.body).size : Int) > 30000) = true := decide_eq_true c1
    refine l_v (by first | exact (r_move (v := bV _) rfl) | exact (r_move rfl)) ?_
    refine l_no rfl (f1) ?_
    refine l_no rfl (f1) ?_
    refine l_no rfl (f1) ?_
    refine l_v (r_pick_t rfl f1 rfl) ?_
    refine l_nil (nrm_then ?_)
    refine c_true rfl (rfl) ?_
    refine c_rseq ?_
    refine l_call (r_call Try.func9 rfl rfl) ?_
    refine Calls.mono (awake_c _) ?_
    rintro e w_ ⟨rfl, hb⟩
    refine ⟨_, rfl, ?_⟩
    have hs := hs.below_ hb
    refine l_v (by first | exact (r_assign (v := bV _) rfl) | exact (r_assign rfl)) ?_
    refine l_nil (nrm_then ?_)
    refine c_ret (ret_then ?_)
    show Fin _ _ _ _ _
    refine fin1 rfl ?_
    exact ⟨rfl, hs.below⟩
  · have f1 : decide (((ofL r.body).size : Int) > 30000) = false := decide_eq_false c1
    refine l_v (by first | exact (r_move (v := bV _) rfl) | exact (r_move rfl)) ?_
    refine l_vg (by first | exact (r_move (v := sV _) rfl) | exact (r_move rfl)) rfl (f1) ?_
    refine l_vg (r_len_s Try.underlying9 rfl) rfl (f1) ?_
    refine l_vg (r_gtri rfl rfl) rfl (f1) ?_
    refine l_v (r_pick_f rfl f1 rfl) ?_
    refine l_nil (nrm_then ?_)
    refine c_cond rfl (fun c2 => ?_) (fun c2 => ?_)
    · replace c2 := of_decide_eq_true c2
      refine c_rseq ?_
      refine l_call (r_call Try.func9 rfl rfl) ?_
      refine Calls.mono (awake_c _) ?_
      rintro e w_ ⟨rfl, hb⟩
      refine ⟨_, rfl, ?_⟩
      have hs := hs.below_ hb
      refine l_v (by first | exact (r_assign (v := bV _) rfl) | exact (r_assign rfl)) ?_
      refine l_nil (nrm_then ?_)
      refine c_ret (ret_then ?_)
      show Fin _ _ _ _ _
      refine fin1 rfl ?_
      exact ⟨rfl, hs.below⟩
    · have c2' : ¬ (s.size : Int) > 30000 := of_decide_eq_false c2
      have hps := pack_short r h
      have hpp := pack_put r
      replace c2 := of_decide_eq_false c2
      refine c_skip (nrm_then ?_)
      refine c_rseq ?_
      refine l_v (r_load_whole (i := 1) hs rfl Try.underlying25 I25 rfl hol) ?_
      refine l_call (r_call Try.func12 rfl rfl) ?_
      refine Calls.mono (rpack_c r h hz _) ?_
      rintro e w_ ⟨rfl, hb⟩
      refine ⟨_, rfl, ?_⟩
      have hs := hs.below_ hb
      generalize packR r = K at *
      have hKz : (ofL K.1).size = K.1.length := rfl
      refine l_v (r_move rfl) ?_
      refine l_v (r_extract rfl rfl) ?_
      refine l_v (r_extract rfl rfl) ?_
      refine l_v (by first | exact (r_assign (v := sV _) rfl) | exact (r_assign rfl)) ?_
      refine l_v (by first | exact (r_assign (v := iV _) rfl) | exact (r_assign rfl)) ?_
      refine l_nil (nrm_then ?_)
      refine c_rseq ?_
      refine l_call (r_call Try.func19 rfl rfl) ?_
      refine Calls.mono (new_ok 2000 0 (by decide) w _ _ hs) ?_
      rintro e w_ ⟨b, rfl, hs⟩
      refine ⟨_, rfl, ?_⟩
      refine l_v (r_move rfl) ?_
      refine l_v (r_extract rfl rfl) ?_
      refine l_v (r_extract rfl rfl) ?_
      refine l_v (r_assign (v := .pointer _) rfl) ?_
      refine l_v (by first | exact (r_assign (v := iV _) rfl) | exact (r_assign rfl)) ?_
      refine l_nil (nrm_then ?_)
      refine c_rseq ?_
      refine l_v (by first | exact (r_move (v := sV _) rfl) | exact (r_move rfl)) ?_
      refine l_v (by first | exact (r_move (v := sV _) rfl) | exact (r_move rfl)) ?_
      refine l_v (r_adds rfl rfl (by omega)) ?_
      refine l_v (by first | exact (r_assign (v := sV _) rfl) | exact (r_assign rfl)) ?_
      refine l_nil (nrm_then ?_)
      refine c_seq ?_
      refine c_rseq ?_
      refine l_v (r_move (v := .pointer _) rfl) ?_
      have hall : ofL K.1 ++ s = ofL (K.1 ++ toL s) := Eng.toL_inj (by rw [Eng.toL_append, Eng.toL_ofL, Eng.toL_ofL])
      rw [hall]
      obtain ⟨D, hD⟩ : ∃ D, D = K.1 ++ toL s := ⟨_, rfl⟩
      have hDl : D.length ≤ 40000 := by rw [hD, List.length_append]; omega
      rw [← hD]
      have hDz : (ofL D).size = D.length := rfl
      have hg0 := good_new (hot := 2000) (cold := 0) (by decide) (by decide)
      have hg1 := good_one (hot := 2000) (cold := 0) (by decide) (by decide)
      have hm := make_new (hot := 2000) (cold := 0) (by decide)
      have hadd := one_add (hot := 2000) (cold := 0) (u := 1) (st := 1) (d := []) (sr := -1) (s := D)
      rw [if_neg (by unfold blocksN; simp only [List.length_nil]; omega), List.nil_append] at hadd
      have hg2 := good_add hg1 1 D
      rw [hadd] at hg2
      refine l_call (r_call Try.func20 rfl rfl) ?_
      refine Calls.mono (make_c b (newS 2000 0) hg0 (by decide) 0 1 w _ _ hs) ?_
      rintro e w_ ⟨rfl, hs⟩
      refine ⟨_, rfl, ?_⟩
      rw [hm] at hs ⊢
      refine l_v (r_neqi rfl rfl) ?_
      refine l_v (by first | exact (r_move (v := bV _) rfl) | exact (r_move rfl)) ?_
      refine l_vg (r_move (v := .pointer _) rfl) rfl (rfl) ?_
      refine l_vg (by first | exact (r_move (v := sV _) rfl) | exact (r_move rfl)) rfl (rfl) ?_
      refine l_callg (r_call Try.func21 rfl rfl) rfl (rfl) ?_
      refine Calls.mono (add_c b _ hg1 (by decide) 1 (ofL D) (by omega) w _ _ hs) ?_
      rintro e w_ ⟨rfl, hs⟩
      refine ⟨_, rfl, ?_⟩
      rw [Eng.toL_ofL] at hs ⊢
      rw [hadd] at hs ⊢
      generalize (1 : Int) + ((blocksN (([] : List UInt8).length + D.length) : Int) - (blocksN ([] : List UInt8).length : Int)) = u at *
      refine l_vg (r_neqi rfl rfl) rfl (rfl) ?_
      refine l_v (r_pick_f rfl rfl rfl) ?_
      refine l_nil (nrm_then ?_)
      refine c_false rfl (rfl) ?_
      refine c_skip (nrm_then ?_)
      refine c_rseq ?_
      refine l_v (r_move (v := .pointer _) rfl) ?_
      refine l_v (r_load_whole (i := 1) hs rfl Try.underlying53 I53 rfl rfl) ?_
      refine l_call (r_call Try.func22 rfl rfl) ?_
      refine Calls.mono (bread_c b _ hg2 pf pa pn hpa hpn w _ _ hs) ?_
      rintro e w_ ⟨rfl, hb⟩
      refine ⟨_, rfl, ?_⟩
      have hs := hs.below_ hb
      have hXok := breadR_ok (oneS 2000 0 ⟨0, D, -1⟩ u (1 + 1)) pf pa pn
      have hX : breadR (oneS 2000 0 ⟨0, D, -1⟩ u (1 + 1)) pf pa pn = if pf ≠ 1 then (Rec.zero, 9) else if pa < 0 ∨ pn < 0 ∨ (D.length : Int) < pa ∨ (D.length : Int) - pa < pn then (Rec.zero, 1) else openR ((D.drop pa.toNat).take pn.toNat) := by
        unfold breadR
        by_cases e1 : pf = 1
        · subst e1
          rw [one_read, if_neg (c := (1 : Int) ≠ 1) (fun h => h rfl)]
          by_cases e2 : pa < 0 ∨ pn < 0 ∨ (D.length : Int) < pa ∨ (D.length : Int) - pa < pn
          · rw [if_pos e2, if_pos e2]; rfl
          · rw [if_neg e2, if_neg e2]; rfl
        · have hno := one_none 2000 0 ⟨0, D, -1⟩ u (1 + 1) pf e1
          rw [if_pos e1, read_no (by rw [hno]; decide), hno]; rfl
      generalize breadR (oneS 2000 0 ⟨0, D, -1⟩ u (1 + 1)) pf pa pn = X at *
      have hXl := recC_length hXok
      have hXo := rec_one X.1
      refine l_v (r_move rfl) ?_
      refine l_v (r_extract rfl rfl) ?_
      refine l_v (r_extract rfl rfl) ?_
      refine l_alloc hs I30 ?_
      intro b16 w16 hs hB16 hlt16
      first | refine l_store_whole (i := 0) hs rfl I30 rfl rfl (by first | assumption | (simp; done)) (by first | assumption | (simp; done)) (by first | assumption | simp [Value.oneCell']) ?_ | refine l_store_whole (i := 1) hs rfl I30 rfl rfl (by first | assumption | (simp; done)) (by first | assumption | (simp; done)) (by first | assumption | simp [Value.oneCell']) ?_ | refine l_store_whole (i := 2) hs rfl I30 rfl rfl (by first | assumption | (simp; done)) (by first | assumption | (simp; done)) (by first | assumption | simp [Value.oneCell']) ?_ | refine l_store_whole (i := 3) hs rfl I30 rfl rfl (by first | assumption | (simp; done)) (by first | assumption | (simp; done)) (by first | assumption | simp [Value.oneCell']) ?_ | refine l_store_whole (i := 4) hs rfl I30 rfl rfl (by first | assumption | (simp; done)) (by first | assumption | (simp; done)) (by first | assumption | simp [Value.oneCell']) ?_ | refine l_store_whole (i := 5) hs rfl I30 rfl rfl (by first | assumption | (simp; done)) (by first | assumption | (simp; done)) (by first | assumption | simp [Value.oneCell']) ?_ | refine l_store_whole (i := 6) hs rfl I30 rfl rfl (by first | assumption | (simp; done)) (by first | assumption | (simp; done)) (by first | assumption | simp [Value.oneCell']) ?_
      intro w_ hs
      refine l_v (by first | exact (r_assign (v := iV _) rfl) | exact (r_assign rfl)) ?_
      refine l_nil (nrm_then ?_)
      refine c_seq ?_
      have hs : Eng.Sep w w_ (blk b16 (recC X.1) 30 :: diskH b (oneS 2000 0 ⟨0, D, -1⟩ u (1 + 1)) :: blk b7 [iV pf, iV pa, iV pn] 53 :: blk b5 (recC r) 25 :: []) := hs
      refine c_mid [3, 4, 11] (fun f' w' => Eng.Sep w w' []) ?_ ?_
      · refine c_block ?_
        refine c_rseq ?_
        refine l_v (by first | exact (r_fieldAddr0 (off := 0) (T := 3) (by kernel_rfl) rfl) | exact (r_fieldAddr (off := 0) (T := 3) (by kernel_rfl) rfl)) ?_
        refine l_v (by first | exact (r_load_at (i := 0) hs rfl Try.underlying3 rfl rfl) | exact (r_load_at (i := 1) hs rfl Try.underlying3 rfl rfl) | exact (r_load_at (i := 2) hs rfl Try.underlying3 rfl rfl) | exact (r_load_at (i := 3) hs rfl Try.underlying3 rfl rfl) | exact (r_load_at (i := 4) hs rfl Try.underlying3 rfl rfl) | exact (r_load_at (i := 5) hs rfl Try.underlying3 rfl rfl) | exact (r_load_at (i := 6) hs rfl Try.underlying3 rfl rfl)) ?_
        refine l_v (r_neqi rfl rfl) ?_
        refine l_v (by first | exact (r_assign (v := bV _) rfl) | exact (r_assign rfl)) ?_
        refine l_nil (nrm_then ?_)
        refine c_cond rfl (fun d1 => ?_) (fun d1 => ?_)
        · replace d1 := of_decide_eq_true d1
          refine c_rseq ?_
          refine l_v (by first | exact (r_move (v := iV _) rfl) | exact (r_move rfl)) ?_
          refine l_v (r_neqi rfl rfl) ?_
          refine l_v (by first | exact (r_move (v := bV _) rfl) | exact (r_move rfl)) ?_
          rw [if_pos d1] at hX
          have hX1 : X.1 = Rec.zero := by rw [hX]
          have hX2 : X.2 = 9 := by rw [hX]
          have f89 : decide (X.2 ≠ 9) = false := decide_eq_false (fun h => h hX2)
          rw [hX1] at hs
          refine l_vg (r_load_whole (i := 0) hs rfl Try.underlying30 I30 rfl hzl) rfl (f89) ?_
          refine l_vg (r_build (l := []) rfl bz) rfl (f89) ?_
          refine l_vg (r_neRec zero_ok rfl rfl) rfl (f89) ?_
          refine l_v (r_pick_f rfl f89 rfl) ?_
          refine l_nil (nrm_then ?_)
          refine c_false rfl (rfl) ?_
          refine c_skip (nrm_block (nrm_then ?_))
          refine And.intro (by refine ⟨?_, ?_, ?_, trivial⟩ <;> ((conv => lhs; whnf); (try conv => rhs; whnf))) ?_
          exact hs.nil
        · have d1' := of_decide_eq_false d1
          rw [if_neg d1'] at hX
          replace d1 := of_decide_eq_false d1
          refine c_seq ?_
          refine c_mid [3, 4, 7, 10, 11, 15, 16, 17] (fun f' w' => w' = w_ ∧ f' 95 = bV (decide (pa < 0 ∨ pn < 0 ∨ (D.length : Int) < pa ∨ (D.length : Int) - pa < pn))) ?_ ?_
          · by_cases e1 : pa < 0
            · have f1 : decide (pa < 0) = true := decide_eq_true e1
              refine c_region ?_
              refine l_v (by first | exact (r_fieldAddr0 (off := 1) (T := 3) (by kernel_rfl) rfl) | exact (r_fieldAddr (off := 1) (T := 3) (by kernel_rfl) rfl)) ?_
              refine l_v (by first | exact (r_load_at (i := 0) hs rfl Try.underlying3 rfl rfl) | exact (r_load_at (i := 1) hs rfl Try.underlying3 rfl rfl) | exact (r_load_at (i := 2) hs rfl Try.underlying3 rfl rfl) | exact (r_load_at (i := 3) hs rfl Try.underlying3 rfl rfl) | exact (r_load_at (i := 4) hs rfl Try.underlying3 rfl rfl) | exact (r_load_at (i := 5) hs rfl Try.underlying3 rfl rfl) | exact (r_load_at (i := 6) hs rfl Try.underlying3 rfl rfl)) ?_
              refine l_v (r_lssi rfl rfl) ?_
              refine l_v (by first | exact (r_move (v := bV _) rfl) | exact (r_move rfl)) ?_
              refine l_no rfl (f1) ?_
              refine l_no rfl (f1) ?_
              refine l_no rfl (f1) ?_
              refine l_v (r_pick_t rfl f1 rfl) ?_
              refine l_v (by first | exact (r_move (v := bV _) rfl) | exact (r_move rfl)) ?_
              refine l_no rfl (rfl) ?_
              refine l_no rfl (rfl) ?_
              refine l_no rfl (rfl) ?_
              refine l_no rfl (rfl) ?_
              refine l_no rfl (rfl) ?_
              refine l_v (r_pick_t rfl rfl rfl) ?_
              refine l_v (by first | exact (r_move (v := bV _) rfl) | exact (r_move rfl)) ?_
              refine l_no rfl (rfl) ?_
              refine l_no rfl (rfl) ?_
              refine l_no rfl (rfl) ?_
              refine l_no rfl (rfl) ?_
              refine l_no rfl (rfl) ?_
              refine l_no rfl (rfl) ?_
              refine l_no rfl (rfl) ?_
              refine l_no rfl (rfl) ?_
              refine l_v (r_pick_t rfl rfl rfl) ?_
              refine l_v (by first | exact (r_assign (v := bV _) rfl) | exact (r_assign rfl)) ?_
              refine l_nil (nrm_then ?_)
              refine And.intro (by refine ⟨?_, ?_, ?_, ?_, ?_, ?_, ?_, ?_, trivial⟩ <;> ((conv => lhs; whnf); (try conv => rhs; whnf))) ?_
              exact ⟨rfl, congrArg bV (decide_eq_true (Or.inl e1)).symm⟩
            · have f1 : decide (pa < 0) = false := decide_eq_false e1
              by_cases e2 : pn < 0
              · have f2 : decide (pn < 0) = true := decide_eq_true e2
                refine c_region ?_
                refine l_v (by first | exact (r_fieldAddr0 (off := 1) (T := 3) (by kernel_rfl) rfl) | exact (r_fieldAddr (off := 1) (T := 3) (by kernel_rfl) rfl)) ?_
                refine l_v (by first | exact (r_load_at (i := 0) hs rfl Try.underlying3 rfl rfl) | exact (r_load_at (i := 1) hs rfl Try.underlying3 rfl rfl) | exact (r_load_at (i := 2) hs rfl Try.underlying3 rfl rfl) | exact (r_load_at (i := 3) hs rfl Try.underlying3 rfl rfl) | exact (r_load_at (i := 4) hs rfl Try.underlying3 rfl rfl) | exact (r_load_at (i := 5) hs rfl Try.underlying3 rfl rfl) | exact (r_load_at (i := 6) hs rfl Try.underlying3 rfl rfl)) ?_
                refine l_v (r_lssi rfl rfl) ?_
                refine l_v (by first | exact (r_move (v := bV _) rfl) | exact (r_move rfl)) ?_
                refine l_vg (by first | exact (r_fieldAddr0 (off := 2) (T := 3) (by kernel_rfl) rfl) | exact (r_fieldAddr (off := 2) (T := 3) (by kernel_rfl) rfl)) rfl (f1) ?_
                refine l_vg (by first | exact (r_load_at (i := 0) hs rfl Try.underlying3 rfl rfl) | exact (r_load_at (i := 1) hs rfl Try.underlying3 rfl rfl) | exact (r_load_at (i := 2) hs rfl Try.underlying3 rfl rfl) | exact (r_load_at (i := 3) hs rfl Try.underlying3 rfl rfl) | exact (r_load_at (i := 4) hs rfl Try.underlying3 rfl rfl) | exact (r_load_at (i := 5) hs rfl Try.underlying3 rfl rfl) | exact (r_load_at (i := 6) hs rfl Try.underlying3 rfl rfl)) rfl (f1) ?_
                refine l_vg (r_lssi rfl rfl) rfl (f1) ?_
                refine l_v (r_pick_f rfl f1 rfl) ?_
                refine l_v (by first | exact (r_move (v := bV _) rfl) | exact (r_move rfl)) ?_
                refine l_no rfl (f2) ?_
                refine l_no rfl (f2) ?_
                refine l_no rfl (f2) ?_
                refine l_no rfl (f2) ?_
                refine l_no rfl (f2) ?_
                refine l_v (r_pick_t rfl f2 rfl) ?_
                refine l_v (by first | exact (r_move (v := bV _) rfl) | exact (r_move rfl)) ?_
                refine l_no rfl (rfl) ?_
                refine l_no rfl (rfl) ?_
                refine l_no rfl (rfl) ?_
                refine l_no rfl (rfl) ?_
                refine l_no rfl (rfl) ?_
                refine l_no rfl (rfl) ?_
                refine l_no rfl (rfl) ?_
                refine l_no rfl (rfl) ?_
                refine l_v (r_pick_t rfl rfl rfl) ?_
                refine l_v (by first | exact (r_assign (v := bV _) rfl) | exact (r_assign rfl)) ?_
                refine l_nil (nrm_then ?_)
                refine And.intro (by refine ⟨?_, ?_, ?_, ?_, ?_, ?_, ?_, ?_, trivial⟩ <;> ((conv => lhs; whnf); (try conv => rhs; whnf))) ?_
                exact ⟨rfl, congrArg bV (decide_eq_true (Or.inr (Or.inl e2))).symm⟩
              · have f2 : decide (pn < 0) = false := decide_eq_false e2
                by_cases e3 : pa > ((ofL D).size : Int)
                · have f3 : decide (pa > ((ofL D).size : Int)) = true := decide_eq_true e3
                  refine c_region ?_
                  refine l_v (by first | exact (r_fieldAddr0 (off := 1) (T := 3) (by kernel_rfl) rfl) | exact (r_fieldAddr (off := 1) (T := 3) (by kernel_rfl) rfl)) ?_
                  refine l_v (by first | exact (r_load_at (i := 0) hs rfl Try.underlying3 rfl rfl) | exact (r_load_at (i := 1) hs rfl Try.underlying3 rfl rfl) | exact (r_load_at (i := 2) hs rfl Try.underlying3 rfl rfl) | exact (r_load_at (i := 3) hs rfl Try.underlying3 rfl rfl) | exact (r_load_at (i := 4) hs rfl Try.underlying3 rfl rfl) | exact (r_load_at (i := 5) hs rfl Try.underlying3 rfl rfl) | exact (r_load_at (i := 6) hs rfl Try.underlying3 rfl rfl)) ?_
                  refine l_v (r_lssi rfl rfl) ?_
                  refine l_v (by first | exact (r_move (v := bV _) rfl) | exact (r_move rfl)) ?_
                  refine l_vg (by first | exact (r_fieldAddr0 (off := 2) (T := 3) (by kernel_rfl) rfl) | exact (r_fieldAddr (off := 2) (T := 3) (by kernel_rfl) rfl)) rfl (f1) ?_
                  refine l_vg (by first | exact (r_load_at (i := 0) hs rfl Try.underlying3 rfl rfl) | exact (r_load_at (i := 1) hs rfl Try.underlying3 rfl rfl) | exact (r_load_at (i := 2) hs rfl Try.underlying3 rfl rfl) | exact (r_load_at (i := 3) hs rfl Try.underlying3 rfl rfl) | exact (r_load_at (i := 4) hs rfl Try.underlying3 rfl rfl) | exact (r_load_at (i := 5) hs rfl Try.underlying3 rfl rfl) | exact (r_load_at (i := 6) hs rfl Try.underlying3 rfl rfl)) rfl (f1) ?_
                  refine l_vg (r_lssi rfl rfl) rfl (f1) ?_
                  refine l_v (r_pick_f rfl f1 rfl) ?_
                  refine l_v (by first | exact (r_move (v := bV _) rfl) | exact (r_move rfl)) ?_
                  refine l_vg (by first | exact (r_fieldAddr0 (off := 1) (T := 3) (by kernel_rfl) rfl) | exact (r_fieldAddr (off := 1) (T := 3) (by kernel_rfl) rfl)) rfl (f2) ?_
                  refine l_vg (by first | exact (r_load_at (i := 0) hs rfl Try.underlying3 rfl rfl) | exact (r_load_at (i := 1) hs rfl Try.underlying3 rfl rfl) | exact (r_load_at (i := 2) hs rfl Try.underlying3 rfl rfl) | exact (r_load_at (i := 3) hs rfl Try.underlying3 rfl rfl) | exact (r_load_at (i := 4) hs rfl Try.underlying3 rfl rfl) | exact (r_load_at (i := 5) hs rfl Try.underlying3 rfl rfl) | exact (r_load_at (i := 6) hs rfl Try.underlying3 rfl rfl)) rfl (f2) ?_
                  refine l_vg (by first | exact (r_move (v := sV _) rfl) | exact (r_move rfl)) rfl (f2) ?_
                  refine l_vg (r_len_s Try.underlying9 rfl) rfl (f2) ?_
                  refine l_vg (r_gtri rfl rfl) rfl (f2) ?_
                  refine l_v (r_pick_f rfl f2 rfl) ?_
                  refine l_v (by first | exact (r_move (v := bV _) rfl) | exact (r_move rfl)) ?_
                  refine l_no rfl (f3) ?_
                  refine l_no rfl (f3) ?_
                  refine l_no rfl (f3) ?_
                  refine l_no rfl (f3) ?_
                  refine l_no rfl (f3) ?_
                  refine l_no rfl (f3) ?_
                  refine l_no rfl (f3) ?_
                  refine l_no rfl (f3) ?_
                  refine l_v (r_pick_t rfl f3 rfl) ?_
                  refine l_v (by first | exact (r_assign (v := bV _) rfl) | exact (r_assign rfl)) ?_
                  refine l_nil (nrm_then ?_)
                  refine And.intro (by refine ⟨?_, ?_, ?_, ?_, ?_, ?_, ?_, ?_, trivial⟩ <;> ((conv => lhs; whnf); (try conv => rhs; whnf))) ?_
                  exact ⟨rfl, congrArg bV (decide_eq_true (Or.inr (Or.inr (Or.inl (by omega))))).symm⟩
                · have f3 : decide (pa > ((ofL D).size : Int)) = false := decide_eq_false e3
                  refine c_region ?_
                  refine l_v (by first | exact (r_fieldAddr0 (off := 1) (T := 3) (by kernel_rfl) rfl) | exact (r_fieldAddr (off := 1) (T := 3) (by kernel_rfl) rfl)) ?_
                  refine l_v (by first | exact (r_load_at (i := 0) hs rfl Try.underlying3 rfl rfl) | exact (r_load_at (i := 1) hs rfl Try.underlying3 rfl rfl) | exact (r_load_at (i := 2) hs rfl Try.underlying3 rfl rfl) | exact (r_load_at (i := 3) hs rfl Try.underlying3 rfl rfl) | exact (r_load_at (i := 4) hs rfl Try.underlying3 rfl rfl) | exact (r_load_at (i := 5) hs rfl Try.underlying3 rfl rfl) | exact (r_load_at (i := 6) hs rfl Try.underlying3 rfl rfl)) ?_
                  refine l_v (r_lssi rfl rfl) ?_
                  refine l_v (by first | exact (r_move (v := bV _) rfl) | exact (r_move rfl)) ?_
                  refine l_vg (by first | exact (r_fieldAddr0 (off := 2) (T := 3) (by kernel_rfl) rfl) | exact (r_fieldAddr (off := 2) (T := 3) (by kernel_rfl) rfl)) rfl (f1) ?_
                  refine l_vg (by first | exact (r_load_at (i := 0) hs rfl Try.underlying3 rfl rfl) | exact (r_load_at (i := 1) hs rfl Try.underlying3 rfl rfl) | exact (r_load_at (i := 2) hs rfl Try.underlying3 rfl rfl) | exact (r_load_at (i := 3) hs rfl Try.underlying3 rfl rfl) | exact (r_load_at (i := 4) hs rfl Try.underlying3 rfl rfl) | exact (r_load_at (i := 5) hs rfl Try.underlying3 rfl rfl) | exact (r_load_at (i := 6) hs rfl Try.underlying3 rfl rfl)) rfl (f1) ?_
                  refine l_vg (r_lssi rfl rfl) rfl (f1) ?_
                  refine l_v (r_pick_f rfl f1 rfl) ?_
                  refine l_v (by first | exact (r_move (v := bV _) rfl) | exact (r_move rfl)) ?_
                  refine l_vg (by first | exact (r_fieldAddr0 (off := 1) (T := 3) (by kernel_rfl) rfl) | exact (r_fieldAddr (off := 1) (T := 3) (by kernel_rfl) rfl)) rfl (f2) ?_
                  refine l_vg (by first | exact (r_load_at (i := 0) hs rfl Try.underlying3 rfl rfl) | exact (r_load_at (i := 1) hs rfl Try.underlying3 rfl rfl) | exact (r_load_at (i := 2) hs rfl Try.underlying3 rfl rfl) | exact (r_load_at (i := 3) hs rfl Try.underlying3 rfl rfl) | exact (r_load_at (i := 4) hs rfl Try.underlying3 rfl rfl) | exact (r_load_at (i := 5) hs rfl Try.underlying3 rfl rfl) | exact (r_load_at (i := 6) hs rfl Try.underlying3 rfl rfl)) rfl (f2) ?_
                  refine l_vg (by first | exact (r_move (v := sV _) rfl) | exact (r_move rfl)) rfl (f2) ?_
                  refine l_vg (r_len_s Try.underlying9 rfl) rfl (f2) ?_
                  refine l_vg (r_gtri rfl rfl) rfl (f2) ?_
                  refine l_v (r_pick_f rfl f2 rfl) ?_
                  refine l_v (by first | exact (r_move (v := bV _) rfl) | exact (r_move rfl)) ?_
                  refine l_vg (by first | exact (r_fieldAddr0 (off := 2) (T := 3) (by kernel_rfl) rfl) | exact (r_fieldAddr (off := 2) (T := 3) (by kernel_rfl) rfl)) rfl (f3) ?_
                  refine l_vg (by first | exact (r_load_at (i := 0) hs rfl Try.underlying3 rfl rfl) | exact (r_load_at (i := 1) hs rfl Try.underlying3 rfl rfl) | exact (r_load_at (i := 2) hs rfl Try.underlying3 rfl rfl) | exact (r_load_at (i := 3) hs rfl Try.underlying3 rfl rfl) | exact (r_load_at (i := 4) hs rfl Try.underlying3 rfl rfl) | exact (r_load_at (i := 5) hs rfl Try.underlying3 rfl rfl) | exact (r_load_at (i := 6) hs rfl Try.underlying3 rfl rfl)) rfl (f3) ?_
                  refine l_vg (by first | exact (r_move (v := sV _) rfl) | exact (r_move rfl)) rfl (f3) ?_
                  refine l_vg (r_len_s Try.underlying9 rfl) rfl (f3) ?_
                  refine l_vg (by first | exact (r_fieldAddr0 (off := 1) (T := 3) (by kernel_rfl) rfl) | exact (r_fieldAddr (off := 1) (T := 3) (by kernel_rfl) rfl)) rfl (f3) ?_
                  refine l_vg (by first | exact (r_load_at (i := 0) hs rfl Try.underlying3 rfl rfl) | exact (r_load_at (i := 1) hs rfl Try.underlying3 rfl rfl) | exact (r_load_at (i := 2) hs rfl Try.underlying3 rfl rfl) | exact (r_load_at (i := 3) hs rfl Try.underlying3 rfl rfl) | exact (r_load_at (i := 4) hs rfl Try.underlying3 rfl rfl) | exact (r_load_at (i := 5) hs rfl Try.underlying3 rfl rfl) | exact (r_load_at (i := 6) hs rfl Try.underlying3 rfl rfl)) rfl (f3) ?_
                  refine l_vg (r_subi rfl rfl (by omega)) rfl (f3) ?_
                  refine l_vg (r_gtri rfl rfl) rfl (f3) ?_
                  refine l_v (r_pick_f rfl f3 rfl) ?_
                  refine l_v (by first | exact (r_assign (v := bV _) rfl) | exact (r_assign rfl)) ?_
                  refine l_nil (nrm_then ?_)
                  refine And.intro (by refine ⟨?_, ?_, ?_, ?_, ?_, ?_, ?_, ?_, trivial⟩ <;> ((conv => lhs; whnf); (try conv => rhs; whnf))) ?_
                  exact ⟨rfl, congrArg bV (decide_eq_decide.2 (by omega))⟩
          · rintro g w_ ⟨rfl, h95⟩
            show OkC _ _ _ _ _ _
            refine OkC.env ?_ (fixH (L := [(95, _)]) ⟨h95, trivial⟩)
            clear h95
            refine c_cond rfl (fun d2 => ?_) (fun d2 => ?_)
            · replace d2 := of_decide_eq_true d2
              refine c_rseq ?_
              refine l_v (by first | exact (r_move (v := iV _) rfl) | exact (r_move rfl)) ?_
              refine l_v (r_neqi rfl rfl) ?_
              refine l_v (by first | exact (r_move (v := bV _) rfl) | exact (r_move rfl)) ?_
              rw [if_pos d2] at hX
              have hX1 : X.1 = Rec.zero := by rw [hX]
              have hX2 : X.2 = 1 := by rw [hX]
              have f122 : decide (X.2 ≠ 1) = false := decide_eq_false (fun h => h hX2)
              rw [hX1] at hs
              refine l_vg (r_load_whole (i := 0) hs rfl Try.underlying30 I30 rfl hzl) rfl (f122) ?_
              refine l_vg (r_build (l := []) rfl bz) rfl (f122) ?_
              refine l_vg (r_neRec zero_ok rfl rfl) rfl (f122) ?_
              refine l_v (r_pick_f rfl f122 rfl) ?_
              refine l_nil (nrm_then ?_)
              refine c_false rfl (rfl) ?_
              refine c_skip (nrm_block (nrm_then ?_))
              refine And.intro (by refine ⟨?_, ?_, ?_, trivial⟩ <;> ((conv => lhs; whnf); (try conv => rhs; whnf))) ?_
              exact hs.nil
            · have d2' := of_decide_eq_false d2
              rw [if_neg d2'] at hX
              have hA : (ofL D).extract pa.toNat (ofL D).size = ofL (D.drop pa.toNat) := Eng.toL_inj (by rw [Eng.toL_extract, Eng.toL_ofL, Eng.toL_ofL, List.take_of_length_le (by rw [List.length_drop]; omega)])
              have hB : (ofL (D.drop pa.toNat)).extract 0 pn.toNat = ofL ((D.drop pa.toNat).take pn.toNat) := Eng.toL_inj (by rw [Eng.toL_extract, Eng.toL_ofL, Eng.toL_ofL]; simp)
              have hAz : (ofL (D.drop pa.toNat)).size = D.length - pa.toNat := by show (D.drop pa.toNat).length = _; rw [List.length_drop]
              have hBz : (ofL ((D.drop pa.toNat).take pn.toNat)).size ≤ 9223372036854775800 := by show ((D.drop pa.toNat).take pn.toNat).length ≤ _; rw [List.length_take, List.length_drop]; omega
              have hro : ∀ w', Calls Try.prog 15 #[sV (((ofL D).extract pa.toNat (ofL D).size).extract 0 pn.toNat)] w' fun e w'' => e = .returned (.tuple #[rV X.1, iV X.2]) ∧ Below w'.heap.size w' w'' := fun w' => by
                rw [hA, hB, hX]
                have := ropen_c (ofL ((D.drop pa.toNat).take pn.toNat)) hBz w'
                rwa [Eng.toL_ofL] at this
              replace d2 := of_decide_eq_false d2
              refine c_seq ?_
              refine c_floatQ [12, 11] [7] 13 (by kernel_rfl) (by kernel_rfl) (by kernel_rfl) ?_
              intro hbF
              show OkQ _ _ _ _ _ _ _ (_ :: _) 0 _ _
              refine q_v (fun wl hbl => by have hs := hs.below_ hbl; first | exact (r_move (v := sV _) rfl) | exact (r_move rfl)) ?_
              refine q_v (fun wl hbl => by have hs := hs.below_ hbl; first | exact (r_fieldAddr0 (off := 1) (T := 3) (by kernel_rfl) rfl) | exact (r_fieldAddr (off := 1) (T := 3) (by kernel_rfl) rfl)) ?_
              refine q_v (fun wl hbl => by have hs := hs.below_ hbl; first | exact (r_load_at (i := 0) hs rfl Try.underlying3 rfl rfl) | exact (r_load_at (i := 1) hs rfl Try.underlying3 rfl rfl) | exact (r_load_at (i := 2) hs rfl Try.underlying3 rfl rfl) | exact (r_load_at (i := 3) hs rfl Try.underlying3 rfl rfl) | exact (r_load_at (i := 4) hs rfl Try.underlying3 rfl rfl) | exact (r_load_at (i := 5) hs rfl Try.underlying3 rfl rfl) | exact (r_load_at (i := 6) hs rfl Try.underlying3 rfl rfl)) ?_
              refine q_v (fun wl hbl => by have hs := hs.below_ hbl; exact (r_slice_sl pa Try.underlying9 rfl rfl (by omega))) ?_
              refine q_v (fun wl hbl => by have hs := hs.below_ hbl; first | exact (r_fieldAddr0 (off := 2) (T := 3) (by kernel_rfl) rfl) | exact (r_fieldAddr (off := 2) (T := 3) (by kernel_rfl) rfl)) ?_
              refine q_v (fun wl hbl => by have hs := hs.below_ hbl; first | exact (r_load_at (i := 0) hs rfl Try.underlying3 rfl rfl) | exact (r_load_at (i := 1) hs rfl Try.underlying3 rfl rfl) | exact (r_load_at (i := 2) hs rfl Try.underlying3 rfl rfl) | exact (r_load_at (i := 3) hs rfl Try.underlying3 rfl rfl) | exact (r_load_at (i := 4) hs rfl Try.underlying3 rfl rfl) | exact (r_load_at (i := 5) hs rfl Try.underlying3 rfl rfl) | exact (r_load_at (i := 6) hs rfl Try.underlying3 rfl rfl)) ?_
              refine q_v (fun wl hbl => by have hs := hs.below_ hbl; exact (r_slice_sh pn Try.underlying9 rfl rfl (by rw [hA]; omega))) ?_
              refine q_call (.tuple #[rV X.1, iV X.2]) (fun w' => r_call Try.func15 rfl rfl) (fun w' hb' => hro w') ?_
              refine q_v (fun wl hbl => by have hs := hs.below_ hbl; exact (r_move rfl)) ?_
              refine q_v (fun wl hbl => by have hs := hs.below_ hbl; exact (r_extract rfl rfl)) ?_
              refine q_v (fun wl hbl => by have hs := hs.below_ hbl; exact (r_extract rfl rfl)) ?_
              refine q_alloc (fun w' hb' => hs.below_ hb') I25 ?_
              intro b18 w18 hsN hsW hB18
              refine q_store_whole hsN hsW I25 rfl rfl hXl hzl hXo ?_
              intro w18s hsN hB18s
              refine q_nil ?_
              intro wq cq eq
              have hs := hsN.below_ eq
              show OkL _ _ _ _ (_ :: _) _ _
              refine l_v (by first | exact (r_assign (v := iV _) rfl) | exact (r_assign rfl)) ?_
              refine l_nil (nrm_then ?_)
              refine c_seq ?_
              have hs : Eng.Sep w wq (blk b18 (recC X.1) 25 :: blk b16 (recC X.1) 30 :: []) := by
                have h1 : Eng.Sep w wq (blk b18 (recC X.1) 25 :: blk b16 (recC X.1) 30 :: diskH b (oneS 2000 0 ⟨0, D, -1⟩ u (1 + 1)) :: blk b7 [iV pf, iV pa, iV pn] 53 :: blk b5 (recC r) 25 :: []) := hs
                exact (((h1.pull 4).drop.pull 3).drop.pull 2).drop
              refine c_float [2] 7 (by kernel_rfl) (by kernel_rfl) ?_
              intro hbF
              show OkF _ _ _ _ _ _ (_ :: _) 0 _ _
              refine f_v (fun wl hbl => by have hs := hs.below_ hbl; exact (r_load_whole (i := 1) hs rfl Try.underlying30 I30 rfl hXl)) ?_
              refine f_v (fun wl hbl => by have hs := hs.below_ hbl; exact (r_load_whole (i := 0) hs rfl Try.underlying25 I25 rfl hXl)) ?_
              refine f_call (r_call Try.func11 rfl rfl) ?_
              refine Calls.mono (theirs_c X.1 hXok _) ?_
              rintro e w_ ⟨rfl, hb⟩
              have hbF := hbF.trans (Below.mono hb hbF.size)
              refine ⟨_, rfl, hb, ?_⟩
              refine f_v (fun wl hbl => by have hs := hs.below_ hbl; exact (r_neRec hXok rfl rfl)) ?_
              refine f_v (fun wl hbl => by have hs := hs.below_ hbl; first | exact (r_move (v := bV _) rfl) | exact (r_move rfl)) ?_
              refine f_vg (fun wl hbl => by have hs := hs.below_ hbl; first | exact (r_move (v := iV _) rfl) | exact (r_move rfl)) rfl (rfl) ?_
              refine f_vg (fun wl hbl => by have hs := hs.below_ hbl; first | exact (r_move (v := iV _) rfl) | exact (r_move rfl)) rfl (rfl) ?_
              refine f_nil ?_
              have hs := hs.below_ hbF
              show OkL _ _ _ _ (_ :: _) _ _
              refine l_vg (r_neqi rfl rfl) rfl (rfl) ?_
              refine l_v (r_pick_f rfl rfl rfl) ?_
              refine l_nil (nrm_then ?_)
              refine c_false rfl ((decide_eq_false (fun h => h rfl))) ?_
              refine c_skip (nrm_block (nrm_then ?_))
              refine And.intro (by refine ⟨?_, ?_, ?_, trivial⟩ <;> ((conv => lhs; whnf); (try conv => rhs; whnf))) ?_
              exact hs.nil
      · rintro g w_ hs
        show OkC _ _ _ _ _ _
        refine c_seq ?_
        refine c_rseq ?_
        refine l_v (by first | exact (r_move (v := sV _) rfl) | exact (r_move rfl)) ?_
        refine l_v (r_len_s Try.underlying9 rfl) ?_
        refine l_v (r_eqli rfl rfl) ?_
        by_cases k1 : (K.1.length : Int) = 0
        · have f130 : decide (((ofL K.1).size : Int) = 0) = true := decide_eq_true k1
          refine l_v (by first | exact (r_move (v := bV _) rfl) | exact (r_move rfl)) ?_
          refine l_no rfl (f130) ?_
          refine l_no rfl (f130) ?_
          refine l_v (r_pick_t rfl f130 rfl) ?_
          refine l_nil (nrm_then ?_)
          refine c_true rfl (rfl) ?_
          refine c_rseq ?_
          refine l_v (by first | exact (r_assign (v := bV _) rfl) | exact (r_assign rfl)) ?_
          refine l_nil (nrm_then ?_)
          refine c_ret (ret_then ?_)
          show Fin _ _ _ _ _
          refine fin1 rfl ?_
          exact ⟨rfl, hs.below⟩
        · have f130 : decide (((ofL K.1).size : Int) = 0) = false := decide_eq_false k1
          refine l_v (by first | exact (r_move (v := bV _) rfl) | exact (r_move rfl)) ?_
          refine l_vg (by first | exact (r_move (v := u8V _) rfl) | exact (r_move rfl)) rfl (f130) ?_
          refine l_vg (r_eql8 (b := 0) rfl rfl) rfl (f130) ?_
          refine l_v (r_pick_f rfl f130 rfl) ?_
          refine l_nil (nrm_then ?_)
          refine c_cond rfl (fun hb0 => ?_) (fun hb0 => ?_)
          · replace hb0 := of_decide_eq_true hb0
            refine c_rseq ?_
            refine l_v (by first | exact (r_assign (v := bV _) rfl) | exact (r_assign rfl)) ?_
            refine l_nil (nrm_then ?_)
            refine c_ret (ret_then ?_)
            show Fin _ _ _ _ _
            refine fin1 rfl ?_
            exact ⟨rfl, hs.below⟩
          · have hb0' : bb ≠ 0 := of_decide_eq_false hb0
            have hne : K.1 ≠ [] := fun h => k1 (by rw [h]; rfl)
            replace hb0 := of_decide_eq_false hb0
            refine c_skip (nrm_then ?_)
            refine c_rseq ?_
            refine l_v (by first | exact (r_move (v := sV _) rfl) | exact (r_move rfl)) ?_
            refine l_cv_sb hs Try.underlying9 Try.underlying61 Try.underlying5 rfl ?_
            intro b rr w136 hs hB136 hlt136
            rw [Eng.toL_ofL, hKz] at hs
            rw [hKz]
            have hN : (BitVec.ofInt 64 (K.1.length : Int)).toNat = K.1.length := by rw [BitVec.toNat_ofInt]; omega
            obtain ⟨st, hst, hlt⟩ : ∃ st, (BitVec.ofInt 64 a % BitVec.ofInt 64 (K.1.length : Int)).toNat = st ∧ st < K.1.length :=
              ⟨_, rfl, by rw [BitVec.toNat_umod, hN]; exact Nat.mod_lt _ (by omega)⟩
            have hv : (bufCells K.1 rr)[st]? = some (u8V K.1[st]) := by
              rw [List.getElem?_append_left (by simpa using hlt), List.getElem?_map, List.getElem?_eq_getElem hlt]; rfl
            refine l_v (by first | exact (r_assign (v := .slice _ _ _) rfl) | exact (r_assign rfl)) ?_
            refine l_nil (nrm_then ?_)
            refine c_rseq ?_
            refine l_v (by first | exact (r_move (v := .slice _ _ _) rfl) | exact (r_move rfl)) ?_
            refine l_v (by first | exact (r_move (v := iV _) rfl) | exact (r_move rfl)) ?_
            refine l_v (r_cv_i64 Try.underlying3 Try.underlying62 rfl) ?_
            refine l_v (by first | exact (r_move (v := .slice _ _ _) rfl) | exact (r_move rfl)) ?_
            refine l_v (r_len_l Try.underlying61 rfl) ?_
            refine l_v (r_cv_i64 Try.underlying3 Try.underlying62 rfl) ?_
            refine l_v (r_rem64 rfl rfl (by rw [hN]; omega)) ?_
            refine l_v (r_cv_64n hst Try.underlying62 Try.underlying3 rfl (by omega)) ?_
            refine l_v (r_indexAddr_o1 (k := st) Try.underlying61 I5 rfl rfl hlt) ?_
            refine l_v (r_load_atF (i := 0) hs rfl Try.underlying5 rfl hv) ?_
            refine l_v (by first | exact (r_move (v := u8V _) rfl) | exact (r_move rfl)) ?_
            refine l_v (r_xor8 rfl rfl) ?_
            refine l_v (r_indexAddr_o1 (k := st) Try.underlying61 I5 rfl rfl hlt) ?_
            refine l_storeF (i := 0) hs rfl I5 rfl rfl (by simp; omega) (by omega) ?_
            intro w149 hs
            have hbuf := buf_set K.1 rr st (K.1[st] ^^^ bb) hlt
            have hs : Eng.Sep w w149 (blkF b (bufCells (K.1.set st (K.1[st] ^^^ bb)) rr) 5 (K.1.length + rr, K.1.length + rr + 1) :: []) := by
              rw [← hbuf]; exact hs
            have hflip := open_flip (hpp hne) hb0' hlt
            have hsl2 : (K.1.set st (K.1[st] ^^^ bb)).length = K.1.length := List.length_set ..
            generalize K.1.set st (K.1[st] ^^^ bb) = SS at *
            have hrdS : Rd w149 1 (some ⟨b, 0, none⟩) K.1.length (SS.map u8V) := ⟨by simp; omega, by omega, fun _ => ⟨_, rfl, fun j u hu => by
              rw [add_lit, Nat.zero_add, cell_blk (hs.at_ 0).1, List.getElem?_append_left (by have := (List.getElem?_eq_some_iff.1 hu).1; exact this)]; exact hu⟩⟩
            have hSz : (ofL SS).size = K.1.length := hsl2
            refine l_nil (nrm_then ?_)
            refine c_rseq ?_
            refine l_v (by first | exact (r_move (v := .slice _ _ _) rfl) | exact (r_move rfl)) ?_
            refine l_v (r_cv_bs (l := SS) Try.underlying61 Try.underlying5 Try.underlying9 rfl hrdS) ?_
            refine l_call (r_call Try.func14 rfl rfl) ?_
            refine Calls.mono (open_c (ofL SS) (by omega) _) ?_
            rintro e w_ ⟨rfl, hb⟩
            refine ⟨_, rfl, ?_⟩
            have hs := hs.below_ hb
            rw [Eng.toL_ofL, hflip]
            refine l_v (r_move rfl) ?_
            refine l_v (r_extract rfl rfl) ?_
            refine l_v (r_extract rfl rfl) ?_
            refine l_alloc hs I30 ?_
            intro b21 w21 hs hB21 hlt21
            refine l_store_whole (i := 0) hs rfl I30 rfl rfl hzl hzl (rec_one _) ?_
            intro w21s hs
            refine l_v (by first | exact (r_assign (v := iV _) rfl) | exact (r_assign rfl)) ?_
            refine l_nil (nrm_then ?_)
            refine c_rseq ?_
            refine l_v (by first | exact (r_move (v := iV _) rfl) | exact (r_move rfl)) ?_
            refine l_v (r_eqli rfl rfl) ?_
            refine l_v (by first | exact (r_assign (v := bV _) rfl) | exact (r_assign rfl)) ?_
            refine l_nil (nrm_then ?_)
            refine c_ret ?_
            show Fin _ _ _ _ _
            refine fin1 rfl ?_
            exact ⟨rfl, hs.below⟩
end Go.Proofs.Ytiipibmliffghaa.Box
