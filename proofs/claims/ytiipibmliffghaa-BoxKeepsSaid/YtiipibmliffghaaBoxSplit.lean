/- The records that bytes begin with, one behind another: the walk of Split. -/
import Derived.Test.YtiipibmliffghaaBoxOpens
import Derived.Test.YtiipibmliffghaaStructs
namespace Go.Proofs.Ytiipibmliffghaa.Box
open Go Go.RowKit Go.Proofs.Ytiipibmliffghaa.Eng Go.Proofs.Ytiipibmliffghaa.Six Go.Proofs.Ytiipibmliffghaa.CrcFn Go.Proofs.Ytiipibmliffghaa.Crc
set_option linter.unusedVariables false
set_option maxRecDepth 100000
abbrev It := Rec × Nat × Nat
def itemC (x : It) : List Value := [iV (x.2.1 : Int), iV (x.2.2 : Int)] ++ recC x.1
theorem itemC_length {x : It} (h : x.1.ok) : (itemC x).length = 68 := by unfold itemC; rw [List.length_append, recC_length h]; rfl
theorem item_one (x : It) : ∀ v ∈ itemC x, v.oneCell' = true := by
  intro v hv
  unfold itemC at hv
  rcases List.mem_append.1 hv with h | h
  · simp at h; rcases h with rfl | rfl <;> rfl
  · exact rec_one _ v h
def bstep (l : List UInt8) : Option (Rec × Nat) :=
  if (nextR l).2.2 = 0 ∧ (nextR l).2.1 + 4 ≤ l.length ∧ (openR (l.take ((nextR l).2.1 + 4))).2 = 0 then some ((openR (l.take ((nextR l).2.1 + 4))).1, (nextR l).2.1 + 4) else none
def splitB : Nat → List It → Nat → List UInt8 → List It × Nat
  | 0, ts, k, _ => (ts, k)
  | m + 1, ts, k, l => match bstep l with
    | none => (ts, k)
    | some (r, n) => splitB m (ts ++ [(r, k, n)]) (k + n) (l.drop n)
theorem splitB_no {j k : Nat} {ts : List It} {l : List UInt8} (hj : 0 < j) (h : bstep l = none) : splitB j ts k l = (ts, k) := by
  cases j with
  | zero => omega
  | succ j => rw [splitB, h]
theorem splitB_yes {j k n : Nat} {ts : List It} {l : List UInt8} {r : Rec} (hj : 0 < j) (h : bstep l = some (r, n)) : splitB j ts k l = splitB (j - 1) (ts ++ [(r, k, n)]) (k + n) (l.drop n) := by
  cases j with
  | zero => omega
  | succ j => rw [splitB, h]; rfl
abbrev rowB (v : Value) (ts : List It) : HP := RowC 50 68 v ts.length (ts.flatMap itemC)
theorem rowB_app {w0 w : World} {v : Value} {ts : List It} {x : It} {L : List HP} (hs : Eng.Sep w0 w (RowC 50 68 v (ts.length + 1) (ts.flatMap itemC ++ itemC x) :: L)) : Eng.Sep w0 w (rowB v (ts ++ [x]) :: L) := by
  unfold rowB; rw [List.length_append, List.flatMap_append]; simp only [List.flatMap_cons, List.flatMap_nil, List.append_nil]; exact hs
theorem bitem (r : Rec) (h : r.ok) (k n : Nat) : Program.built Try.prog 50 [(0, iV (k : Int)), (1, iV (n : Int)), (2, rV r)] = some (itemC (r, k, n)).toArray := by
  have hZ := recC_length zero_ok
  have key : ∀ Z : List Value, Z.length = 66 → Instr.fill ([(0, 1), (1, 1), (2, 66)].toArray[·]?) ([iV 0, iV 0] ++ Z).toArray [(0, iV (k : Int)), (1, iV (n : Int)), (2, rV r)] = some (itemC (r, k, n)).toArray := by
    intro Z hZ
    refine fill_step (off := 0) (l := [iV (k : Int)]) rfl rfl (by show 1 ≤ Z.length + 2; omega) ?_
    change Instr.fill _ ([iV (k : Int), iV 0] ++ Z).toArray _ = _
    refine fill_step (off := 1) (l := [iV (n : Int)]) rfl rfl (by show 2 ≤ Z.length + 2; omega) ?_
    change Instr.fill _ ([iV (k : Int), iV (n : Int)] ++ Z).toArray _ = _
    refine fill_step (off := 2) (l := recC r) (by rw [recC_length h]; rfl) rfl (by rw [recC_length h]; show 68 ≤ Z.length + 2; omega) ?_
    rw [recC_length h]
    have e : ([iV (k : Int), iV (n : Int)] ++ Z).take 2 ++ recC r ++ ([iV (k : Int), iV (n : Int)] ++ Z).drop (2 + 66) = itemC (r, k, n) := by
      show [iV (k : Int), iV (n : Int)] ++ recC r ++ Z.drop 66 = _
      rw [List.drop_of_length_le (by omega), List.append_nil]; rfl
    rw [e]
    rfl
  exact built_of I50 (places := [(0, 1), (1, 1), (2, 66)]) (by kernel_rfl) (cs := [iV 0, iV 0] ++ recC .zero) rfl (key _ hZ)
set_option maxHeartbeats 8000000 in
theorem bsplit_c (s : ByteArray) (hz : s.size ≤ 16777216) (w0 w : World) (R : List HP) (hs : Eng.Sep w0 w R) :
    Calls Try.prog 17 #[sV s] w fun e w' => ∃ v, e = .returned (.tuple #[v, iV ((splitB (s.size + 1) [] 0 (toL s)).2 : Int)]) ∧ Eng.Sep w0 w' (rowB v (splitB (s.size + 1) [] 0 (toL s)).1 :: R) := by
  have hl := toL_size s
  refine enter (P := Try.prog) Try.func17 rfl rfl ?_
  refine c_rseq ?_
  refine l_v (by first | exact (r_assign (v := .slice _ _ _) rfl) | exact (r_assign rfl)) ?_
  refine l_v (by first | exact (r_assign (v := iV _) rfl) | exact (r_assign rfl)) ?_
  refine l_nil (nrm_then ?_)
  refine c_rseq ?_
  refine l_v (by first | exact (r_assign (v := .slice _ _ _) rfl) | exact (r_assign rfl)) ?_
  refine l_nil (nrm_then ?_)
  refine c_rseq ?_
  refine l_v (by first | exact (r_assign (v := iV _) rfl) | exact (r_assign rfl)) ?_
  refine l_nil (nrm_then ?_)
  refine c_block ?_
  have hs := hs.rowNil 50 68
  refine c_loopn [0] (fun m f' w' => ∃ (v : Value) (ts : List It) (k j : Nat), f' 4 = v ∧ f' 5 = iV (k : Int) ∧ Eng.Sep w0 w' (rowB v ts :: R) ∧ k ≤ s.size ∧ ts.length ≤ k ∧ m = s.size - k ∧ m < j ∧ splitB (s.size + 1) [] 0 (toL s) = splitB j ts k ((toL s).drop k)) ?_ ?_
  · exact ⟨s.size, .slice none 0 0, [], 0, s.size + 1, rfl, rfl, hs, by omega, by simp, by omega, by omega, rfl⟩
  · rintro m g w_ ⟨v, ts, k, j, h4, h5, hs, hk, htk, hm, hj, hsp⟩
    have hcut := cut_size s k
    have hcl : (toL (cut s k)) = (toL s).drop k := rfl
    have hcz : (cut s k).size = s.size - k := by show ((toL s).drop k).length = _; rw [List.length_drop, hl]
    have hnsz := nextR_size ((toL s).drop k)
    have hnok := nextR_ok ((toL s).drop k)
    rw [List.length_drop] at hnsz
    have hbs : bstep ((toL s).drop k) = if (nextR ((toL s).drop k)).2.2 = 0 ∧ (nextR ((toL s).drop k)).2.1 + 4 ≤ ((toL s).drop k).length ∧ (openR (((toL s).drop k).take ((nextR ((toL s).drop k)).2.1 + 4))).2 = 0 then some ((openR (((toL s).drop k).take ((nextR ((toL s).drop k)).2.1 + 4))).1, (nextR ((toL s).drop k)).2.1 + 4) else none := rfl
    rw [List.length_drop] at hbs
    refine OkC.env ?_ (fixH (L := [(4, _), (5, _)]) ⟨h4, h5, trivial⟩)
    clear h4 h5
    refine c_block ?_
    refine c_rseq ?_
    refine l_v (by first | exact (r_move (v := sV _) rfl) | exact (r_move rfl)) ?_
    refine l_v (by first | exact (r_move (v := iV _) rfl) | exact (r_move rfl)) ?_
    refine l_v (r_slice_sl (k : Int) Try.underlying9 rfl rfl (by omega)) ?_
    rw [Int.toNat_natCast, extract_cut]
    refine l_call (r_call Try.func42 rfl rfl) ?_
    refine Calls.mono (over_c (cut s k) w0 _ _ hs) ?_
    rintro e w_ ⟨b6, rfl, hs⟩
    refine ⟨_, rfl, ?_⟩
    refine l_v (r_assign (v := .pointer _) rfl) ?_
    refine l_nil (nrm_then ?_)
    refine c_rseq ?_
    refine l_v (r_move (v := .pointer _) rfl) ?_
    refine l_call (r_call Try.func43 rfl rfl) ?_
    refine Calls.mono (next_c (cut s k) (by omega) b6 w0 _ _ hs) ?_
    rintro e w_ ⟨rfl, s', hs', hs⟩
    refine ⟨_, rfl, ?_⟩
    rw [hcl] at hs' ⊢
    generalize nextR ((toL s).drop k) = M at *
    have hml := recC_length hnok
    have hone := rec_one M.1
    refine l_v (r_move rfl) ?_
    refine l_v (r_extract rfl rfl) ?_
    refine l_v (r_extract rfl rfl) ?_
    refine l_alloc hs I30 ?_
    intro b7 w7 hs hB7 hlt7
    first | refine l_store_whole (i := 0) hs rfl I30 rfl rfl (by first | assumption | (simp; done)) (by first | assumption | (simp; done)) (by first | assumption | simp [Value.oneCell']) ?_ | refine l_store_whole (i := 1) hs rfl I30 rfl rfl (by first | assumption | (simp; done)) (by first | assumption | (simp; done)) (by first | assumption | simp [Value.oneCell']) ?_ | refine l_store_whole (i := 2) hs rfl I30 rfl rfl (by first | assumption | (simp; done)) (by first | assumption | (simp; done)) (by first | assumption | simp [Value.oneCell']) ?_ | refine l_store_whole (i := 3) hs rfl I30 rfl rfl (by first | assumption | (simp; done)) (by first | assumption | (simp; done)) (by first | assumption | simp [Value.oneCell']) ?_ | refine l_store_whole (i := 4) hs rfl I30 rfl rfl (by first | assumption | (simp; done)) (by first | assumption | (simp; done)) (by first | assumption | simp [Value.oneCell']) ?_ | refine l_store_whole (i := 5) hs rfl I30 rfl rfl (by first | assumption | (simp; done)) (by first | assumption | (simp; done)) (by first | assumption | simp [Value.oneCell']) ?_ | refine l_store_whole (i := 6) hs rfl I30 rfl rfl (by first | assumption | (simp; done)) (by first | assumption | (simp; done)) (by first | assumption | simp [Value.oneCell']) ?_
    intro w_ hs
    refine l_v (by first | exact (r_assign (v := iV _) rfl) | exact (r_assign rfl)) ?_
    refine l_nil (nrm_then ?_)
    refine c_seq ?_
    refine c_rseq ?_
    refine l_v (by first | exact (r_move (v := iV _) rfl) | exact (r_move rfl)) ?_
    refine l_v (r_neqi rfl rfl) ?_
    have hs : Eng.Sep w0 w_ (blk b7 (recC M.1) 30 :: rdr b6 s' :: rowB v ts :: R) := hs
    by_cases he : M.2.2 = 0
    · have f21 : decide (M.2.2 ≠ 0) = false := decide_eq_false (fun h => h he)
      have hs'' : s' = cut s (k + M.2.1) := by rw [hs' he]; unfold cut; rw [Eng.toL_ofL, List.drop_drop]
      subst hs''
      have hcz2 : (cut s (k + M.2.1)).size = s.size - (k + M.2.1) := by show ((toL s).drop (k + M.2.1)).length = _; rw [List.length_drop, hl]
      refine l_v (by first | exact (r_move (v := bV _) rfl) | exact (r_move rfl)) ?_
      refine l_vg (r_move (v := .pointer _) rfl) rfl (f21) ?_
      refine l_callg (r_call Try.func47 rfl rfl) rfl (f21) ?_
      refine Calls.mono (rest_c (cut s (k + M.2.1)) b6 w0 _ _ (hs.pull 1)) ?_
      rintro e w_ ⟨rfl, rfl⟩
      refine ⟨_, rfl, ?_⟩
      refine l_vg (r_len_s Try.underlying9 rfl) rfl (f21) ?_
      refine l_vg (r_lssi rfl rfl) rfl (f21) ?_
      refine l_v (r_pick_f rfl f21 rfl) ?_
      refine l_nil (nrm_then ?_)
      refine c_cond rfl (fun h4 => ?_) (fun h4 => ?_)
      · have h4' : ¬ (M.2.1 + 4 ≤ s.size - k) := by have h := of_decide_eq_true h4; omega
        have hno : bstep ((toL s).drop k) = none := by rw [hbs, if_neg (fun h => h4' (by have := h.2.1; omega))]
        have hs1 := hs.drop.drop
        replace h4 := of_decide_eq_true h4
        refine c_rseq ?_
        refine l_v (by first | exact (r_move (v := .slice _ _ _) rfl) | exact (r_move rfl)) ?_
        refine l_v (by first | exact (r_move (v := iV _) rfl) | exact (r_move rfl)) ?_
        refine l_v (by first | exact (r_assign (v := .slice _ _ _) rfl) | exact (r_assign rfl)) ?_
        refine l_v (by first | exact (r_assign (v := iV _) rfl) | exact (r_assign rfl)) ?_
        refine l_nil (nrm_then ?_)
        refine c_ret (ret_then (ret_block (ret_then (ret_block ?_))))
        show Fin _ _ _ _ _
        refine fin2 rfl ?_
        rw [hsp, splitB_no (by omega) hno]
        exact ⟨v, rfl, hs1⟩
      · have h4' : M.2.1 + 4 ≤ s.size - k := by have h := of_decide_eq_false h4; omega
        replace h4 := of_decide_eq_false h4
        refine c_skip (nrm_then ?_)
        refine c_rseq ?_
        refine l_v (by first | exact (r_move (v := sV _) rfl) | exact (r_move rfl)) ?_
        refine l_v (r_len_s Try.underlying9 rfl) ?_
        refine l_v (by first | exact (r_move (v := iV _) rfl) | exact (r_move rfl)) ?_
        refine l_v (r_subi rfl rfl (by omega)) ?_
        refine l_v (r_move (v := .pointer _) rfl) ?_
        refine l_call (r_call Try.func47 rfl rfl) ?_
        refine Calls.mono (rest_c (cut s (k + M.2.1)) b6 w0 _ _ (hs.pull 1)) ?_
        rintro e w_ ⟨rfl, rfl⟩
        refine ⟨_, rfl, ?_⟩
        have e38 : (s.size : Int) - (k : Int) - ((cut s (k + M.2.1)).size : Int) + 4 = ((M.2.1 + 4 : Nat) : Int) := by omega
        refine l_v (r_len_s Try.underlying9 rfl) ?_
        refine l_v (r_subi rfl rfl (by omega)) ?_
        refine l_v (r_addi rfl rfl (by omega)) ?_
        refine l_v (by first | exact (r_assign (v := iV _) rfl) | exact (r_assign rfl)) ?_
        refine l_nil (nrm_then ?_)
        refine c_rseq ?_
        refine l_v (by first | exact (r_move (v := sV _) rfl) | exact (r_move rfl)) ?_
        refine l_v (by first | exact (r_move (v := iV _) rfl) | exact (r_move rfl)) ?_
        refine l_v (by first | exact (r_move (v := iV _) rfl) | exact (r_move rfl)) ?_
        refine l_v (by first | exact (r_move (v := iV _) rfl) | exact (r_move rfl)) ?_
        refine l_v (r_addi rfl rfl (by omega)) ?_
        rw [e38]
        refine l_v (r_slice_s (k : Int) ((k : Int) + ((M.2.1 + 4 : Nat) : Int)) Try.underlying9 rfl rfl rfl (by omega)) ?_
        have ex : s.extract ((k : Int)).toNat ((k : Int) + ((M.2.1 + 4 : Nat) : Int)).toNat = ofL (((toL s).drop k).take (M.2.1 + 4)) := Eng.toL_inj (by
          rw [Eng.toL_extract, Int.toNat_natCast, show ((k : Int) + ((M.2.1 + 4 : Nat) : Int)).toNat - k = M.2.1 + 4 by omega])
        rw [ex]
        have hoz : (((toL s).drop k).take (M.2.1 + 4)).length ≤ s.size := by rw [List.length_take, List.length_drop, hl]; omega
        refine l_call (r_call Try.func14 rfl rfl) ?_
        refine Calls.mono (open_c (ofL (((toL s).drop k).take (M.2.1 + 4))) (by show (((toL s).drop k).take (M.2.1 + 4)).length ≤ _; omega) _) ?_
        rintro e w_ ⟨rfl, hb⟩
        refine ⟨_, rfl, ?_⟩
        have hs := hs.below_ hb
        rw [Eng.toL_ofL]
        have hook := openR_ok (((toL s).drop k).take (M.2.1 + 4))
        generalize openR (((toL s).drop k).take (M.2.1 + 4)) = O at *
        have hol := recC_length hook
        have hone2 := rec_one O.1
        refine l_v (r_move rfl) ?_
        refine l_v (r_extract rfl rfl) ?_
        refine l_v (r_extract rfl rfl) ?_
        refine l_alloc hs I30 ?_
        intro b10 w10 hs hB10 hlt10
        first | refine l_store_whole (i := 0) hs rfl I30 rfl rfl (by first | assumption | (simp; done)) (by first | assumption | (simp; done)) (by first | assumption | simp [Value.oneCell']) ?_ | refine l_store_whole (i := 1) hs rfl I30 rfl rfl (by first | assumption | (simp; done)) (by first | assumption | (simp; done)) (by first | assumption | simp [Value.oneCell']) ?_ | refine l_store_whole (i := 2) hs rfl I30 rfl rfl (by first | assumption | (simp; done)) (by first | assumption | (simp; done)) (by first | assumption | simp [Value.oneCell']) ?_ | refine l_store_whole (i := 3) hs rfl I30 rfl rfl (by first | assumption | (simp; done)) (by first | assumption | (simp; done)) (by first | assumption | simp [Value.oneCell']) ?_ | refine l_store_whole (i := 4) hs rfl I30 rfl rfl (by first | assumption | (simp; done)) (by first | assumption | (simp; done)) (by first | assumption | simp [Value.oneCell']) ?_ | refine l_store_whole (i := 5) hs rfl I30 rfl rfl (by first | assumption | (simp; done)) (by first | assumption | (simp; done)) (by first | assumption | simp [Value.oneCell']) ?_ | refine l_store_whole (i := 6) hs rfl I30 rfl rfl (by first | assumption | (simp; done)) (by first | assumption | (simp; done)) (by first | assumption | simp [Value.oneCell']) ?_
        intro w_ hs
        refine l_v (by first | exact (r_assign (v := iV _) rfl) | exact (r_assign rfl)) ?_
        refine l_nil (nrm_then ?_)
        refine c_seq ?_
        refine c_rseq ?_
        refine l_v (by first | exact (r_move (v := iV _) rfl) | exact (r_move rfl)) ?_
        refine l_v (r_neqi rfl rfl) ?_
        refine l_nil (nrm_then ?_)
        have hs : Eng.Sep w0 w_ (blk b10 (recC O.1) 30 :: blk b7 (recC M.1) 30 :: rdr b6 (cut s (k + M.2.1)) :: rowB v ts :: R) := hs
        refine c_cond rfl (fun h6 => ?_) (fun h6 => ?_)
        · have hno : bstep ((toL s).drop k) = none := by rw [hbs, if_neg (fun h => by first | exact h6 h.2.2 | exact (of_decide_eq_true h6) h.2.2)]
          have hs1 := hs.drop.drop.drop
          replace h6 := of_decide_eq_true h6
          refine c_rseq ?_
          refine l_v (by first | exact (r_move (v := .slice _ _ _) rfl) | exact (r_move rfl)) ?_
          refine l_v (by first | exact (r_move (v := iV _) rfl) | exact (r_move rfl)) ?_
          refine l_v (by first | exact (r_assign (v := .slice _ _ _) rfl) | exact (r_assign rfl)) ?_
          refine l_v (by first | exact (r_assign (v := iV _) rfl) | exact (r_assign rfl)) ?_
          refine l_nil (nrm_then ?_)
          refine c_ret (ret_then (ret_block (ret_then (ret_block ?_))))
          show Fin _ _ _ _ _
          refine fin2 rfl ?_
          rw [hsp, splitB_no (by omega) hno]
          exact ⟨v, rfl, hs1⟩
        · have h6' : O.2 = 0 := Decidable.of_not_not (of_decide_eq_false h6)
          have hyes : bstep ((toL s).drop k) = some (O.1, M.2.1 + 4) := by rw [hbs, if_pos ⟨he, h4', h6'⟩]
          rw [splitB_yes (by omega) hyes, List.drop_drop] at hsp
          replace h6 := of_decide_eq_false h6
          refine c_skip (nrm_then ?_)
          refine c_rseq ?_
          refine l_v (by first | exact (r_move (v := .slice _ _ _) rfl) | exact (r_move rfl)) ?_
          refine l_v (by first | exact (r_move (v := iV _) rfl) | exact (r_move rfl)) ?_
          refine l_v (by first | exact (r_move (v := iV _) rfl) | exact (r_move rfl)) ?_
          refine l_v (r_load_whole (i := 0) hs rfl Try.underlying30 I30 rfl hol) ?_
          refine l_v (r_build (l := [(0, iV (k : Int)), (1, iV ((M.2.1 + 4 : Nat) : Int)), (2, rV O.1)]) rfl (bitem O.1 hook k (M.2.1 + 4))) ?_
          have hs := hs.drop.drop.drop
          refine l_lit [.agg (itemC (O.1, k, M.2.1 + 4)).toArray] hs Try.underlying43 I50 rfl (by intro u hu; rw [List.mem_singleton.1 hu]; exact itemC_length hook) (by decide) rfl (by decide) (by decide) ?_
          intro b58 w58 hs hB58 hlt58
          have e1 : ([Value.agg (itemC (O.1, k, M.2.1 + 4)).toArray].flatMap fun v => v.cells.toList) = itemC (O.1, k, M.2.1 + 4) := by simp [Value.cells]
          rw [e1] at hs
          refine l_append_lit Try.underlying43 I50 (by kernel_rfl) (by decide) rfl rfl hs (itemC_length hook) (item_one _) (by omega) (by omega) ?_
          intro v59 w59 hs
          have hs := rowB_app hs
          refine l_v (by first | exact (r_assign (v := .slice _ _ _) rfl) | exact (r_assign rfl)) ?_
          refine l_nil (nrm_then ?_)
          refine c_region ?_
          refine l_v (by first | exact (r_move (v := iV _) rfl) | exact (r_move rfl)) ?_
          refine l_v (by first | exact (r_move (v := iV _) rfl) | exact (r_move rfl)) ?_
          refine l_v (r_addi rfl rfl (by omega)) ?_
          refine l_v (by first | exact (r_assign (v := iV _) rfl) | exact (r_assign rfl)) ?_
          refine l_nil (nrm_block (nrm_then ?_))
          refine And.intro (by refine ⟨?_, trivial⟩ <;> ((conv => lhs; whnf); (try conv => rhs; whnf))) ?_
          exact ⟨s.size - (k + (M.2.1 + 4)), by omega, v59, ts ++ [(O.1, k, M.2.1 + 4)], k + (M.2.1 + 4), j - 1, rfl, rfl, hs, by omega, by rw [List.length_append]; simp only [List.length_cons, List.length_nil]; omega, rfl, by omega, by rw [hsp]⟩
    · have f21 : decide (M.2.2 ≠ 0) = true := decide_eq_true he
      have hno : bstep ((toL s).drop k) = none := by rw [hbs, if_neg (fun h => he h.1)]
      have hs1 := hs.drop.drop
      refine l_v (by first | exact (r_move (v := bV _) rfl) | exact (r_move rfl)) ?_
      refine l_no rfl (f21) ?_
      refine l_no rfl (f21) ?_
      refine l_no rfl (f21) ?_
      refine l_no rfl (f21) ?_
      refine l_v (r_pick_t rfl f21 rfl) ?_
      refine l_nil (nrm_then ?_)
      refine c_true rfl (rfl) ?_
      refine c_rseq ?_
      refine l_v (by first | exact (r_move (v := .slice _ _ _) rfl) | exact (r_move rfl)) ?_
      refine l_v (by first | exact (r_move (v := iV _) rfl) | exact (r_move rfl)) ?_
      refine l_v (by first | exact (r_assign (v := .slice _ _ _) rfl) | exact (r_assign rfl)) ?_
      refine l_v (by first | exact (r_assign (v := iV _) rfl) | exact (r_assign rfl)) ?_
      refine l_nil (nrm_then ?_)
      refine c_ret (ret_then (ret_block (ret_then (ret_block ?_))))
      show Fin _ _ _ _ _
      refine fin2 rfl ?_
      rw [hsp, splitB_no (by omega) hno]
      exact ⟨v, rfl, hs1⟩
end Go.Proofs.Ytiipibmliffghaa.Box
