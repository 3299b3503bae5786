/- Equality of records, and the walk of the law BoxOpens. -/
import Derived.Test.YtiipibmliffghaaBoxLaws
import Derived.Laws.StructEq
namespace Go.Proofs.Ytiipibmliffghaa.Box
open Go Go.RowKit Go.Proofs.Ytiipibmliffghaa.Eng Go.Proofs.Ytiipibmliffghaa.Six Go.Proofs.Ytiipibmliffghaa.CrcFn Go.Proofs.Ytiipibmliffghaa.Crc
set_option linter.unusedVariables false
set_option maxRecDepth 100000
section
variable {P : Program} {w : World}
theorem part_flat {t : TypeId} {d : TypeDesc} (ht : P.underlying t = some d) {cs : List Value} {off : Nat} {v : Value} (hx : cs[off]? = some v) (hd : notRow d = true := by rfl) : (part t cs.toArray off).run P w = .ok v w := by
  have hx' : cs.toArray[off]? = some v := by rw [List.getElem?_toArray]; exact hx
  unfold part
  simp only [Sem.run_bind, run_isAgg_no ht hd, Result.andThen_ok, Bool.false_eq_true, if_false, hx', Sem.run_pure]
theorem part_agg {t : TypeId} {d : TypeDesc} {z : Value} {sz by_ : Nat} (ht : P.underlying t = some d) (hI : TI P t z sz by_) {cs xs : List Value} {off : Nat} (hx : (cs.drop off).take sz = xs) (hd : notRow d = false := by rfl) : (part t cs.toArray off).run P w = .ok (.agg xs.toArray) w := by
  have e : cs.toArray.extract off (off + sz) = xs.toArray := by
    rw [List.extract_toArray, List.extract_eq_take_drop, Nat.add_sub_cancel_left, hx]
  unfold part
  simp only [Sem.run_bind, run_isAgg_yes ht hd, Result.andThen_ok, if_true, hI.size, e, Sem.run_pure]
theorem eqF_step {d : Nat} {xs ys : Array Value} {f : Field} {fs : List Field} {a b : Value} (hn : (f.name ≠ "_") = True) (hx : (part f.type xs f.offset).run P w = .ok a w) (hy : (part f.type ys f.offset).run P w = .ok b w) (he : (Op.equalIn d f.type a b).run P w = .ok true w)
    (h : (Op.eqFields d xs ys fs).run P w = .ok true w) : (Op.eqFields d xs ys (f :: fs)).run P w = .ok true w := by
  simp only [Op.eqFields, hn, if_true, Sem.run_bind, hx, hy, he, Result.andThen_ok, Bool.not_true, Bool.false_eq_true, if_false, h]
theorem fields_of {t : TypeId} {fs : Array Field} (ht : P.underlying t = some (.struct fs)) : P.fieldsOf t = fs := by
  unfold Program.fieldsOf; rw [ht]
end
theorem eqRec (r : Rec) (h : r.ok) (w : World) : (Op.equalIn 10000 30 (rV r) (rV r)).run Try.prog w = .ok true w := by
  have hf := fields_of Try.underlying30
  rw [run_equalIn_struct (P := Try.prog) w 9999 30 (recC r).toArray (recC r).toArray (by rw [hf]; exact Try.underlying30) (by kernel_rfl), hf]
  refine eqF_step (by simp) (part_agg Try.underlying23 I23 (rec_key r h)) (part_agg Try.underlying23 I23 (rec_key r h)) ?_ ?_
  · exact (run_equalIn_bytes (P := Try.prog) w 9997 23 5 32 Try.underlying23 Try.underlying5 (fun w => I5.size w) r.key r.key h.1 h.1).trans (congrArg (fun b => Result.ok b w) (beq_self_eq_true r.key))
  refine eqF_step (by simp) (part_agg Try.underlying23 I23 (rec_base r h)) (part_agg Try.underlying23 I23 (rec_base r h)) ?_ ?_
  · exact (run_equalIn_bytes (P := Try.prog) w 9997 23 5 32 Try.underlying23 Try.underlying5 (fun w => I5.size w) r.base r.base h.2 h.2).trans (congrArg (fun b => Result.ok b w) (beq_self_eq_true r.base))
  refine eqF_step (by simp) (part_flat Try.underlying4 (rec_patch r h)) (part_flat Try.underlying4 (rec_patch r h)) ?_ ?_
  · rw [run_equalIn_bool' (P := Try.prog) w 9998 4 r.patch r.patch Try.underlying4, beq_self_eq_true]
  refine eqF_step (by simp) (part_flat Try.underlying9 (rec_body r h)) (part_flat Try.underlying9 (rec_body r h)) ?_ ?_
  · rw [run_equalIn_string (P := Try.prog) w 9998 9 (ofL r.body) (ofL r.body) Try.underlying9, beq_self_eq_true]
  rfl
theorem r_neRec {ρ : Operand → Value} {w : World} {dst : Option Tmp} {ty t' : TypeId} {pos : String} {aft : Array Edge} {g : Option (Nat × Bool)} {x y : Operand} {r : Rec} (h : r.ok) (hx : ρ x = rV r) (hy : ρ y = rV r) : Run Try.prog ρ ⟨dst, .binOp .neq 30 x y t', ty, pos, aft, g⟩ w (bV false) w := by
  left
  have h2 : (binOp .neq 30 (rV r) (rV r)).run Try.prog w = .ok (.bool false) w := by
    rw [run_neq_struct, eqRec r h w, Result.andThen_ok]; rfl
  simp only [execOp, hx, hy, Sem.run_bind, run_eqGuard_agg (P := Try.prog) w .neq 30 _ _ _ _ (by kernel_rfl), Result.andThen_ok, h2, Sem.run_pure]
theorem pack_body {r : Rec} {l : List UInt8} (h : packR r = (l, 0)) : r.body.length ≤ 9223372036854775807 := by
  unfold packR at h
  split at h
  · cases h
  · omega
set_option maxHeartbeats 4000000 in
theorem boxOpens_walk (s : ByteArray) (_ : s.size ≤ 140737488351232) (sm : Bool) {w : World} :
    Calls Try.prog 4 #[sV s, bV sm] w fun e w' => e = .returned (bV true) ∧ Below w.heap.size w w' := by
  have hzl := recC_length zero_ok
  have hl := toL_size s
  refine enter (P := Try.prog) Try.func4 rfl rfl ?_
  have hs := Sep.init w
  refine c_rseq ?_
  refine l_v (by first | exact (r_assign (v := bV _) rfl) | exact (r_assign rfl)) ?_
  refine l_nil (nrm_then ?_)
  refine c_seq ?_
  refine c_rseq ?_
  refine l_call (r_call Try.func9 rfl rfl) ?_
  refine Calls.mono (awake_c _) ?_
  rintro e w_ ⟨rfl, hb⟩
  refine ⟨_, rfl, ?_⟩
  have hs := hs.below_ hb
  refine l_v (r_not rfl) ?_
  refine l_v (by first | exact (r_move (v := bV _) rfl) | exact (r_move rfl)) ?_
  refine l_vg (by first | exact (r_move (v := sV _) rfl) | exact (r_move rfl)) rfl (rfl) ?_
  refine l_vg (r_len_s Try.underlying9 rfl) rfl (rfl) ?_
  refine l_vg (r_gtri rfl rfl) rfl (rfl) ?_
  refine l_v (r_pick_f rfl rfl rfl) ?_
  refine l_nil (nrm_then ?_)
  refine c_cond rfl (fun h1 => ?_) (fun h1 => ?_)
  · replace h1 := of_decide_eq_true h1
    refine c_rseq ?_
    refine l_call (r_call Try.func9 rfl rfl) ?_
    refine Calls.mono (awake_c _) ?_
    rintro e w_ ⟨rfl, hb⟩
    refine ⟨_, rfl, ?_⟩
    have hs := hs.below_ hb
    refine l_v (by first | exact (r_assign (v := bV _) rfl) | exact (r_assign rfl)) ?_
    refine l_nil (nrm_then ?_)
    refine c_ret (ret_then ?_)
    show Fin _ _ _ _ _
    refine fin1 rfl ?_
    exact ⟨rfl, hs.below⟩
  · have h1' : s.size ≤ 30000 := by have h : ¬ ((s.size : Nat) : Int) > 30000 := of_decide_eq_false h1; omega
    replace h1 := of_decide_eq_false h1
    refine c_skip (nrm_then ?_)
    refine c_seq ?_
    refine c_rseq ?_
    refine l_v (by first | exact (r_move (v := bV _) rfl) | exact (r_move rfl)) ?_
    refine l_nil (nrm_then ?_)
    rcases Bool.eq_false_or_eq_true sm with hsm | hsm
    · refine c_true rfl (hsm) ?_
      refine c_region ?_
      refine l_v (by first | exact (r_move (v := sV _) rfl) | exact (r_move rfl)) ?_
      refine l_call (r_call Try.func13 rfl rfl) ?_
      refine Calls.mono (RefCrc.put_c s (by omega) _) ?_
      rintro e w_ ⟨rfl, hb2⟩
      refine ⟨_, rfl, ?_⟩
      have hs := hs.below_ hb2
      have hS : (ofL (put (toL s))).size ≤ 9223372036854775800 := by
        have e : (put (toL s)).length = (toL s).length + 4 := by unfold put; rw [List.length_append]; rfl
        show (put (toL s)).length ≤ _; omega
      generalize ofL (put (toL s)) = S at *
      refine l_v (by first | exact (r_assign (v := sV _) rfl) | exact (r_assign rfl)) ?_
      refine l_nil (nrm_then ?_)
      refine c_rseq ?_
      refine l_v (by first | exact (r_move (v := sV _) rfl) | exact (r_move rfl)) ?_
      refine l_call (r_call Try.func14 rfl rfl) ?_
      refine Calls.mono (open_c S hS _) ?_
      rintro e w_ ⟨rfl, hb3⟩
      refine ⟨_, rfl, ?_⟩
      have hs := hs.below_ hb3
      have hok := openR_ok (toL S)
      have hol := recC_length hok
      have hone := rec_one (openR (toL S)).1
      have hpo : (openR (toL S)).2 = 0 → packR (openR (toL S)).1 = (toL S, 0) := pack_open
      refine l_v (r_move rfl) ?_
      refine l_v (r_extract rfl rfl) ?_
      refine l_v (r_extract rfl rfl) ?_
      refine l_alloc hs I30 ?_
      intro b5 w5 hs hB5 hlt5
      first | refine l_store_whole (i := 0) hs rfl I30 rfl rfl (by first | assumption | (simp; done)) (by first | assumption | (simp; done)) (by first | assumption | simp [Value.oneCell']) ?_ | refine l_store_whole (i := 1) hs rfl I30 rfl rfl (by first | assumption | (simp; done)) (by first | assumption | (simp; done)) (by first | assumption | simp [Value.oneCell']) ?_ | refine l_store_whole (i := 2) hs rfl I30 rfl rfl (by first | assumption | (simp; done)) (by first | assumption | (simp; done)) (by first | assumption | simp [Value.oneCell']) ?_ | refine l_store_whole (i := 3) hs rfl I30 rfl rfl (by first | assumption | (simp; done)) (by first | assumption | (simp; done)) (by first | assumption | simp [Value.oneCell']) ?_ | refine l_store_whole (i := 4) hs rfl I30 rfl rfl (by first | assumption | (simp; done)) (by first | assumption | (simp; done)) (by first | assumption | simp [Value.oneCell']) ?_ | refine l_store_whole (i := 5) hs rfl I30 rfl rfl (by first | assumption | (simp; done)) (by first | assumption | (simp; done)) (by first | assumption | simp [Value.oneCell']) ?_ | refine l_store_whole (i := 6) hs rfl I30 rfl rfl (by first | assumption | (simp; done)) (by first | assumption | (simp; done)) (by first | assumption | simp [Value.oneCell']) ?_
      intro w_ hs
      refine l_v (by first | exact (r_assign (v := iV _) rfl) | exact (r_assign rfl)) ?_
      refine l_nil (nrm_then ?_)
      refine c_rseq ?_
      refine l_v (by first | exact (r_move (v := sV _) rfl) | exact (r_move rfl)) ?_
      have hs : Sep w _ [blk b5 (recC (openR (toL S)).1) 30] := hs
      refine l_call (r_call Try.func15 rfl rfl) ?_
      refine Calls.mono (ropen_c S hS _) ?_
      rintro e w_ ⟨rfl, hb4⟩
      refine ⟨_, rfl, ?_⟩
      have hs := hs.below_ hb4
      generalize openR (toL S) = X at *
      refine l_v (r_move rfl) ?_
      refine l_v (r_extract rfl rfl) ?_
      refine l_v (r_extract rfl rfl) ?_
      refine l_alloc hs I25 ?_
      intro b7 w7 hs hB7 hlt7
      first | refine l_store_whole (i := 0) hs rfl I25 rfl rfl (by first | assumption | (simp; done)) (by first | assumption | (simp; done)) (by first | assumption | simp [Value.oneCell']) ?_ | refine l_store_whole (i := 1) hs rfl I25 rfl rfl (by first | assumption | (simp; done)) (by first | assumption | (simp; done)) (by first | assumption | simp [Value.oneCell']) ?_ | refine l_store_whole (i := 2) hs rfl I25 rfl rfl (by first | assumption | (simp; done)) (by first | assumption | (simp; done)) (by first | assumption | simp [Value.oneCell']) ?_ | refine l_store_whole (i := 3) hs rfl I25 rfl rfl (by first | assumption | (simp; done)) (by first | assumption | (simp; done)) (by first | assumption | simp [Value.oneCell']) ?_ | refine l_store_whole (i := 4) hs rfl I25 rfl rfl (by first | assumption | (simp; done)) (by first | assumption | (simp; done)) (by first | assumption | simp [Value.oneCell']) ?_ | refine l_store_whole (i := 5) hs rfl I25 rfl rfl (by first | assumption | (simp; done)) (by first | assumption | (simp; done)) (by first | assumption | simp [Value.oneCell']) ?_ | refine l_store_whole (i := 6) hs rfl I25 rfl rfl (by first | assumption | (simp; done)) (by first | assumption | (simp; done)) (by first | assumption | simp [Value.oneCell']) ?_
      intro w_ hs
      refine l_v (by first | exact (r_assign (v := iV _) rfl) | exact (r_assign rfl)) ?_
      refine l_nil (nrm_then ?_)
      refine c_seq ?_
      refine c_seq ?_
      have hs : Sep w _ [blk b7 (recC X.1) 25, blk b5 (recC X.1) 30] := hs
      refine c_float [2] 7 (by kernel_rfl) (by kernel_rfl) ?_
      intro hbF
      show OkF _ _ _ _ _ _ (_ :: _) 0 _ _
      refine f_v (fun wl hbl => by have hs := hs.below_ hbl; exact (r_load_whole (i := 1) hs rfl Try.underlying30 I30 rfl hol)) ?_
      refine f_v (fun wl hbl => by have hs := hs.below_ hbl; exact (r_load_whole (i := 0) hs rfl Try.underlying25 I25 rfl hol)) ?_
      refine f_call (r_call Try.func11 rfl rfl) ?_
      refine Calls.mono (theirs_c X.1 hok _) ?_
      rintro e w_ ⟨rfl, hb⟩
      have hbF := hbF.trans (Below.mono hb hbF.size)
      refine ⟨_, rfl, hb, ?_⟩
      refine f_v (fun wl hbl => by have hs := hs.below_ hbl; exact (r_neRec hok rfl rfl)) ?_
      refine f_v (fun wl hbl => by have hs := hs.below_ hbl; first | exact (r_move (v := bV _) rfl) | exact (r_move rfl)) ?_
      refine f_vg (fun wl hbl => by have hs := hs.below_ hbl; first | exact (r_move (v := iV _) rfl) | exact (r_move rfl)) rfl (rfl) ?_
      refine f_vg (fun wl hbl => by have hs := hs.below_ hbl; first | exact (r_move (v := iV _) rfl) | exact (r_move rfl)) rfl (rfl) ?_
      refine f_nil ?_
      have hs := hs.below_ hbF
      show OkL _ _ _ _ (_ :: _) _ _
      refine l_vg (r_neqi rfl rfl) rfl (rfl) ?_
      refine l_v (r_pick_f rfl rfl rfl) ?_
      refine l_nil (nrm_then ?_)
      refine c_false rfl ((decide_eq_false (fun h => h rfl))) ?_
      refine c_skip (nrm_then ?_)
      refine c_seq ?_
      refine c_rseq ?_
      refine l_v (by first | exact (r_move (v := iV _) rfl) | exact (r_move rfl)) ?_
      refine l_v (r_neqi rfl rfl) ?_
      refine l_nil (nrm_then ?_)
      refine c_cond rfl (fun h2 => ?_) (fun h2 => ?_)
      · replace h2 := of_decide_eq_true h2
        refine c_rseq ?_
        refine l_v (by first | exact (r_assign (v := bV _) rfl) | exact (r_assign rfl)) ?_
        refine l_nil (nrm_then ?_)
        refine c_ret (ret_then ?_)
        show Fin _ _ _ _ _
        refine fin1 rfl ?_
        exact ⟨rfl, hs.below⟩
      · have h2' : X.2 = 0 := Decidable.of_not_not (of_decide_eq_false h2)
        replace h2 := of_decide_eq_false h2
        refine c_skip (nrm_then ?_)
        refine c_rseq ?_
        refine l_v (r_load_whole (i := 1) hs rfl Try.underlying30 I30 rfl hol) ?_
        refine l_call (r_call Try.func10 rfl rfl) ?_
        refine Calls.mono (pack_c X.1 hok (pack_body (hpo h2')) _) ?_
        rintro e w_ ⟨rfl, hb6⟩
        refine ⟨_, rfl, ?_⟩
        have hs := hs.below_ hb6
        rw [hpo h2', Eng.ofL_toL]
        refine l_v (r_move rfl) ?_
        refine l_v (r_extract rfl rfl) ?_
        refine l_v (r_extract rfl rfl) ?_
        refine l_v (by first | exact (r_assign (v := sV _) rfl) | exact (r_assign rfl)) ?_
        refine l_v (by first | exact (r_assign (v := iV _) rfl) | exact (r_assign rfl)) ?_
        refine l_nil (nrm_then ?_)
        refine c_rseq ?_
        refine l_v (by first | exact (r_move (v := iV _) rfl) | exact (r_move rfl)) ?_
        refine l_v (r_eqli rfl rfl) ?_
        refine l_v (by first | exact (r_move (v := bV _) rfl) | exact (r_move rfl)) ?_
        refine l_vg (by first | exact (r_move (v := sV _) rfl) | exact (r_move rfl)) rfl (rfl) ?_
        refine l_vg (by first | exact (r_move (v := sV _) rfl) | exact (r_move rfl)) rfl (rfl) ?_
        refine l_vg (r_eqls rfl rfl) rfl (rfl) ?_
        refine l_v (r_pick_t rfl rfl rfl) ?_
        refine l_v (by first | exact (r_assign (v := bV _) rfl) | exact (r_assign rfl)) ?_
        refine l_nil (nrm_then ?_)
        refine c_ret ?_
        show Fin _ _ _ _ _
        refine fin1 rfl ?_
        exact ⟨congrArg Ending.returned (congrArg Value.bool (decide_eq_true rfl)), hs.below⟩
    · skip
      refine c_false rfl (hsm) ?_
      have hS : s.size ≤ 9223372036854775800 := by omega
      refine c_skip (nrm_then ?_)
      refine c_rseq ?_
      refine l_v (by first | exact (r_move (v := sV _) rfl) | exact (r_move rfl)) ?_
      refine l_call (r_call Try.func14 rfl rfl) ?_
      refine Calls.mono (open_c s hS _) ?_
      rintro e w_ ⟨rfl, hb3⟩
      refine ⟨_, rfl, ?_⟩
      have hs := hs.below_ hb3
      have hok := openR_ok (toL s)
      have hol := recC_length hok
      have hone := rec_one (openR (toL s)).1
      have hpo : (openR (toL s)).2 = 0 → packR (openR (toL s)).1 = (toL s, 0) := pack_open
      refine l_v (r_move rfl) ?_
      refine l_v (r_extract rfl rfl) ?_
      refine l_v (r_extract rfl rfl) ?_
      refine l_alloc hs I30 ?_
      intro b5 w5 hs hB5 hlt5
      first | refine l_store_whole (i := 0) hs rfl I30 rfl rfl (by first | assumption | (simp; done)) (by first | assumption | (simp; done)) (by first | assumption | simp [Value.oneCell']) ?_ | refine l_store_whole (i := 1) hs rfl I30 rfl rfl (by first | assumption | (simp; done)) (by first | assumption | (simp; done)) (by first | assumption | simp [Value.oneCell']) ?_ | refine l_store_whole (i := 2) hs rfl I30 rfl rfl (by first | assumption | (simp; done)) (by first | assumption | (simp; done)) (by first | assumption | simp [Value.oneCell']) ?_ | refine l_store_whole (i := 3) hs rfl I30 rfl rfl (by first | assumption | (simp; done)) (by first | assumption | (simp; done)) (by first | assumption | simp [Value.oneCell']) ?_ | refine l_store_whole (i := 4) hs rfl I30 rfl rfl (by first | assumption | (simp; done)) (by first | assumption | (simp; done)) (by first | assumption | simp [Value.oneCell']) ?_ | refine l_store_whole (i := 5) hs rfl I30 rfl rfl (by first | assumption | (simp; done)) (by first | assumption | (simp; done)) (by first | assumption | simp [Value.oneCell']) ?_ | refine l_store_whole (i := 6) hs rfl I30 rfl rfl (by first | assumption | (simp; done)) (by first | assumption | (simp; done)) (by first | assumption | simp [Value.oneCell']) ?_
      intro w_ hs
      refine l_v (by first | exact (r_assign (v := iV _) rfl) | exact (r_assign rfl)) ?_
      refine l_nil (nrm_then ?_)
      refine c_rseq ?_
      refine l_v (by first | exact (r_move (v := sV _) rfl) | exact (r_move rfl)) ?_
      have hs : Sep w _ [blk b5 (recC (openR (toL s)).1) 30] := hs
      refine l_call (r_call Try.func15 rfl rfl) ?_
      refine Calls.mono (ropen_c s hS _) ?_
      rintro e w_ ⟨rfl, hb4⟩
      refine ⟨_, rfl, ?_⟩
      have hs := hs.below_ hb4
      generalize openR (toL s) = X at *
      refine l_v (r_move rfl) ?_
      refine l_v (r_extract rfl rfl) ?_
      refine l_v (r_extract rfl rfl) ?_
      refine l_alloc hs I25 ?_
      intro b7 w7 hs hB7 hlt7
      first | refine l_store_whole (i := 0) hs rfl I25 rfl rfl (by first | assumption | (simp; done)) (by first | assumption | (simp; done)) (by first | assumption | simp [Value.oneCell']) ?_ | refine l_store_whole (i := 1) hs rfl I25 rfl rfl (by first | assumption | (simp; done)) (by first | assumption | (simp; done)) (by first | assumption | simp [Value.oneCell']) ?_ | refine l_store_whole (i := 2) hs rfl I25 rfl rfl (by first | assumption | (simp; done)) (by first | assumption | (simp; done)) (by first | assumption | simp [Value.oneCell']) ?_ | refine l_store_whole (i := 3) hs rfl I25 rfl rfl (by first | assumption | (simp; done)) (by first | assumption | (simp; done)) (by first | assumption | simp [Value.oneCell']) ?_ | refine l_store_whole (i := 4) hs rfl I25 rfl rfl (by first | assumption | (simp; done)) (by first | assumption | (simp; done)) (by first | assumption | simp [Value.oneCell']) ?_ | refine l_store_whole (i := 5) hs rfl I25 rfl rfl (by first | assumption | (simp; done)) (by first | assumption | (simp; done)) (by first | assumption | simp [Value.oneCell']) ?_ | refine l_store_whole (i := 6) hs rfl I25 rfl rfl (by first | assumption | (simp; done)) (by first | assumption | (simp; done)) (by first | assumption | simp [Value.oneCell']) ?_
      intro w_ hs
      refine l_v (by first | exact (r_assign (v := iV _) rfl) | exact (r_assign rfl)) ?_
      refine l_nil (nrm_then ?_)
      refine c_seq ?_
      refine c_seq ?_
      have hs : Sep w _ [blk b7 (recC X.1) 25, blk b5 (recC X.1) 30] := hs
      refine c_float [2] 7 (by kernel_rfl) (by kernel_rfl) ?_
      intro hbF
      show OkF _ _ _ _ _ _ (_ :: _) 0 _ _
      refine f_v (fun wl hbl => by have hs := hs.below_ hbl; exact (r_load_whole (i := 1) hs rfl Try.underlying30 I30 rfl hol)) ?_
      refine f_v (fun wl hbl => by have hs := hs.below_ hbl; exact (r_load_whole (i := 0) hs rfl Try.underlying25 I25 rfl hol)) ?_
      refine f_call (r_call Try.func11 rfl rfl) ?_
      refine Calls.mono (theirs_c X.1 hok _) ?_
      rintro e w_ ⟨rfl, hb⟩
      have hbF := hbF.trans (Below.mono hb hbF.size)
      refine ⟨_, rfl, hb, ?_⟩
      refine f_v (fun wl hbl => by have hs := hs.below_ hbl; exact (r_neRec hok rfl rfl)) ?_
      refine f_v (fun wl hbl => by have hs := hs.below_ hbl; first | exact (r_move (v := bV _) rfl) | exact (r_move rfl)) ?_
      refine f_vg (fun wl hbl => by have hs := hs.below_ hbl; first | exact (r_move (v := iV _) rfl) | exact (r_move rfl)) rfl (rfl) ?_
      refine f_vg (fun wl hbl => by have hs := hs.below_ hbl; first | exact (r_move (v := iV _) rfl) | exact (r_move rfl)) rfl (rfl) ?_
      refine f_nil ?_
      have hs := hs.below_ hbF
      show OkL _ _ _ _ (_ :: _) _ _
      refine l_vg (r_neqi rfl rfl) rfl (rfl) ?_
      refine l_v (r_pick_f rfl rfl rfl) ?_
      refine l_nil (nrm_then ?_)
      refine c_false rfl ((decide_eq_false (fun h => h rfl))) ?_
      refine c_skip (nrm_then ?_)
      refine c_seq ?_
      refine c_rseq ?_
      refine l_v (by first | exact (r_move (v := iV _) rfl) | exact (r_move rfl)) ?_
      refine l_v (r_neqi rfl rfl) ?_
      refine l_nil (nrm_then ?_)
      refine c_cond rfl (fun h2 => ?_) (fun h2 => ?_)
      · replace h2 := of_decide_eq_true h2
        refine c_rseq ?_
        refine l_v (by first | exact (r_assign (v := bV _) rfl) | exact (r_assign rfl)) ?_
        refine l_nil (nrm_then ?_)
        refine c_ret (ret_then ?_)
        show Fin _ _ _ _ _
        refine fin1 rfl ?_
        exact ⟨rfl, hs.below⟩
      · have h2' : X.2 = 0 := Decidable.of_not_not (of_decide_eq_false h2)
        replace h2 := of_decide_eq_false h2
        refine c_skip (nrm_then ?_)
        refine c_rseq ?_
        refine l_v (r_load_whole (i := 1) hs rfl Try.underlying30 I30 rfl hol) ?_
        refine l_call (r_call Try.func10 rfl rfl) ?_
        refine Calls.mono (pack_c X.1 hok (pack_body (hpo h2')) _) ?_
        rintro e w_ ⟨rfl, hb6⟩
        refine ⟨_, rfl, ?_⟩
        have hs := hs.below_ hb6
        rw [hpo h2', Eng.ofL_toL]
        refine l_v (r_move rfl) ?_
        refine l_v (r_extract rfl rfl) ?_
        refine l_v (r_extract rfl rfl) ?_
        refine l_v (by first | exact (r_assign (v := sV _) rfl) | exact (r_assign rfl)) ?_
        refine l_v (by first | exact (r_assign (v := iV _) rfl) | exact (r_assign rfl)) ?_
        refine l_nil (nrm_then ?_)
        refine c_rseq ?_
        refine l_v (by first | exact (r_move (v := iV _) rfl) | exact (r_move rfl)) ?_
        refine l_v (r_eqli rfl rfl) ?_
        refine l_v (by first | exact (r_move (v := bV _) rfl) | exact (r_move rfl)) ?_
        refine l_vg (by first | exact (r_move (v := sV _) rfl) | exact (r_move rfl)) rfl (rfl) ?_
        refine l_vg (by first | exact (r_move (v := sV _) rfl) | exact (r_move rfl)) rfl (rfl) ?_
        refine l_vg (r_eqls rfl rfl) rfl (rfl) ?_
        refine l_v (r_pick_t rfl rfl rfl) ?_
        refine l_v (by first | exact (r_assign (v := bV _) rfl) | exact (r_assign rfl)) ?_
        refine l_nil (nrm_then ?_)
        refine c_ret ?_
        show Fin _ _ _ _ _
        refine fin1 rfl ?_
        exact ⟨congrArg Ending.returned (congrArg Value.bool (decide_eq_true rfl)), hs.below⟩
end Go.Proofs.Ytiipibmliffghaa.Box
