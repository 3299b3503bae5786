/- Nil boxes and disks, a full disk, and the walk of the law BoxNil. -/
import Derived.Test.YtiipibmliffghaaBoxDisk
namespace Go.Proofs.Ytiipibmliffghaa.Box
open Go Go.RowKit Go.Proofs.Ytiipibmliffghaa.Eng Go.Proofs.Ytiipibmliffghaa.Six Go.Proofs.Ytiipibmliffghaa.CrcFn Go.Proofs.Ytiipibmliffghaa.Crc Go.Proofs.Ytiipibmliffghaa.Dsk
set_option linter.unusedVariables false
set_option maxRecDepth 100000
theorem find_nil (n : Int) (w : World) :
    Calls Try.prog 48 #[.pointer none, iV n] w fun e w' => e = .returned (.tuple #[.pointer none, iV 8]) ∧ w' = w := by
  refine enter (P := Try.prog) Try.func48 rfl rfl ?_
  refine c_rseq ?_
  refine l_v (r_assign (v := .pointer _) rfl) ?_
  refine l_v (by first | exact (r_assign (v := iV _) rfl) | exact (r_assign rfl)) ?_
  refine l_nil (nrm_then ?_)
  refine c_seq ?_
  refine c_rseq ?_
  refine l_v (r_move (v := .pointer _) rfl) ?_
  refine l_v (by first | exact (r_eqlp_some Try.underlying54 rfl rfl) | exact (r_eqlp_none Try.underlying54 rfl rfl)) ?_
  refine l_v (by first | exact (r_move (v := bV _) rfl) | exact (r_move rfl)) ?_
  refine l_no rfl (rfl) ?_
  refine l_no rfl (rfl) ?_
  refine l_no rfl (rfl) ?_
  refine l_no rfl (rfl) ?_
  refine l_v (r_pick_t rfl rfl rfl) ?_
  refine l_nil (nrm_then ?_)
  refine c_true rfl (rfl) ?_
  refine c_rseq ?_
  refine l_v (r_assign (v := .pointer _) rfl) ?_
  refine l_v (by first | exact (r_assign (v := iV _) rfl) | exact (r_assign rfl)) ?_
  refine l_nil (nrm_then ?_)
  refine c_ret (ret_then ?_)
  show Fin _ _ _ _ _
  refine fin2 rfl ?_
  exact ⟨rfl, rfl⟩
theorem make_nil (t n : Int) (w : World) :
    Calls Try.prog 20 #[.pointer none, iV t, iV n] w fun e w' => e = .returned (iV 8) ∧ w' = w := by
  refine enter (P := Try.prog) Try.func20 rfl rfl ?_
  refine c_rseq ?_
  refine l_v (by first | exact (r_assign (v := iV _) rfl) | exact (r_assign rfl)) ?_
  refine l_nil (nrm_then ?_)
  refine c_rseq ?_
  refine l_v (r_move (v := .pointer _) rfl) ?_
  refine l_v (by first | exact (r_move (v := iV _) rfl) | exact (r_move rfl)) ?_
  refine l_call (r_call Try.func48 rfl rfl) ?_
  refine Calls.mono (find_nil n _) ?_
  rintro e w_ ⟨rfl, hww⟩
  refine ⟨_, rfl, ?_⟩
  refine l_v (r_move rfl) ?_
  refine l_v (r_extract rfl rfl) ?_
  refine l_v (r_extract rfl rfl) ?_
  refine l_v (r_assign (v := .pointer _) rfl) ?_
  refine l_v (by first | exact (r_assign (v := iV _) rfl) | exact (r_assign rfl)) ?_
  refine l_nil (nrm_then ?_)
  refine c_seq ?_
  refine c_block ?_
  refine c_rseq ?_
  refine l_v (by first | exact (r_move (v := iV _) rfl) | exact (r_move rfl)) ?_
  refine l_v (r_eqli rfl rfl) ?_
  refine l_v (by first | exact (r_assign (v := bV _) rfl) | exact (r_assign rfl)) ?_
  refine l_nil (nrm_then ?_)
  refine c_true rfl (rfl) ?_
  refine c_rseq ?_
  refine l_v (by first | exact (r_move (v := iV _) rfl) | exact (r_move rfl)) ?_
  refine l_v (by first | exact (r_assign (v := iV _) rfl) | exact (r_assign rfl)) ?_
  refine l_nil (nrm_then ?_)
  refine c_ret (ret_block (ret_then ?_))
  show Fin _ _ _ _ _
  refine fin1 rfl ?_
  exact ⟨rfl, hww⟩
theorem dread_nil (n a z : Int) (w : World) :
    Calls Try.prog 30 #[.pointer none, iV n, iV a, iV z] w fun e w' => e = .returned (.tuple #[sV ⟨#[]⟩, iV 8]) ∧ w' = w := by
  refine enter (P := Try.prog) Try.func30 rfl rfl ?_
  refine c_rseq ?_
  refine l_v (by first | exact (r_assign (v := sV _) rfl) | exact (r_assign rfl)) ?_
  refine l_v (by first | exact (r_assign (v := iV _) rfl) | exact (r_assign rfl)) ?_
  refine l_nil (nrm_then ?_)
  refine c_rseq ?_
  refine l_v (r_move (v := .pointer _) rfl) ?_
  refine l_v (by first | exact (r_move (v := iV _) rfl) | exact (r_move rfl)) ?_
  refine l_call (r_call Try.func48 rfl rfl) ?_
  refine Calls.mono (find_nil n _) ?_
  rintro e w_ ⟨rfl, hww⟩
  refine ⟨_, rfl, ?_⟩
  refine l_v (r_move rfl) ?_
  refine l_v (r_extract rfl rfl) ?_
  refine l_v (r_extract rfl rfl) ?_
  refine l_v (r_assign (v := .pointer _) rfl) ?_
  refine l_v (by first | exact (r_assign (v := iV _) rfl) | exact (r_assign rfl)) ?_
  refine l_nil (nrm_then ?_)
  refine c_seq ?_
  refine c_block ?_
  refine c_rseq ?_
  refine l_v (by first | exact (r_move (v := iV _) rfl) | exact (r_move rfl)) ?_
  refine l_v (r_neqi rfl rfl) ?_
  refine l_v (by first | exact (r_assign (v := bV _) rfl) | exact (r_assign rfl)) ?_
  refine l_nil (nrm_then ?_)
  refine c_true rfl (rfl) ?_
  refine c_rseq ?_
  refine l_v (by first | exact (r_move (v := iV _) rfl) | exact (r_move rfl)) ?_
  refine l_v (by first | exact (r_assign (v := sV _) rfl) | exact (r_assign rfl)) ?_
  refine l_v (by first | exact (r_assign (v := iV _) rfl) | exact (r_assign rfl)) ?_
  refine l_nil (nrm_then ?_)
  refine c_ret (ret_block (ret_then ?_))
  show Fin _ _ _ _ _
  refine fin2 rfl ?_
  exact ⟨rfl, hww⟩
theorem bbegin_nil (t n : Int) (w : World) :
    Calls Try.prog 24 #[.pointer none, iV t, iV n] w fun e w' => e = .returned (.tuple #[.pointer none, iV 8]) ∧ w' = w := by
  refine enter (P := Try.prog) Try.func24 rfl rfl ?_
  refine c_rseq ?_
  refine l_v (r_assign (v := .pointer _) rfl) ?_
  refine l_v (by first | exact (r_assign (v := iV _) rfl) | exact (r_assign rfl)) ?_
  refine l_nil (nrm_then ?_)
  refine c_seq ?_
  refine c_rseq ?_
  refine l_v (r_move (v := .pointer _) rfl) ?_
  refine l_v (by first | exact (r_move (v := iV _) rfl) | exact (r_move rfl)) ?_
  refine l_v (by first | exact (r_move (v := iV _) rfl) | exact (r_move rfl)) ?_
  refine l_call (r_call Try.func20 rfl rfl) ?_
  refine Calls.mono (make_nil t n _) ?_
  rintro e w_ ⟨rfl, hww⟩
  refine ⟨_, rfl, ?_⟩
  refine l_v (by first | exact (r_assign (v := iV _) rfl) | exact (r_assign rfl)) ?_
  refine l_nil (nrm_then ?_)
  refine c_rseq ?_
  refine l_v (by first | exact (r_move (v := iV _) rfl) | exact (r_move rfl)) ?_
  refine l_v (r_neqi rfl rfl) ?_
  refine l_nil (nrm_then ?_)
  refine c_true rfl (rfl) ?_
  refine c_rseq ?_
  refine l_v (by first | exact (r_move (v := iV _) rfl) | exact (r_move rfl)) ?_
  refine l_v (r_assign (v := .pointer _) rfl) ?_
  refine l_v (by first | exact (r_assign (v := iV _) rfl) | exact (r_assign rfl)) ?_
  refine l_nil (nrm_then ?_)
  refine c_ret (ret_then ?_)
  show Fin _ _ _ _ _
  refine fin2 rfl ?_
  exact ⟨rfl, hww⟩
set_option maxHeartbeats 2000000 in
theorem bread_nil (f a n : Int) (w : World) :
    Calls Try.prog 22 #[.pointer none, plV f a n] w fun e w' => e = .returned (.tuple #[rV Rec.zero, iV 8]) ∧ Below w.heap.size w w' := by
  have hzl := recC_length zero_ok
  refine enter (P := Try.prog) Try.func22 rfl rfl ?_
  have hs := Sep.init w
  refine c_rseq ?_
  refine l_box hs rfl ?_
  intro b3 w3 hs hB3 hlt3
  refine l_alloc hs I30 ?_
  intro b4 w4 hs hB4 hlt4
  refine l_v (by first | exact (r_assign (v := iV _) rfl) | exact (r_assign rfl)) ?_
  refine l_nil (nrm_then ?_)
  refine c_rseq ?_
  refine l_v (r_move (v := .pointer _) rfl) ?_
  refine l_v (by first | exact (r_fieldAddr0 (off := 0) (T := 3) (by kernel_rfl) rfl) | exact (r_fieldAddr (off := 0) (T := 3) (by kernel_rfl) rfl)) ?_
  refine l_v (by first | exact (r_load_at (i := 0) hs rfl Try.underlying3 rfl rfl) | exact (r_load_at (i := 1) hs rfl Try.underlying3 rfl rfl) | exact (r_load_at (i := 2) hs rfl Try.underlying3 rfl rfl) | exact (r_load_at (i := 3) hs rfl Try.underlying3 rfl rfl) | exact (r_load_at (i := 4) hs rfl Try.underlying3 rfl rfl) | exact (r_load_at (i := 5) hs rfl Try.underlying3 rfl rfl) | exact (r_load_at (i := 6) hs rfl Try.underlying3 rfl rfl)) ?_
  refine l_v (by first | exact (r_fieldAddr0 (off := 1) (T := 3) (by kernel_rfl) rfl) | exact (r_fieldAddr (off := 1) (T := 3) (by kernel_rfl) rfl)) ?_
  refine l_v (by first | exact (r_load_at (i := 0) hs rfl Try.underlying3 rfl rfl) | exact (r_load_at (i := 1) hs rfl Try.underlying3 rfl rfl) | exact (r_load_at (i := 2) hs rfl Try.underlying3 rfl rfl) | exact (r_load_at (i := 3) hs rfl Try.underlying3 rfl rfl) | exact (r_load_at (i := 4) hs rfl Try.underlying3 rfl rfl) | exact (r_load_at (i := 5) hs rfl Try.underlying3 rfl rfl) | exact (r_load_at (i := 6) hs rfl Try.underlying3 rfl rfl)) ?_
  refine l_v (by first | exact (r_fieldAddr0 (off := 2) (T := 3) (by kernel_rfl) rfl) | exact (r_fieldAddr (off := 2) (T := 3) (by kernel_rfl) rfl)) ?_
  refine l_v (by first | exact (r_load_at (i := 0) hs rfl Try.underlying3 rfl rfl) | exact (r_load_at (i := 1) hs rfl Try.underlying3 rfl rfl) | exact (r_load_at (i := 2) hs rfl Try.underlying3 rfl rfl) | exact (r_load_at (i := 3) hs rfl Try.underlying3 rfl rfl) | exact (r_load_at (i := 4) hs rfl Try.underlying3 rfl rfl) | exact (r_load_at (i := 5) hs rfl Try.underlying3 rfl rfl) | exact (r_load_at (i := 6) hs rfl Try.underlying3 rfl rfl)) ?_
  have hs : Sep w _ [blk b4 (recC .zero) 30, blk b3 [iV f, iV a, iV n] 53] := hs
  refine l_call (r_call Try.func30 rfl rfl) ?_
  refine Calls.mono (dread_nil f a n _) ?_
  rintro e w_ ⟨rfl, hww⟩
  refine ⟨_, rfl, ?_⟩
  rw [hww]
  refine l_v (r_move rfl) ?_
  refine l_v (r_extract rfl rfl) ?_
  refine l_v (r_extract rfl rfl) ?_
  refine l_v (by first | exact (r_assign (v := sV _) rfl) | exact (r_assign rfl)) ?_
  refine l_v (by first | exact (r_assign (v := iV _) rfl) | exact (r_assign rfl)) ?_
  refine l_nil (nrm_then ?_)
  refine c_seq ?_
  refine c_rseq ?_
  refine l_v (by first | exact (r_move (v := iV _) rfl) | exact (r_move rfl)) ?_
  refine l_v (r_neqi rfl rfl) ?_
  refine l_nil (nrm_then ?_)
  refine c_true rfl (rfl) ?_
  refine c_rseq ?_
  refine l_v (r_build (l := []) rfl bz) ?_
  refine l_v (by first | exact (r_move (v := iV _) rfl) | exact (r_move rfl)) ?_
  refine l_store_whole (i := 0) hs rfl I30 rfl rfl hzl hzl (rec_one _) ?_
  intro w_ hs
  refine l_v (by first | exact (r_assign (v := iV _) rfl) | exact (r_assign rfl)) ?_
  refine l_nil (nrm_then ?_)
  refine c_ret (ret_then ?_)
  show Fin _ _ _ _ _
  refine fin2c rfl rfl (run_loadVar_agg Try.underlying30 rfl I30 hzl (cells_whole (hs.at_ 0).1)) ?_
  exact ⟨rfl, hs.below⟩
set_option maxHeartbeats 2000000 in
theorem badd_nil (r : Rec) (h : r.ok) (w : World) :
    Calls Try.prog 23 #[.pointer none, rV r] w fun e w' => e = .returned (.tuple #[plV 0 0 0, iV 1]) ∧ Below w.heap.size w w' := by
  have hol := recC_length h
  refine enter (P := Try.prog) Try.func23 rfl rfl ?_
  have hs := Sep.init w
  refine c_rseq ?_
  refine l_box hs rfl ?_
  intro b3 w3 hs hB3 hlt3
  refine l_alloc hs I53 ?_
  intro b4 w4 hs hB4 hlt4
  refine l_v (by first | exact (r_assign (v := iV _) rfl) | exact (r_assign rfl)) ?_
  refine l_nil (nrm_then ?_)
  refine c_seq ?_
  refine c_rseq ?_
  refine l_v (r_move (v := .pointer _) rfl) ?_
  refine l_v (by first | exact (r_eqlp_some Try.underlying64 rfl rfl) | exact (r_eqlp_none Try.underlying64 rfl rfl)) ?_
  refine l_nil (nrm_then ?_)
  have hs : Sep w _ [blk b4 (plC 0 0 0) 53, blk b3 (recC r) 30] := hs
  refine c_true rfl (rfl) ?_
  refine c_rseq ?_
  refine l_v (r_build (l := []) rfl bpl0) ?_
  refine l_store_whole (i := 0) hs rfl I53 rfl rfl (pl_len _ _ _) (pl_len _ _ _) (pl_one _ _ _) ?_
  intro w_ hs
  refine l_v (by first | exact (r_assign (v := iV _) rfl) | exact (r_assign rfl)) ?_
  refine l_nil (nrm_then ?_)
  refine c_ret (ret_then ?_)
  show Fin _ _ _ _ _
  refine fin2c rfl rfl (run_loadVar_agg Try.underlying53 rfl I53 (pl_len _ _ _) (cells_whole (hs.at_ 0).1)) ?_
  exact ⟨rfl, hs.below⟩
theorem bfile_nil (w : World) :
    Calls Try.prog 25 #[.pointer none] w fun e w' => e = .returned (iV 0) ∧ w' = w := by
  refine enter (P := Try.prog) Try.func25 rfl rfl ?_
  refine c_rseq ?_
  refine l_v (by first | exact (r_assign (v := iV _) rfl) | exact (r_assign rfl)) ?_
  refine l_nil (nrm_then ?_)
  refine c_seq ?_
  refine c_rseq ?_
  refine l_v (r_move (v := .pointer _) rfl) ?_
  refine l_v (by first | exact (r_eqlp_some Try.underlying64 rfl rfl) | exact (r_eqlp_none Try.underlying64 rfl rfl)) ?_
  refine l_nil (nrm_then ?_)
  refine c_true rfl (rfl) ?_
  refine c_rseq ?_
  refine l_v (by first | exact (r_assign (v := iV _) rfl) | exact (r_assign rfl)) ?_
  refine l_nil (nrm_then ?_)
  refine c_ret (ret_then ?_)
  show Fin _ _ _ _ _
  refine fin1 rfl ?_
  exact ⟨rfl, rfl⟩
theorem bsize_nil (w : World) :
    Calls Try.prog 26 #[.pointer none] w fun e w' => e = .returned (iV 0) ∧ w' = w := by
  refine enter (P := Try.prog) Try.func26 rfl rfl ?_
  refine c_rseq ?_
  refine l_v (by first | exact (r_assign (v := iV _) rfl) | exact (r_assign rfl)) ?_
  refine l_nil (nrm_then ?_)
  refine c_seq ?_
  refine c_rseq ?_
  refine l_v (r_move (v := .pointer _) rfl) ?_
  refine l_v (by first | exact (r_eqlp_some Try.underlying64 rfl rfl) | exact (r_eqlp_none Try.underlying64 rfl rfl)) ?_
  refine l_nil (nrm_then ?_)
  refine c_true rfl (rfl) ?_
  refine c_rseq ?_
  refine l_v (by first | exact (r_assign (v := iV _) rfl) | exact (r_assign rfl)) ?_
  refine l_nil (nrm_then ?_)
  refine c_ret (ret_then ?_)
  show Fin _ _ _ _ _
  refine fin1 rfl ?_
  exact ⟨rfl, rfl⟩
theorem bsync_nil (w : World) :
    Calls Try.prog 27 #[.pointer none] w fun e w' => e = .returned (iV 1) ∧ w' = w := by
  refine enter (P := Try.prog) Try.func27 rfl rfl ?_
  refine c_rseq ?_
  refine l_v (by first | exact (r_assign (v := iV _) rfl) | exact (r_assign rfl)) ?_
  refine l_nil (nrm_then ?_)
  refine c_seq ?_
  refine c_rseq ?_
  refine l_v (r_move (v := .pointer _) rfl) ?_
  refine l_v (by first | exact (r_eqlp_some Try.underlying64 rfl rfl) | exact (r_eqlp_none Try.underlying64 rfl rfl)) ?_
  refine l_nil (nrm_then ?_)
  refine c_true rfl (rfl) ?_
  refine c_rseq ?_
  refine l_v (by first | exact (r_assign (v := iV _) rfl) | exact (r_assign rfl)) ?_
  refine l_nil (nrm_then ?_)
  refine c_ret (ret_then ?_)
  show Fin _ _ _ _ _
  refine fin1 rfl ?_
  exact ⟨rfl, rfl⟩
theorem bbody (s : ByteArray) : Program.built Try.prog 30 [(3, sV s)] = some (recC { Rec.zero with body := toL s }).toArray := by
  refine built_of I30 (places := [(0, 32), (32, 32), (64, 1), (65, 1)]) (by kernel_rfl) (cs := recC .zero) rfl ?_
  exact fill_step (off := 65) (l := [sV s]) rfl rfl (by rw [recC_length zero_ok]; simp) rfl
theorem eqPl (f a n : Int) (w : World) : (Op.equalIn 10000 53 (plV f a n) (plV f a n)).run Try.prog w = .ok true w := by
  have hf := fields_of Try.underlying53
  rw [run_equalIn_struct (P := Try.prog) w 9999 53 (plC f a n).toArray (plC f a n).toArray (by rw [hf]; exact Try.underlying53) (by kernel_rfl), hf]
  refine eqF_step (by simp) (part_flat Try.underlying3 rfl) (part_flat Try.underlying3 rfl) ?_ ?_
  · rw [run_equalIn_int (P := Try.prog) w 9998 3 .i64 .i64 f f Try.underlying3, beq_self_eq_true]
  refine eqF_step (by simp) (part_flat Try.underlying3 rfl) (part_flat Try.underlying3 rfl) ?_ ?_
  · rw [run_equalIn_int (P := Try.prog) w 9998 3 .i64 .i64 a a Try.underlying3, beq_self_eq_true]
  refine eqF_step (by simp) (part_flat Try.underlying3 rfl) (part_flat Try.underlying3 rfl) ?_ ?_
  · rw [run_equalIn_int (P := Try.prog) w 9998 3 .i64 .i64 n n Try.underlying3, beq_self_eq_true]
  rfl
theorem r_eqPl {ρ : Operand → Value} {w : World} {dst : Option Tmp} {ty t' : TypeId} {pos : String} {aft : Array Edge} {g : Option (Nat × Bool)} {x y : Operand} {f a n : Int} (hx : ρ x = plV f a n) (hy : ρ y = plV f a n) : Run Try.prog ρ ⟨dst, .binOp .eql 53 x y t', ty, pos, aft, g⟩ w (bV true) w := by
  left
  have h2 : (binOp .eql 53 (plV f a n) (plV f a n)).run Try.prog w = .ok (.bool true) w := by
    rw [run_eql_struct, eqPl f a n w, Result.andThen_ok]
  simp only [execOp, hx, hy, Sem.run_bind, run_eqGuard_agg (P := Try.prog) w .eql 53 _ _ _ _ (by kernel_rfl), Result.andThen_ok, h2, Sem.run_pure]
theorem make_full : makeS (oneS 1 0 ⟨0, [], -1⟩ 1 1) 0 2 = (oneS 1 0 ⟨0, [], -1⟩ 1 1, 7) := by
  have h1 := one_none 1 0 ⟨0, [], -1⟩ 1 1 2 (by decide)
  unfold makeS
  rw [h1, if_neg (by decide), if_neg (by decide), if_neg (by decide), if_pos (by rfl)]
set_option maxHeartbeats 16000000 in
theorem boxNil_walk {w : World} (n : Int) (hnw : (Lit.int .i64 n).wf = true) (s : ByteArray) (hw : s.size ≤ 140737488351232) :
    Calls Try.prog 7 #[iV n, sV s] w fun e w' => e = .returned (bV true) ∧ Below w.heap.size w w' := by
  refine enter (P := Try.prog) Try.func7 rfl rfl ?_
  have hs := Sep.init w
  have hsl := toL_size s
  refine c_rseq ?_
  refine l_v (by first | exact (r_assign (v := bV _) rfl) | exact (r_assign rfl)) ?_
  refine l_nil (nrm_then ?_)
  refine c_seq ?_
  refine c_rseq ?_
  refine l_call (r_call Try.func9 rfl rfl) ?_
  refine Calls.mono (awake_c _) ?_
  rintro e w_ ⟨rfl, hb⟩
  refine ⟨_, rfl, ?_⟩
  have hs := hs.below_ hb
  refine l_v (r_not rfl) ?_
  refine l_v (by first | exact (r_move (v := bV _) rfl) | exact (r_move rfl)) ?_
  refine l_vg (by first | exact (r_move (v := sV _) rfl) | exact (r_move rfl)) rfl (rfl) ?_
  refine l_vg (r_len_s Try.underlying9 rfl) rfl (rfl) ?_
  refine l_vg (r_gtri rfl rfl) rfl (rfl) ?_
  refine l_v (r_pick_f rfl rfl rfl) ?_
  refine l_nil (nrm_then ?_)
  refine c_cond rfl (fun h1 => ?_) (fun h1 => ?_)
  · replace h1 := of_decide_eq_true h1
    refine c_rseq ?_
    refine l_call (r_call Try.func9 rfl rfl) ?_
    refine Calls.mono (awake_c _) ?_
    rintro e w_ ⟨rfl, hb⟩
    refine ⟨_, rfl, ?_⟩
    have hs := hs.below_ hb
    refine l_v (by first | exact (r_assign (v := bV _) rfl) | exact (r_assign rfl)) ?_
    refine l_nil (nrm_then ?_)
    refine c_ret (ret_then ?_)
    show Fin _ _ _ _ _
    refine fin1 rfl ?_
    exact ⟨rfl, hs.below⟩
  · obtain ⟨r, hr⟩ : ∃ r : Rec, r = { Rec.zero with body := toL s } := ⟨_, rfl⟩
    have hok : r.ok := by rw [hr]; exact zero_ok
    have hbl : r.body.length = s.size := by rw [hr]; exact hsl
    have hbb := bbody s
    rw [← hr] at hbb
    have hpk : packR r = (put (bodyOf r), 0) := by
      have : s.size ≤ 8192 := by have := of_decide_eq_false h1; omega
      unfold packR
      rw [if_neg (by omega), if_neg (fun h => h.2 (by rw [hr]; rfl))]
    have hpl : 4 ≤ (put (bodyOf r)).length := by unfold put; rw [List.length_append, four_length]; omega
    have hg0 := good_new (hot := 1) (cold := 0) (by decide) (by decide)
    have hg1 := good_one (hot := 1) (cold := 0) (by decide) (by decide)
    have hm := make_new (hot := 1) (cold := 0) (by decide)
    have hX : baddX (oneS 1 0 ⟨0, [], -1⟩ 1 1) 1 r = (oneS 1 0 ⟨0, [], -1⟩ 1 1, 7) := by
      unfold baddX
      rw [hpk, if_neg (fun h => h rfl), one_add, if_pos]
      unfold blocksN
      simp only [List.length_nil]
      omega
    have hN : baddN (oneS 1 0 ⟨0, [], -1⟩ 1 1) 1 0 r = 0 := by unfold baddN; rw [hX, if_pos (by decide)]
    have hV : baddV (oneS 1 0 ⟨0, [], -1⟩ 1 1) 1 0 r = plV 0 0 0 := by unfold baddV; rw [hX, if_pos (by decide)]
    replace h1 := of_decide_eq_false h1
    refine c_skip (nrm_then ?_)
    refine c_rseq ?_
    refine l_v (r_assign (v := .pointer _) rfl) ?_
    refine l_nil (nrm_then ?_)
    refine c_rseq ?_
    refine l_v (r_move (v := .pointer _) rfl) ?_
    refine l_v (by first | exact (r_move (v := sV _) rfl) | exact (r_move rfl)) ?_
    refine l_v (r_build rfl hbb) ?_
    refine l_call (r_call Try.func23 rfl rfl) ?_
    refine Calls.mono (badd_nil r hok _) ?_
    rintro e w_ ⟨rfl, hb⟩
    refine ⟨_, rfl, ?_⟩
    have hs := hs.below_ hb
    refine l_v (r_move rfl) ?_
    refine l_v (r_extract rfl rfl) ?_
    refine l_v (r_extract rfl rfl) ?_
    refine l_alloc hs I53 ?_
    intro b6 w6 hs hB6 hlt6
    refine l_store_whole (i := 0) hs rfl I53 rfl rfl (pl_len _ _ _) (pl_len 0 0 0) (pl_one _ _ _) ?_
    intro w_ hs
    have hs : Eng.Sep w w_ [blk b6 (plC 0 0 0) 53] := hs
    refine l_v (by first | exact (r_assign (v := iV _) rfl) | exact (r_assign rfl)) ?_
    refine l_nil (nrm_then ?_)
    refine c_rseq ?_
    refine l_v (by first | exact (r_move (v := iV _) rfl) | exact (r_move rfl)) ?_
    refine l_call (r_call Try.func24 rfl rfl) ?_
    refine Calls.mono (bbegin_nil 0 n _) ?_
    rintro e w_ ⟨rfl, hww⟩
    refine ⟨_, rfl, ?_⟩
    rw [hww]
    refine l_v (r_move rfl) ?_
    refine l_v (r_extract rfl rfl) ?_
    refine l_v (r_extract rfl rfl) ?_
    refine l_v (r_assign (v := .pointer _) rfl) ?_
    refine l_v (by first | exact (r_assign (v := iV _) rfl) | exact (r_assign rfl)) ?_
    refine l_nil (nrm_then ?_)
    refine c_rseq ?_
    refine l_v (by first | exact (r_move (v := iV _) rfl) | exact (r_move rfl)) ?_
    refine l_v (r_build rfl (bpl1 n)) ?_
    refine l_call (r_call Try.func22 rfl rfl) ?_
    refine Calls.mono (bread_nil n 0 0 _) ?_
    rintro e w_ ⟨rfl, hb⟩
    refine ⟨_, rfl, ?_⟩
    have hs := hs.below_ hb
    refine l_v (r_move rfl) ?_
    refine l_v (r_extract rfl rfl) ?_
    refine l_v (r_extract rfl rfl) ?_
    refine l_alloc hs I30 ?_
    intro b10 w10 hs hB10 hlt10
    refine l_store_whole (i := 0) hs rfl I30 rfl rfl (recC_length zero_ok) (recC_length zero_ok) (rec_one _) ?_
    intro w_ hs
    have hs := hs.drop
    refine l_v (by first | exact (r_assign (v := iV _) rfl) | exact (r_assign rfl)) ?_
    refine l_nil (nrm_then ?_)
    refine c_rseq ?_
    refine l_call (r_call Try.func19 rfl rfl) ?_
    refine Calls.mono (new_ok 1 0 (by decide) w _ _ hs) ?_
    rintro e w_ ⟨b, rfl, hs⟩
    refine ⟨_, rfl, ?_⟩
    refine l_v (r_move rfl) ?_
    refine l_v (r_extract rfl rfl) ?_
    refine l_v (r_extract rfl rfl) ?_
    refine l_v (r_assign (v := .pointer _) rfl) ?_
    refine l_v (by first | exact (r_assign (v := iV _) rfl) | exact (r_assign rfl)) ?_
    refine l_nil (nrm_then ?_)
    refine c_rseq ?_
    refine l_v (r_move (v := .pointer _) rfl) ?_
    refine l_call (r_call Try.func24 rfl rfl) ?_
    refine Calls.mono (bbegin_c b (newS 1 0) hg0 (by decide) 0 1 w _ _ hs) ?_
    rintro e w_ ⟨q, rfl, hq, hs⟩
    refine ⟨_, rfl, ?_⟩
    rw [hm] at hs hq ⊢
    obtain ⟨bl, rfl⟩ : ∃ bl, q = some bl := by
      cases q with
      | none => exact absurd (hq.1 rfl) (fun h => h rfl)
      | some bl => exact ⟨bl, rfl⟩
    have hs : Eng.Sep w w_ (boxH bl b 1 0 :: diskH b (oneS 1 0 ⟨0, [], -1⟩ 1 1) :: blk b6 (plC 0 0 0) 53 :: []) := hs
    refine l_v (r_move rfl) ?_
    refine l_v (r_extract rfl rfl) ?_
    refine l_v (r_extract rfl rfl) ?_
    refine l_v (r_assign (v := .pointer _) rfl) ?_
    refine l_v (by first | exact (r_assign (v := iV _) rfl) | exact (r_assign rfl)) ?_
    refine l_nil (nrm_then ?_)
    refine c_rseq ?_
    refine l_v (r_move (v := .pointer _) rfl) ?_
    refine l_v (by first | exact (r_move (v := sV _) rfl) | exact (r_move rfl)) ?_
    refine l_v (r_build rfl hbb) ?_
    refine l_call (r_call Try.func23 rfl rfl) ?_
    refine Calls.mono (badd_c bl b 1 0 _ hg1 (by decide) (by decide) r hok (by omega) w _ _ hs) ?_
    rintro e w_ ⟨rfl, hs⟩
    refine ⟨_, rfl, ?_⟩
    rw [hX, hN] at hs
    rw [hX, hV]
    refine l_v (r_move rfl) ?_
    refine l_v (r_extract rfl rfl) ?_
    refine l_v (r_extract rfl rfl) ?_
    refine l_alloc hs I53 ?_
    intro b16 w16 hs hB16 hlt16
    refine l_store_whole (i := 0) hs rfl I53 rfl rfl (pl_len _ _ _) (pl_len 0 0 0) (pl_one _ _ _) ?_
    intro w_ hs
    have hs : Eng.Sep w w_ (blk b16 (plC 0 0 0) 53 :: boxH bl b 1 0 :: diskH b (oneS 1 0 ⟨0, [], -1⟩ 1 1) :: blk b6 (plC 0 0 0) 53 :: []) := hs
    refine l_v (by first | exact (r_assign (v := iV _) rfl) | exact (r_assign rfl)) ?_
    refine l_nil (nrm_then ?_)
    refine c_rseq ?_
    refine l_v (r_move (v := .pointer _) rfl) ?_
    refine l_call (r_call Try.func24 rfl rfl) ?_
    refine Calls.mono (bbegin_c b _ hg1 (by decide) 0 2 w _ _ (hs.pull 2)) ?_
    rintro e w_ ⟨q2, rfl, hq2, hs⟩
    refine ⟨_, rfl, ?_⟩
    rw [make_full] at hs hq2 ⊢
    obtain rfl : q2 = none := hq2.2 (by decide)
    have hs : Eng.Sep w w_ (diskH b (oneS 1 0 ⟨0, [], -1⟩ 1 1) :: blk b16 (plC 0 0 0) 53 :: boxH bl b 1 0 :: blk b6 (plC 0 0 0) 53 :: []) := hs
    refine l_v (r_move rfl) ?_
    refine l_v (r_extract rfl rfl) ?_
    refine l_v (r_extract rfl rfl) ?_
    refine l_v (r_assign (v := .pointer _) rfl) ?_
    refine l_v (by first | exact (r_assign (v := iV _) rfl) | exact (r_assign rfl)) ?_
    refine l_nil (nrm_then ?_)
    refine c_rseq ?_
    refine l_v (r_load_whole (i := 3) hs rfl Try.underlying53 I53 rfl (pl_len _ _ _)) ?_
    refine l_v (r_build (l := []) rfl bpl0) ?_
    refine l_v (r_eqPl rfl rfl) ?_
    refine l_v (by first | exact (r_move (v := bV _) rfl) | exact (r_move rfl)) ?_
    refine l_vg (by first | exact (r_move (v := iV _) rfl) | exact (r_move rfl)) rfl (rfl) ?_
    refine l_vg (r_eqli rfl rfl) rfl (rfl) ?_
    refine l_v (r_pick_t rfl rfl rfl) ?_
    refine l_v (by first | exact (r_move (v := bV _) rfl) | exact (r_move rfl)) ?_
    refine l_vg (r_move (v := .pointer _) rfl) rfl (rfl) ?_
    refine l_callg (r_call Try.func25 rfl rfl) rfl (rfl) ?_
    refine Calls.mono (bfile_nil _) ?_
    rintro e w_ ⟨rfl, hv1⟩
    refine ⟨_, rfl, ?_⟩
    rw [hv1]
    refine l_vg (r_move (v := .pointer _) rfl) rfl (rfl) ?_
    refine l_callg (r_call Try.func26 rfl rfl) rfl (rfl) ?_
    refine Calls.mono (bsize_nil _) ?_
    rintro e w_ ⟨rfl, hv2⟩
    refine ⟨_, rfl, ?_⟩
    rw [hv2]
    refine l_vg (r_addi rfl rfl (by omega)) rfl (rfl) ?_
    refine l_vg (r_eqli rfl rfl) rfl (rfl) ?_
    refine l_v (r_pick_t rfl rfl rfl) ?_
    refine l_v (by first | exact (r_move (v := bV _) rfl) | exact (r_move rfl)) ?_
    refine l_vg (r_move (v := .pointer _) rfl) rfl (rfl) ?_
    refine l_callg (r_call Try.func27 rfl rfl) rfl (rfl) ?_
    refine Calls.mono (bsync_nil _) ?_
    rintro e w_ ⟨rfl, hv3⟩
    refine ⟨_, rfl, ?_⟩
    rw [hv3]
    refine l_vg (r_eqli rfl rfl) rfl (rfl) ?_
    refine l_v (r_pick_t rfl rfl rfl) ?_
    refine l_v (by first | exact (r_move (v := bV _) rfl) | exact (r_move rfl)) ?_
    refine l_vg (r_move (v := .pointer _) rfl) rfl (rfl) ?_
    refine l_vg (by first | exact (r_eqlp_some Try.underlying64 rfl rfl) | exact (r_eqlp_none Try.underlying64 rfl rfl)) rfl (rfl) ?_
    refine l_v (r_pick_t rfl rfl rfl) ?_
    refine l_v (by first | exact (r_move (v := bV _) rfl) | exact (r_move rfl)) ?_
    refine l_vg (by first | exact (r_move (v := iV _) rfl) | exact (r_move rfl)) rfl (rfl) ?_
    refine l_vg (r_eqli rfl rfl) rfl (rfl) ?_
    refine l_v (r_pick_t rfl rfl rfl) ?_
    refine l_v (by first | exact (r_move (v := bV _) rfl) | exact (r_move rfl)) ?_
    refine l_vg (by first | exact (r_move (v := iV _) rfl) | exact (r_move rfl)) rfl (rfl) ?_
    refine l_vg (r_eqli rfl rfl) rfl (rfl) ?_
    refine l_v (r_pick_t rfl rfl rfl) ?_
    refine l_v (by first | exact (r_move (v := bV _) rfl) | exact (r_move rfl)) ?_
    refine l_vg (by first | exact (r_move (v := iV _) rfl) | exact (r_move rfl)) rfl (rfl) ?_
    refine l_vg (r_eqli rfl rfl) rfl (rfl) ?_
    refine l_v (r_pick_t rfl rfl rfl) ?_
    refine l_v (by first | exact (r_move (v := bV _) rfl) | exact (r_move rfl)) ?_
    refine l_vg (r_load_whole (i := 1) hs rfl Try.underlying53 I53 rfl (pl_len _ _ _)) rfl (rfl) ?_
    refine l_vg (r_build (l := []) rfl bpl0) rfl (rfl) ?_
    refine l_vg (r_eqPl rfl rfl) rfl (rfl) ?_
    refine l_v (r_pick_t rfl rfl rfl) ?_
    refine l_v (by first | exact (r_move (v := bV _) rfl) | exact (r_move rfl)) ?_
    refine l_vg (by first | exact (r_move (v := iV _) rfl) | exact (r_move rfl)) rfl (rfl) ?_
    refine l_vg (r_eqli rfl rfl) rfl (rfl) ?_
    refine l_v (r_pick_t rfl rfl rfl) ?_
    refine l_v (by first | exact (r_move (v := bV _) rfl) | exact (r_move rfl)) ?_
    refine l_vg (r_move (v := .pointer _) rfl) rfl (rfl) ?_
    refine l_callg (r_call Try.func26 rfl rfl) rfl (rfl) ?_
    refine Calls.mono (bsize_c bl b 1 0 w _ _ (hs.pull 2)) ?_
    rintro e w_ ⟨rfl, hv4⟩
    refine ⟨_, rfl, ?_⟩
    rw [hv4]
    refine l_vg (r_eqli rfl rfl) rfl (rfl) ?_
    refine l_v (r_pick_t rfl rfl rfl) ?_
    refine l_v (by first | exact (r_move (v := bV _) rfl) | exact (r_move rfl)) ?_
    refine l_vg (by first | exact (r_move (v := iV _) rfl) | exact (r_move rfl)) rfl (rfl) ?_
    refine l_vg (r_eqli rfl rfl) rfl (rfl) ?_
    refine l_v (r_pick_t rfl rfl rfl) ?_
    refine l_v (by first | exact (r_assign (v := bV _) rfl) | exact (r_assign rfl)) ?_
    refine l_nil (nrm_then ?_)
    refine c_ret ?_
    show Fin _ _ _ _ _
    refine fin1 rfl ?_
    exact ⟨rfl, hs.below⟩
end Go.Proofs.Ytiipibmliffghaa.Box
