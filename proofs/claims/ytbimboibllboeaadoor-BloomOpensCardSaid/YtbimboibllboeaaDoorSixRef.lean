/- The walks of the document's numbers and texts. -/
import Derived.Test.YtbimboibllboeaaDoorSixWr
namespace Go.Proofs.YtbimboibllboeaaDoor.Six
open Go Go.RowKit Go.Proofs.YtbimboibllboeaaDoor.Eng
set_option linter.unusedVariables false
set_option maxRecDepth 100000
theorem mod64 (x : BitVec 64) : (x % 64).toNat = x.toNat % 64 := by rw [BitVec.toNat_umod]; rfl
theorem div64 (x : BitVec 64) : (x / 64).toNat = x.toNat / 64 := by rw [BitVec.toNat_udiv]; rfl
set_option maxHeartbeats 2000000 in
theorem refgroups_c (x : BitVec 64) (mk : Nat) (hmk : mk ≤ 128) (w0 w : World) (R : List HP) (hs : Sep w0 w R) :
    Calls Tryd.prog 50 #[u64V x, iV (mk : Int)] w fun e w' => e = .returned (sV (ofL (enc mk x.toNat))) ∧ Sep w0 w' R := by
  have hx := x.isLt
  have hm := mod64 x
  have hel := enc_len mk x.toNat hx
  refine enter (P := Tryd.prog) Tryd.func50 rfl rfl ?_
  refine c_rseq ?_
  refine l_v (by first | exact (r_assign (v := sV _) rfl) | exact (r_assign rfl)) ?_
  refine l_nil (nrm_then ?_)
  refine c_rseq ?_
  refine l_v (by first | exact (r_move (v := iV _) rfl) | exact (r_move rfl)) ?_
  refine l_v (by first | exact (r_move (v := u64V _) rfl) | exact (r_move rfl)) ?_
  refine l_v (r_rem64 (b := 64) rfl rfl (by first | decide | omega)) ?_
  refine l_v (r_cv_64i' Tryd.underlying70 Tryd.underlying3 rfl (by rw [hm]; omega)) ?_
  refine l_v (r_addi rfl rfl (by rw [hm]; omega)) ?_
  refine l_v (r_cv_i8 Tryd.underlying3 Tryd.underlying5 rfl (by omega)) ?_
  rw [show ((mk : Int) + ((x % 64).toNat : Int)).toNat = mk + x.toNat % 64 by rw [hm]; omega]
  refine l_lit1 [u8V _] hs Tryd.underlying44 I5 rfl (by simp [Value.oneCell']) rfl (by decide) (by decide) ?_
  intro b12 w12 hs hB12 hlt12
  refine l_v (r_cv_bs (l := [UInt8.ofNat (mk + x.toNat % 64)]) Tryd.underlying44 Tryd.underlying5 Tryd.underlying9 rfl (rd_blk (hs.at_ 0).1 rfl (by decide))) ?_
  refine l_v (by first | exact (r_assign (v := sV _) rfl) | exact (r_assign rfl)) ?_
  refine l_nil (nrm_then ?_)
  refine c_seq ?_
  refine c_rseq ?_
  refine l_v (by first | exact (r_move (v := u64V _) rfl) | exact (r_move rfl)) ?_
  refine l_v (r_quo64 (b := 64) rfl rfl (by first | decide | omega)) ?_
  refine l_v (by first | exact (r_assign (v := u64V _) rfl) | exact (r_assign rfl)) ?_
  refine l_nil (nrm_then ?_)
  refine c_block ?_
  have hs := hs.drop
  refine c_loopn [4] (fun m f' w' => ∃ y t, m = y.toNat ∧ f' 0 = u64V y ∧ f' 5 = sV (ofL t) ∧ high y.toNat ++ t = enc mk x.toNat ∧ Sep w0 w' R) ?_ ?_
  · refine ⟨_, x / 64, [UInt8.ofNat (mk + x.toNat % 64)], rfl, rfl, rfl, ?_, hs⟩
    rw [div64]; rfl
  · rintro m g w_ ⟨y, t, hy, h0, h5, he, hs⟩
    subst hy
    have hy64 := div64 y
    have hm := mod64 y
    have htl : t.length ≤ 11 := by have := congrArg List.length he; rw [List.length_append] at this; omega
    refine OkC.env ?_ (fixH (L := [(0, _), (5, _)]) ⟨h0, h5, trivial⟩)
    clear h0 h5
    refine c_seq ?_
    refine c_rseq ?_
    refine l_v (by first | exact (r_move (v := u64V _) rfl) | exact (r_move rfl)) ?_
    refine l_v (r_gtr64 (b := 0) rfl rfl) ?_
    refine l_nil (nrm_then ?_)
    refine c_cond rfl (fun h => ?_) (fun h => ?_)
    · have hpos : y.toNat ≠ 0 := by have h' : y.toNat > 0 := of_decide_eq_true h; omega
      replace h := of_decide_eq_true h
      refine c_skip (nrm_then ?_)
      refine c_seq ?_
      refine c_block ?_
      refine c_region ?_
      refine l_v (by first | exact (r_move (v := u64V _) rfl) | exact (r_move rfl)) ?_
      refine l_v (r_rem64 (b := 64) rfl rfl (by first | decide | omega)) ?_
      refine l_v (r_cv_648 Tryd.underlying70 Tryd.underlying5 rfl) ?_
      rw [hm]
      refine l_lit1 [u8V _] hs Tryd.underlying44 I5 rfl (by simp [Value.oneCell']) rfl (by decide) (by decide) ?_
      intro b23 w23 hs hB23 hlt23
      refine l_v (r_cv_bs (l := [UInt8.ofNat (y.toNat % 64)]) Tryd.underlying44 Tryd.underlying5 Tryd.underlying9 rfl (rd_blk (hs.at_ 0).1 rfl (by decide))) ?_
      refine l_v (by first | exact (r_move (v := sV _) rfl) | exact (r_move rfl)) ?_
      refine l_v (r_adds rfl rfl (by show 1 + t.length ≤ _; omega)) ?_
      refine l_v (by first | exact (r_assign (v := sV _) rfl) | exact (r_assign rfl)) ?_
      refine l_nil (nrm_block (nrm_then ?_))
      refine c_region ?_
      refine l_v (by first | exact (r_move (v := u64V _) rfl) | exact (r_move rfl)) ?_
      refine l_v (r_quo64 (b := 64) rfl rfl (by first | decide | omega)) ?_
      refine l_v (by first | exact (r_assign (v := u64V _) rfl) | exact (r_assign rfl)) ?_
      refine l_nil (nrm_then ?_)
      refine And.intro (by refine ⟨?_, trivial⟩ <;> ((conv => lhs; whnf); (try conv => rhs; whnf))) ?_
      refine ⟨(y / 64).toNat, by rw [hy64]; omega, y / 64, [UInt8.ofNat (y.toNat % 64)] ++ t, rfl, rfl, ?_, ?_, hs.drop⟩
      · show sV _ = sV _
        exact congrArg Value.string (toL_inj (by rw [toL_append]))
      · rw [hy64, ← he, high_pos hpos, List.append_assoc]
    · have h0 : y.toNat = 0 := by have h' : ¬ y.toNat > 0 := of_decide_eq_false h; omega
      rw [h0, high_zero, List.nil_append] at he
      replace h := of_decide_eq_false h
      refine c_exit (ex_then (ex_then (ex_hit (nrm_then ?_))))
      refine c_rseq ?_
      refine l_v (by first | exact (r_move (v := sV _) rfl) | exact (r_move rfl)) ?_
      refine l_v (by first | exact (r_assign (v := sV _) rfl) | exact (r_assign rfl)) ?_
      refine l_nil (nrm_then ?_)
      refine c_ret ?_
      show Fin _ _ _ _ _
      refine fin1 rfl ?_
      rw [← he]
      exact ⟨rfl, hs⟩
theorem refwhole_c (n : Int) (hn : -9223372036854775808 ≤ n ∧ n ≤ 9223372036854775807) (w0 w : World) (R : List HP) (hs : Sep w0 w R) :
    Calls Tryd.prog 38 #[iV n] w fun e w' => e = .returned (sV (ofL (encW n))) ∧ Sep w0 w' R := by
  unfold encW
  refine enter (P := Tryd.prog) Tryd.func38 rfl rfl ?_
  refine c_rseq ?_
  refine l_v (by first | exact (r_assign (v := sV _) rfl) | exact (r_assign rfl)) ?_
  refine l_nil (nrm_then ?_)
  refine c_seq ?_
  refine c_rseq ?_
  refine l_v (by first | exact (r_move (v := iV _) rfl) | exact (r_move rfl)) ?_
  refine l_v (r_lssi rfl rfl) ?_
  refine l_nil (nrm_then ?_)
  refine c_cond rfl (fun h => ?_) (fun h => ?_)
  · replace h := of_decide_eq_true h
    refine c_rseq ?_
    refine l_v (by first | exact (r_move (v := iV _) rfl) | exact (r_move rfl)) ?_
    refine l_v (r_addi rfl rfl (by omega)) ?_
    refine l_v (r_negi rfl (by omega)) ?_
    refine l_v (r_cv_i64 Tryd.underlying3 Tryd.underlying70 rfl) ?_
    have e : (BitVec.ofInt 64 (-(n + 1))).toNat = (-(n + 1)).toNat := by rw [BitVec.toNat_ofInt]; omega
    refine l_call (r_call Tryd.func50 rfl rfl) ?_
    refine Calls.mono (refgroups_c (BitVec.ofInt 64 (-(n + 1))) 128 (by decide) w0 _ _ hs) ?_
    rintro e w_ ⟨rfl, hs⟩
    refine ⟨_, rfl, ?_⟩
    refine l_v (by first | exact (r_assign (v := sV _) rfl) | exact (r_assign rfl)) ?_
    refine l_nil (nrm_then ?_)
    refine c_ret (ret_then ?_)
    show Fin _ _ _ _ _
    refine fin1 rfl ?_
    rw [if_pos h, ← e]
    exact ⟨rfl, hs⟩
  · replace h := of_decide_eq_false h
    refine c_skip (nrm_then ?_)
    refine c_rseq ?_
    refine l_v (by first | exact (r_move (v := iV _) rfl) | exact (r_move rfl)) ?_
    refine l_v (r_cv_i64 Tryd.underlying3 Tryd.underlying70 rfl) ?_
    have e : (BitVec.ofInt 64 n).toNat = n.toNat := by rw [BitVec.toNat_ofInt]; omega
    refine l_call (r_call Tryd.func50 rfl rfl) ?_
    refine Calls.mono (refgroups_c (BitVec.ofInt 64 n) 64 (by decide) w0 _ _ hs) ?_
    rintro e w_ ⟨rfl, hs⟩
    refine ⟨_, rfl, ?_⟩
    refine l_v (by first | exact (r_assign (v := sV _) rfl) | exact (r_assign rfl)) ?_
    refine l_nil (nrm_then ?_)
    refine c_ret ?_
    show Fin _ _ _ _ _
    refine fin1 rfl ?_
    rw [if_neg h, ← e]
    exact ⟨rfl, hs⟩
theorem encW_nat (n : Nat) : encW (n : Int) = enc 64 n := by unfold encW; rw [if_neg (by omega), Int.toNat_natCast]
theorem reftext_c (s : ByteArray) (hz : s.size ≤ 9223372036854775796) (w0 w : World) (R : List HP) (hs : Sep w0 w R) :
    Calls Tryd.prog 39 #[sV s] w fun e w' => e = .returned (sV (ofL (encT (toL s)))) ∧ Sep w0 w' R := by
  have hl := toL_size s
  have hel := encW_len (s.size : Int) (by omega)
  refine enter (P := Tryd.prog) Tryd.func39 rfl rfl ?_
  refine c_rseq ?_
  refine l_v (by first | exact (r_assign (v := sV _) rfl) | exact (r_assign rfl)) ?_
  refine l_nil (nrm_then ?_)
  refine c_rseq ?_
  refine l_v (by first | exact (r_move (v := sV _) rfl) | exact (r_move rfl)) ?_
  refine l_v (r_len_s Tryd.underlying9 rfl) ?_
  refine l_call (r_call Tryd.func38 rfl rfl) ?_
  refine Calls.mono (refwhole_c (s.size : Int) (by omega) w0 _ _ hs) ?_
  rintro e w_ ⟨rfl, hs⟩
  refine ⟨_, rfl, ?_⟩
  refine l_v (by first | exact (r_move (v := sV _) rfl) | exact (r_move rfl)) ?_
  refine l_v (r_adds rfl rfl (by show (encW (s.size : Int)).length + _ ≤ _; omega)) ?_
  refine l_v (by first | exact (r_assign (v := sV _) rfl) | exact (r_assign rfl)) ?_
  refine l_nil (nrm_then ?_)
  refine c_ret ?_
  show Fin _ _ _ _ _
  refine fin1 rfl ?_
  refine ⟨congrArg Ending.returned (congrArg Value.string (toL_inj ?_)), hs⟩
  rw [toL_append, toL_ofL, toL_ofL, encW_nat]
  unfold encT
  rw [hl]
end Go.Proofs.YtbimboibllboeaaDoor.Six
