/- The walks of six's writer, and of the document's. -/
import Derived.Test.YtbimboibllboeaaDoorSixRd
namespace Go.Proofs.YtbimboibllboeaaDoor.Six
open Go Go.RowKit Go.Proofs.YtbimboibllboeaaDoor.Eng
set_option linter.unusedVariables false
set_option maxRecDepth 100000
/-- Bytes of the call's own. -/
abbrev ow (v : Value) (l : List UInt8) : HP := RowC 5 1 v l.length (l.map u8V)
theorem ow_app {w0 w : World} {v : Value} {l m : List UInt8} {L : List HP} (hs : Sep w0 w (RowC 5 1 v (l.length + m.length) (l.map u8V ++ m.map u8V) :: L)) : Sep w0 w (ow v (l ++ m) :: L) := by
  unfold ow; rw [List.length_append, List.map_append]; exact hs
theorem ow_app1 {w0 w : World} {v : Value} {l : List UInt8} {c : UInt8} {L : List HP} (hs : Sep w0 w (RowC 5 1 v (l.length + 1) (l.map u8V ++ [u8V c]) :: L)) : Sep w0 w (ow v (l ++ [c]) :: L) := ow_app (m := [c]) hs
theorem ow_apps {w0 w : World} {v : Value} {l : List UInt8} {s : ByteArray} {L : List HP} (hs : Sep w0 w (RowC 5 1 v (l.length + s.size) (l.map u8V ++ sCells s) :: L)) : Sep w0 w (ow v (l ++ toL s) :: L) := by
  refine ow_app (m := toL s) ?_
  rw [toL_size]
  exact hs
/-- A writer that has gathered these bytes. -/
def wtr (b : Nat) (l : List UInt8) : HP := Eng.ex fun v => stars [blk b [v] 77, ow v l]
theorem wtr_open {w0 w : World} {b : Nat} {l : List UInt8} {L : List HP} (hs : Sep w0 w (wtr b l :: L)) : ∃ v, Sep w0 w (blk b [v] 77 :: ow v l :: L) := by
  obtain ⟨v, hs⟩ := hs.ex
  exact ⟨v, hs.unfold⟩
theorem wtr_shut {w0 w : World} {b : Nat} {l : List UInt8} {v : Value} {L : List HP} (hs : Sep w0 w (blk b [v] 77 :: ow v l :: L)) : Sep w0 w (wtr b l :: L) := by
  have h : Sep w0 w ([blk b [v] 77, ow v l] ++ L) := hs
  exact h.fold.inEx (F := fun v => stars [blk b [v] 77, ow v l]) v
theorem shr6 (x : BitVec 64) (j : Nat) : (x >>> (6 * j)).toNat = x.toNat / 64 ^ j := by
  rw [BitVec.toNat_ushiftRight, Nat.shiftRight_eq_div_pow, Nat.pow_mul]
theorem dig6 (x : BitVec 64) (j : Nat) : UInt8.ofNat (x >>> (6 * j) &&& 63).toNat = UInt8.ofNat (x.toNat / 64 ^ j % 64) := by
  rw [BitVec.toNat_and, shr6]
  congr 1
  exact Nat.and_two_pow_sub_one_eq_mod _ 6
theorem last6 (x : BitVec 64) (m : UInt8) : m + UInt8.ofNat (x &&& 63).toNat = UInt8.ofNat (m.toNat + x.toNat % 64) := by
  rw [BitVec.toNat_and, show (63 : BitVec 64).toNat = 2 ^ 6 - 1 from rfl, Nat.and_two_pow_sub_one_eq_mod]
  apply UInt8.toNat_inj.1
  rw [UInt8.toNat_add, UInt8.toNat_ofNat', UInt8.toNat_ofNat']
  omega
theorem pow64_pos (j : Nat) : 0 < 64 ^ j := Nat.pow_pos (by omega)
theorem div_next (x j : Nat) : x / 64 ^ (j + 1) = x / 64 ^ j / 64 := by rw [Nat.div_div_eq_div_mul, ← Nat.pow_succ]
set_option maxHeartbeats 2000000 in
theorem groups_c (v : Value) (l : List UInt8) (x : BitVec 64) (mk : UInt8) (hl : l.length + 11 ≤ 140737488355328) (w0 w : World) (R : List HP) (hs : Sep w0 w (ow v l :: R)) :
    Calls Tryd.prog 40 #[v, u64V x, u8V mk] w fun e w' => ∃ v', e = .returned v' ∧ Sep w0 w' (ow v' (l ++ enc mk.toNat x.toNat) :: R) := by
  have hx := x.isLt
  refine enter (P := Tryd.prog) Tryd.func40 rfl rfl ?_
  refine c_rseq ?_
  refine l_v (by first | exact (r_assign (v := .slice _ _ _) rfl) | exact (r_assign rfl)) ?_
  refine l_nil (nrm_then ?_)
  refine c_rseq ?_
  refine l_v (by first | exact (r_assign (v := iV _) rfl) | exact (r_assign rfl)) ?_
  refine l_nil (nrm_then ?_)
  refine c_seq ?_
  refine c_block ?_
  refine c_loopn [0, 1, 2, 6] (fun n f' w' => w' = w ∧ ∃ j, j + n = 11 ∧ f' 7 = iV ((6 * j : Nat) : Int) ∧ (j = 0 ∨ x.toNat / 64 ^ j ≠ 0)) ?_ ?_
  · exact ⟨11, rfl, 0, rfl, rfl, .inl rfl⟩
  · rintro m g w_ ⟨hw, j, hj, h7, hd⟩
    subst w_
    refine OkC.env ?_ (fixH (L := [(7, _)]) ⟨h7, trivial⟩)
    clear h7
    refine c_seq ?_
    refine c_rseq ?_
    refine l_v (by first | exact (r_move (v := u64V _) rfl) | exact (r_move rfl)) ?_
    refine l_v (by first | exact (r_move (v := iV _) rfl) | exact (r_move rfl)) ?_
    refine l_v (r_shr64 rfl rfl) ?_
    refine l_v (r_gtr64 (b := 63) rfl rfl) ?_
    refine l_nil (nrm_then ?_)
    refine c_cond rfl (fun h => ?_) (fun h => ?_)
    · rw [shr6] at h
      have h63 : 63 < x.toNat / 64 ^ j := of_decide_eq_true h
      have hj10 : j < 10 := by
        rcases Nat.lt_or_ge j 10 with h' | h'
        · exact h'
        · exfalso
          have h1 : x.toNat / 64 ^ j ≤ x.toNat / 64 ^ 10 := Nat.div_le_div_left (Nat.pow_le_pow_right (by omega) h') (pow64_pos _)
          have h2 : x.toNat / 64 ^ 10 ≤ 15 := by
            have : (64 : Nat) ^ 10 = 1152921504606846976 := rfl
            omega
          omega
      replace h := of_decide_eq_true h
      refine c_skip (nrm_then ?_)
      refine c_block ?_
      refine c_region ?_
      refine l_v (by first | exact (r_move (v := iV _) rfl) | exact (r_move rfl)) ?_
      refine l_v (r_addi rfl rfl (by omega)) ?_
      refine l_v (by first | exact (r_assign (v := iV _) rfl) | exact (r_assign rfl)) ?_
      refine l_nil (nrm_block (nrm_then ?_))
      refine And.intro (by refine ⟨?_, ?_, ?_, ?_, trivial⟩ <;> ((conv => lhs; whnf); (try conv => rhs; whnf))) ?_
      exact ⟨10 - j, by omega, rfl, j + 1, by omega, congrArg iV (by omega), .inr (by rw [div_next]; omega)⟩
    · rw [shr6] at h
      have h63 : ¬ 63 < x.toNat / 64 ^ j := of_decide_eq_false h
      replace h := of_decide_eq_false h
      refine c_exit (ex_then (ex_then (ex_hit (nrm_then ?_))))
      refine c_seq ?_
      refine c_block ?_
      refine c_loopn [1, 2, 6] (fun n f' w' => ∃ k v', k = n ∧ f' 7 = iV ((6 * k : Nat) : Int) ∧ f' 0 = v' ∧ k ≤ 11 ∧ (k = 0 ∨ x.toNat / 64 ^ k ≠ 0) ∧ Sep w0 w' (ow v' (l ++ high (x.toNat / 64 ^ (k + 1))) :: R)) ?_ ?_
      · refine ⟨j, j, v, rfl, rfl, rfl, by omega, hd, ?_⟩
        rw [div_next, show x.toNat / 64 ^ j / 64 = 0 from Nat.div_eq_of_lt (Nat.lt_succ_of_le (Nat.not_lt.1 h63)), high_zero, List.append_nil]
        exact hs
      · rintro m g w_ ⟨k, v', hk, h7, h0, hk11, hd, hs⟩
        subst hk
        have hlen := high_len 10 (x.toNat / 64 ^ (k + 1)) (by
          have h1 : x.toNat / 64 ^ (k + 1) ≤ x.toNat / 64 ^ 1 := Nat.div_le_div_left (Nat.pow_le_pow_right (by omega) (by omega)) (pow64_pos _)
          have : (64 : Nat) ^ 10 = 1152921504606846976 := rfl
          omega)
        refine OkC.env ?_ (fixH (L := [(7, _), (0, _)]) ⟨h7, h0, trivial⟩)
        clear h7 h0
        refine c_seq ?_
        refine c_rseq ?_
        refine l_v (by first | exact (r_move (v := iV _) rfl) | exact (r_move rfl)) ?_
        refine l_v (r_gtri rfl rfl) ?_
        refine l_nil (nrm_then ?_)
        refine c_cond rfl (fun h2 => ?_) (fun h2 => ?_)
        · replace h2 := of_decide_eq_true h2
          refine c_skip (nrm_then ?_)
          refine c_seq ?_
          refine c_block ?_
          refine c_region ?_
          refine l_v (by first | exact (r_move (v := .slice _ _ _) rfl) | exact (r_move rfl)) ?_
          refine l_v (by first | exact (r_move (v := u64V _) rfl) | exact (r_move rfl)) ?_
          refine l_v (by first | exact (r_move (v := iV _) rfl) | exact (r_move rfl)) ?_
          refine l_v (r_shr64 rfl rfl) ?_
          refine l_v (r_and64 (b := 63) rfl rfl) ?_
          refine l_v (r_cv_648 Tryd.underlying70 Tryd.underlying5 rfl) ?_
          rw [dig6]
          refine l_lit1 [u8V _] hs Tryd.underlying44 I5 rfl (by simp [Value.oneCell']) rfl (by decide) (by decide) ?_
          intro b24 w24 hs hB24 hlt24
          refine l_append_lit Tryd.underlying44 I5 rfl (by decide) rfl rfl hs rfl (by simp [Value.oneCell']) (by rw [List.length_append]; omega) (by rw [List.length_append]; omega) ?_
          intro v25 w25 hs
          have hs := ow_app1 hs
          refine l_v (by first | exact (r_assign (v := .slice _ _ _) rfl) | exact (r_assign rfl)) ?_
          refine l_nil (nrm_block (nrm_then ?_))
          refine c_region ?_
          refine l_v (by first | exact (r_move (v := iV _) rfl) | exact (r_move rfl)) ?_
          refine l_v (r_subi rfl rfl (by omega)) ?_
          refine l_v (by first | exact (r_assign (v := iV _) rfl) | exact (r_assign rfl)) ?_
          refine l_nil (nrm_then ?_)
          refine And.intro (by refine ⟨?_, ?_, ?_, trivial⟩ <;> ((conv => lhs; whnf); (try conv => rhs; whnf))) ?_
          obtain ⟨i, rfl⟩ : ∃ i, k = i + 1 := ⟨k - 1, by omega⟩
          refine ⟨i, by omega, i, _, rfl, congrArg iV (by omega), rfl, by omega, .inr ?_, ?_⟩
          · intro h0
            have := div_next x.toNat i
            omega
          · rw [high_pos (by omega : x.toNat / 64 ^ (i + 1) ≠ 0), ← div_next, ← List.append_assoc]
            exact hs
        · obtain rfl : k = 0 := by have := of_decide_eq_false h2; omega
          replace h2 := of_decide_eq_false h2
          refine c_exit (ex_then (ex_then (ex_hit (nrm_then ?_))))
          refine c_rseq ?_
          refine l_v (by first | exact (r_move (v := .slice _ _ _) rfl) | exact (r_move rfl)) ?_
          refine l_v (by first | exact (r_move (v := u8V _) rfl) | exact (r_move rfl)) ?_
          refine l_v (by first | exact (r_move (v := u64V _) rfl) | exact (r_move rfl)) ?_
          refine l_v (r_and64 (b := 63) rfl rfl) ?_
          refine l_v (r_cv_648 Tryd.underlying70 Tryd.underlying5 rfl) ?_
          refine l_v (r_add8 rfl rfl) ?_
          rw [last6]
          refine l_lit1 [u8V _] hs Tryd.underlying44 I5 rfl (by simp [Value.oneCell']) rfl (by decide) (by decide) ?_
          intro b32 w32 hs hB32 hlt32
          refine l_append_lit Tryd.underlying44 I5 rfl (by decide) rfl rfl hs rfl (by simp [Value.oneCell']) (by rw [List.length_append]; omega) (by rw [List.length_append]; omega) ?_
          intro v33 w33 hs
          have hs := ow_app1 hs
          refine l_v (by first | exact (r_assign (v := .slice _ _ _) rfl) | exact (r_assign rfl)) ?_
          refine l_nil (nrm_then ?_)
          refine c_ret ?_
          show Fin _ _ _ _ _
          refine fin1 rfl ?_
          have e : l ++ high (x.toNat / 64 ^ (0 + 1)) ++ [UInt8.ofNat (mk.toNat + x.toNat % 64)] = l ++ enc mk.toNat x.toNat := by unfold enc; simp
          rw [e] at hs
          exact ⟨_, rfl, hs⟩
theorem new_c (w0 w : World) (R : List HP) (hs : Sep w0 w R) :
    Calls Tryd.prog 23 #[] w fun e w' => ∃ b, e = .returned (at_ b) ∧ Sep w0 w' (wtr b [] :: R) := by
  refine enter (P := Tryd.prog) Tryd.func23 rfl rfl ?_
  refine c_rseq ?_
  refine l_v (r_assign (v := .pointer _) rfl) ?_
  refine l_nil (nrm_then ?_)
  refine c_rseq ?_
  refine l_v (r_build (l := []) rfl ((fun (_ : Unit) => (by kernel_rfl : Program.built Tryd.prog 77 [] = some #[.slice none 0 0])) ())) ?_
  refine l_box hs rfl ?_
  intro b2 w2 hs hB2 hlt2
  refine l_v (r_assign (v := .pointer _) rfl) ?_
  refine l_nil (nrm_then ?_)
  refine c_ret ?_
  show Fin _ _ _ _ _
  refine fin1 rfl ?_
  refine ⟨_, rfl, wtr_shut (v := .slice none 0 0) ?_⟩
  exact (hs.rowNil 5 1).pull 1
theorem bytes_c (l : List UInt8) (b : Nat) (w0 w : World) (R : List HP) (hs : Sep w0 w (wtr b l :: R)) :
    Calls Tryd.prog 26 #[at_ b] w fun e w' => e = .returned (sV (ofL l)) ∧ w' = w := by
  have hs0 := hs
  obtain ⟨v, hs⟩ := wtr_open hs
  refine enter (P := Tryd.prog) Tryd.func26 rfl rfl ?_
  refine c_rseq ?_
  refine l_v (by first | exact (r_assign (v := sV _) rfl) | exact (r_assign rfl)) ?_
  refine l_nil (nrm_then ?_)
  refine c_seq ?_
  refine c_rseq ?_
  refine l_v (r_move (v := .pointer _) rfl) ?_
  refine l_v (by first | exact (r_eqlp_some Tryd.underlying52 rfl rfl) | exact (r_eqlp_none Tryd.underlying52 rfl rfl)) ?_
  refine l_nil (nrm_then ?_)
  refine c_false rfl (rfl) ?_
  refine c_skip (nrm_then ?_)
  refine c_rseq ?_
  refine l_v (r_move (v := .pointer _) rfl) ?_
  refine l_v (by first | exact (r_nilCheck_p rfl) | exact (r_nilCheck_f rfl)) ?_
  refine l_v (by first | exact (r_fieldAddr0 (off := 0) (T := 44) (by kernel_rfl) rfl) | exact (r_fieldAddr (off := 0) (T := 44) (by kernel_rfl) rfl)) ?_
  refine l_v (by first | exact (r_load_at (i := 0) hs rfl Tryd.underlying44 rfl rfl) | exact (r_load_at (i := 1) hs rfl Tryd.underlying44 rfl rfl) | exact (r_load_at (i := 2) hs rfl Tryd.underlying44 rfl rfl) | exact (r_load_at (i := 3) hs rfl Tryd.underlying44 rfl rfl) | exact (r_load_at (i := 4) hs rfl Tryd.underlying44 rfl rfl) | exact (r_load_at (i := 5) hs rfl Tryd.underlying44 rfl rfl) | exact (r_load_at (i := 6) hs rfl Tryd.underlying44 rfl rfl)) ?_
  obtain ⟨A, c, rfl, hc⟩ := (hs.pull 1).rowForm
  refine l_v (r_cv_bs (l := l) Tryd.underlying44 Tryd.underlying5 Tryd.underlying9 rfl (hs.pull 1).rd) ?_
  refine l_v (by first | exact (r_assign (v := sV _) rfl) | exact (r_assign rfl)) ?_
  refine l_nil (nrm_then ?_)
  refine c_ret ?_
  show Fin _ _ _ _ _
  refine fin1 rfl ?_
  exact ⟨rfl, rfl⟩
set_option maxHeartbeats 1000000 in
theorem wcount_c (n : Int) (hn : -9223372036854775808 ≤ n ∧ n ≤ 9223372036854775807) (l : List UInt8) (hl : l.length + 11 ≤ 140737488355328) (b : Nat) (w0 w : World) (R : List HP) (hs : Sep w0 w (wtr b l :: R)) :
    Calls Tryd.prog 24 #[at_ b, iV n] w fun e w' => e = .returned (iV (if n < 0 then 1 else 0)) ∧ Sep w0 w' (wtr b (if n < 0 then l else l ++ enc 64 n.toNat) :: R) := by
  obtain ⟨v, hs⟩ := wtr_open hs
  refine enter (P := Tryd.prog) Tryd.func24 rfl rfl ?_
  refine c_rseq ?_
  refine l_v (by first | exact (r_assign (v := iV _) rfl) | exact (r_assign rfl)) ?_
  refine l_nil (nrm_then ?_)
  refine c_seq ?_
  refine c_rseq ?_
  refine l_v (r_move (v := .pointer _) rfl) ?_
  refine l_v (by first | exact (r_eqlp_some Tryd.underlying52 rfl rfl) | exact (r_eqlp_none Tryd.underlying52 rfl rfl)) ?_
  refine l_v (by first | exact (r_move (v := bV _) rfl) | exact (r_move rfl)) ?_
  refine l_vg (by first | exact (r_move (v := iV _) rfl) | exact (r_move rfl)) rfl (rfl) ?_
  refine l_vg (r_lssi rfl rfl) rfl (rfl) ?_
  refine l_v (r_pick_f rfl rfl rfl) ?_
  refine l_nil (nrm_then ?_)
  refine c_cond rfl (fun h => ?_) (fun h => ?_)
  · replace h := of_decide_eq_true h
    refine c_rseq ?_
    refine l_v (by first | exact (r_assign (v := iV _) rfl) | exact (r_assign rfl)) ?_
    refine l_nil (nrm_then ?_)
    refine c_ret (ret_then ?_)
    show Fin _ _ _ _ _
    refine fin1 rfl ?_
    rw [if_pos h, if_pos h]
    exact ⟨rfl, wtr_shut hs⟩
  · replace h := of_decide_eq_false h
    refine c_skip (nrm_then ?_)
    refine c_rseq ?_
    refine l_v (r_move (v := .pointer _) rfl) ?_
    refine l_v (r_move (v := .pointer _) rfl) ?_
    refine l_v (by first | exact (r_nilCheck_p rfl) | exact (r_nilCheck_f rfl)) ?_
    refine l_v (by first | exact (r_fieldAddr0 (off := 0) (T := 44) (by kernel_rfl) rfl) | exact (r_fieldAddr (off := 0) (T := 44) (by kernel_rfl) rfl)) ?_
    refine l_v (by first | exact (r_load_at (i := 0) hs rfl Tryd.underlying44 rfl rfl) | exact (r_load_at (i := 1) hs rfl Tryd.underlying44 rfl rfl) | exact (r_load_at (i := 2) hs rfl Tryd.underlying44 rfl rfl) | exact (r_load_at (i := 3) hs rfl Tryd.underlying44 rfl rfl) | exact (r_load_at (i := 4) hs rfl Tryd.underlying44 rfl rfl) | exact (r_load_at (i := 5) hs rfl Tryd.underlying44 rfl rfl) | exact (r_load_at (i := 6) hs rfl Tryd.underlying44 rfl rfl)) ?_
    refine l_v (by first | exact (r_move (v := iV _) rfl) | exact (r_move rfl)) ?_
    refine l_v (r_cv_i64 Tryd.underlying3 Tryd.underlying70 rfl) ?_
    rw [if_neg h, if_neg h]
    have e : (BitVec.ofInt 64 n).toNat = n.toNat := by rw [BitVec.toNat_ofInt]; omega
    refine l_call (r_call Tryd.func40 rfl rfl) ?_
    refine Calls.mono (groups_c v l (BitVec.ofInt 64 n) 64 hl w0 _ _ (hs.pull 1)) ?_
    rintro e w_ ⟨v', rfl, hs⟩
    refine ⟨_, rfl, ?_⟩
    obtain ⟨A', c', rfl, hc'⟩ := hs.rowForm
    refine l_v (by first | exact (r_nilCheck_p rfl) | exact (r_nilCheck_f rfl)) ?_
    refine l_v (by first | exact (r_fieldAddr0 (off := 0) (T := 44) (by kernel_rfl) rfl) | exact (r_fieldAddr (off := 0) (T := 44) (by kernel_rfl) rfl)) ?_
    first | refine l_store (i := 0) (v := .slice _ _ _) hs rfl I44 rfl rfl (by first | (simp; done) | (simp; omega) | omega) ?_ | refine l_store (i := 1) (v := .slice _ _ _) hs rfl I44 rfl rfl (by first | (simp; done) | (simp; omega) | omega) ?_ | refine l_store (i := 2) (v := .slice _ _ _) hs rfl I44 rfl rfl (by first | (simp; done) | (simp; omega) | omega) ?_ | refine l_store (i := 3) (v := .slice _ _ _) hs rfl I44 rfl rfl (by first | (simp; done) | (simp; omega) | omega) ?_ | refine l_store (i := 4) (v := .slice _ _ _) hs rfl I44 rfl rfl (by first | (simp; done) | (simp; omega) | omega) ?_ | refine l_store (i := 5) (v := .slice _ _ _) hs rfl I44 rfl rfl (by first | (simp; done) | (simp; omega) | omega) ?_ | refine l_store (i := 6) (v := .slice _ _ _) hs rfl I44 rfl rfl (by first | (simp; done) | (simp; omega) | omega) ?_
    intro w_ hs
    refine l_nil (nrm_then ?_)
    refine c_rseq ?_
    refine l_v (by first | exact (r_assign (v := iV _) rfl) | exact (r_assign rfl)) ?_
    refine l_nil (nrm_then ?_)
    refine c_ret ?_
    show Fin _ _ _ _ _
    refine fin1 rfl ?_
    rw [← e]
    exact ⟨rfl, wtr_shut (hs.pull 1)⟩
set_option maxHeartbeats 1000000 in
theorem wtext_c (s : ByteArray) (l : List UInt8) (hl : l.length + 11 + s.size ≤ 140737488355328) (b : Nat) (w0 w : World) (R : List HP) (hs : Sep w0 w (wtr b l :: R)) :
    Calls Tryd.prog 25 #[at_ b, sV s] w fun e w' => e = .returned (iV 0) ∧ Sep w0 w' (wtr b (l ++ encT (toL s)) :: R) := by
  obtain ⟨v, hs⟩ := wtr_open hs
  have hz := toL_size s
  have hel := enc_len 64 s.size (by omega)
  have e : (BitVec.ofInt 64 (s.size : Int)).toNat = s.size := by rw [BitVec.toNat_ofInt]; omega
  refine enter (P := Tryd.prog) Tryd.func25 rfl rfl ?_
  refine c_rseq ?_
  refine l_v (by first | exact (r_assign (v := iV _) rfl) | exact (r_assign rfl)) ?_
  refine l_nil (nrm_then ?_)
  refine c_seq ?_
  refine c_rseq ?_
  refine l_v (r_move (v := .pointer _) rfl) ?_
  refine l_v (by first | exact (r_eqlp_some Tryd.underlying52 rfl rfl) | exact (r_eqlp_none Tryd.underlying52 rfl rfl)) ?_
  refine l_nil (nrm_then ?_)
  refine c_false rfl (rfl) ?_
  refine c_skip (nrm_then ?_)
  refine c_rseq ?_
  refine l_v (r_move (v := .pointer _) rfl) ?_
  refine l_v (r_move (v := .pointer _) rfl) ?_
  refine l_v (by first | exact (r_nilCheck_p rfl) | exact (r_nilCheck_f rfl)) ?_
  refine l_v (by first | exact (r_fieldAddr0 (off := 0) (T := 44) (by kernel_rfl) rfl) | exact (r_fieldAddr (off := 0) (T := 44) (by kernel_rfl) rfl)) ?_
  refine l_v (by first | exact (r_load_at (i := 0) hs rfl Tryd.underlying44 rfl rfl) | exact (r_load_at (i := 1) hs rfl Tryd.underlying44 rfl rfl) | exact (r_load_at (i := 2) hs rfl Tryd.underlying44 rfl rfl) | exact (r_load_at (i := 3) hs rfl Tryd.underlying44 rfl rfl) | exact (r_load_at (i := 4) hs rfl Tryd.underlying44 rfl rfl) | exact (r_load_at (i := 5) hs rfl Tryd.underlying44 rfl rfl) | exact (r_load_at (i := 6) hs rfl Tryd.underlying44 rfl rfl)) ?_
  refine l_v (by first | exact (r_move (v := sV _) rfl) | exact (r_move rfl)) ?_
  refine l_v (r_len_s Tryd.underlying9 rfl) ?_
  refine l_v (r_cv_i64 Tryd.underlying3 Tryd.underlying70 rfl) ?_
  refine l_call (r_call Tryd.func40 rfl rfl) ?_
  refine Calls.mono (groups_c v l (BitVec.ofInt 64 (s.size : Int)) 64 (by omega) w0 _ _ (hs.pull 1)) ?_
  rintro e w_ ⟨v', rfl, hs⟩
  refine ⟨_, rfl, ?_⟩
  obtain ⟨A', c', rfl, hc'⟩ := hs.rowForm
  have hel : (enc (UInt8.toNat 64) (BitVec.ofInt 64 (s.size : Int)).toNat).length ≤ 11 := by rw [e]; exact hel
  refine l_v (by first | exact (r_move (v := sV _) rfl) | exact (r_move rfl)) ?_
  refine l_append_s Tryd.underlying44 Tryd.underlying9 I5 rfl rfl hs (by rw [List.length_append]; omega) ?_
  intro v17 w17 hs
  have hs := ow_apps hs
  obtain ⟨A2, c2, rfl, hc2⟩ := hs.rowForm
  refine l_v (by first | exact (r_nilCheck_p rfl) | exact (r_nilCheck_f rfl)) ?_
  refine l_v (by first | exact (r_fieldAddr0 (off := 0) (T := 44) (by kernel_rfl) rfl) | exact (r_fieldAddr (off := 0) (T := 44) (by kernel_rfl) rfl)) ?_
  first | refine l_store (i := 0) (v := .slice _ _ _) hs rfl I44 rfl rfl (by first | (simp; done) | (simp; omega) | omega) ?_ | refine l_store (i := 1) (v := .slice _ _ _) hs rfl I44 rfl rfl (by first | (simp; done) | (simp; omega) | omega) ?_ | refine l_store (i := 2) (v := .slice _ _ _) hs rfl I44 rfl rfl (by first | (simp; done) | (simp; omega) | omega) ?_ | refine l_store (i := 3) (v := .slice _ _ _) hs rfl I44 rfl rfl (by first | (simp; done) | (simp; omega) | omega) ?_ | refine l_store (i := 4) (v := .slice _ _ _) hs rfl I44 rfl rfl (by first | (simp; done) | (simp; omega) | omega) ?_ | refine l_store (i := 5) (v := .slice _ _ _) hs rfl I44 rfl rfl (by first | (simp; done) | (simp; omega) | omega) ?_ | refine l_store (i := 6) (v := .slice _ _ _) hs rfl I44 rfl rfl (by first | (simp; done) | (simp; omega) | omega) ?_
  intro w_ hs
  refine l_nil (nrm_then ?_)
  refine c_rseq ?_
  refine l_v (by first | exact (r_assign (v := iV _) rfl) | exact (r_assign rfl)) ?_
  refine l_nil (nrm_then ?_)
  refine c_ret ?_
  show Fin _ _ _ _ _
  refine fin1 rfl ?_
  refine ⟨rfl, ?_⟩
  have e2 : l ++ enc (UInt8.toNat 64) (BitVec.ofInt 64 (s.size : Int)).toNat ++ toL s = l ++ encT (toL s) := by unfold encT; rw [hz, e, List.append_assoc]; rfl
  rw [← e2]
  exact wtr_shut (hs.pull 1)
end Go.Proofs.YtbimboibllboeaaDoor.Six
