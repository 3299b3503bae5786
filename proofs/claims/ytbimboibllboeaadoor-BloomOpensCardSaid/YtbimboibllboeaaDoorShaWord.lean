/- The walks of Word and Less, and the document's. -/
import Derived.Test.YtbimboibllboeaaDoorShaRef
namespace Go.Proofs.YtbimboibllboeaaDoor.Sha
open Go Go.RowKit Go.Proofs.YtbimboibllboeaaDoor.Eng
set_option linter.unusedVariables false
set_option maxRecDepth 100000
/-- A key's word, by its place among eight. -/
def wordAt (k : List UInt8) (i : Nat) : W := word k i 4
def kV (k : List UInt8) : Value := .agg (k.map u8V).toArray
theorem r_getD (k : List UInt8) (i : Nat) (h : i < k.length) : (k.map u8V)[i]? = some (u8V (k.getD i 0)) := getD_map8 k i h
theorem tmod8 (n : Int) : -8 < n.tmod 8 ∧ n.tmod 8 < 8 ∧ (n.tmod 8 + 8) % 8 = n % 8 := by
  rcases Int.lt_or_le n 0 with h | h
  · have e : n.tmod 8 = -((-n) % 8) := by
      have := Int.neg_tmod (-n) 8
      rw [Int.neg_neg, Int.tmod_eq_emod_of_nonneg (a := -n) (b := 8) (by omega)] at this
      exact this
    omega
  · rw [Int.tmod_eq_emod_of_nonneg h]; omega
set_option maxHeartbeats 1000000 in
theorem refword_c (k : List UInt8) (hk : k.length = 32) (n : Int) (w : World) :
    Calls Tryd.prog 37 #[kV k, iV n] w fun e w' => e = .returned (u32V (wordAt k (n % 8).toNat)) ∧ Below w.heap.size w w' := by
  obtain ⟨ht1, ht2, ht3⟩ := tmod8 n
  obtain ⟨i, hi⟩ : ∃ i : Nat, n % 8 = (i : Int) := ⟨(n % 8).toNat, by omega⟩
  have hi8 : i < 8 := by omega
  refine enter (P := Tryd.prog) Tryd.func37 rfl rfl ?_
  have hs := Sep.init w
  refine c_rseq ?_
  refine l_box hs rfl ?_
  intro b2 w2 hs hB2 hlt2
  refine l_v (r_assign (v := u32V 0) rfl) ?_
  refine l_nil (nrm_then ?_)
  refine c_rseq ?_
  refine l_v (by first | exact (r_move (v := iV _) rfl) | exact (r_move rfl)) ?_
  refine l_v (r_remz rfl rfl (by decide)) ?_
  refine l_v (r_addi rfl rfl (by omega)) ?_
  refine l_v (r_remi rfl rfl (by omega) (by omega)) ?_
  refine l_v (by first | exact (r_assign (v := iV _) rfl) | exact (r_assign rfl)) ?_
  refine l_nil (nrm_then ?_)
  refine c_rseq ?_
  refine l_v (r_assign (v := u32V 0) rfl) ?_
  refine l_nil (nrm_then ?_)
  refine c_seq ?_
  refine c_rseq ?_
  refine l_v (by first | exact (r_assign (v := iV _) rfl) | exact (r_assign rfl)) ?_
  refine l_nil (nrm_then ?_)
  refine c_block ?_
  rw [ht3, hi]
  refine c_loopn [1, 2, 4] (fun m f' w' => ∃ j, j + m = 4 ∧ f' 6 = iV (j : Int) ∧ f' 5 = u32V (word k i j) ∧ Sep w w' [blk b2 (k.map u8V) 68]) ?_ ?_
  · exact ⟨4, 0, rfl, rfl, rfl, hs⟩
  · rintro m g w_ ⟨j, hj, h6, h5, hs⟩
    refine OkC.env ?_ (fixH (L := [(6, _), (5, _)]) ⟨h6, h5, trivial⟩)
    clear h6 h5
    refine c_seq ?_
    refine c_rseq ?_
    refine l_v (by first | exact (r_move (v := iV _) rfl) | exact (r_move rfl)) ?_
    refine l_v (r_lssi rfl rfl) ?_
    refine l_nil (nrm_then ?_)
    refine c_cond rfl (fun h => ?_) (fun h => ?_)
    · replace h := of_decide_eq_true h
      refine c_skip (nrm_then ?_)
      refine c_seq ?_
      refine c_block ?_
      refine c_region ?_
      refine l_v (by first | exact (r_move (v := u32V _) rfl) | exact (r_move rfl)) ?_
      refine l_v (r_mul32 (a := 256) rfl rfl) ?_
      refine l_v (by first | exact (r_move (v := iV _) rfl) | exact (r_move rfl)) ?_
      refine l_v (r_muli rfl rfl (by omega)) ?_
      refine l_v (by first | exact (r_move (v := iV _) rfl) | exact (r_move rfl)) ?_
      refine l_v (r_addi rfl rfl (by omega)) ?_
      refine l_v (r_indexAddr_a0 (k := 4 * i + j) Tryd.underlying68 I5 rfl (ivn (by omega)) (by omega)) ?_
      refine l_v (r_load_at (i := 0) hs rfl Tryd.underlying5 rfl (r_getD k (4 * i + j) (by omega))) ?_
      refine l_v (r_cv_832 Tryd.underlying5 Tryd.underlying71 rfl) ?_
      refine l_v (r_add32 rfl rfl) ?_
      refine l_v (by first | exact (r_assign (v := u32V _) rfl) | exact (r_assign rfl)) ?_
      refine l_nil (nrm_block (nrm_then ?_))
      refine c_region ?_
      refine l_v (by first | exact (r_move (v := iV _) rfl) | exact (r_move rfl)) ?_
      refine l_v (r_addi rfl rfl (by omega)) ?_
      refine l_v (by first | exact (r_assign (v := iV _) rfl) | exact (r_assign rfl)) ?_
      refine l_nil (nrm_then ?_)
      refine And.intro (by refine ⟨?_, ?_, ?_, trivial⟩ <;> ((conv => lhs; whnf); (try conv => rhs; whnf))) ?_
      refine ⟨3 - j, by omega, j + 1, by omega, rfl, ?_, hs⟩
      show u32V _ = u32V _
      rw [word, cat8_eq, BitVec.mul_comm]
    · replace h := of_decide_eq_false h
      refine c_exit (ex_then (ex_then (ex_hit (nrm_then ?_))))
      refine c_rseq ?_
      refine l_v (by first | exact (r_move (v := u32V _) rfl) | exact (r_move rfl)) ?_
      refine l_v (by first | exact (r_assign (v := u32V _) rfl) | exact (r_assign rfl)) ?_
      refine l_nil (nrm_then ?_)
      obtain rfl : j = 4 := by omega
      refine c_ret ?_
      show Fin _ _ _ _ _
      refine fin1 rfl ?_
      exact ⟨by rw [Int.toNat_natCast]; rfl, hs.below⟩
theorem word4 (a b c d : W) : (((((0 : W) <<< 8 ||| a) <<< 8 ||| b) <<< 8 ||| c) <<< 8 ||| d) = a <<< 24 ||| b <<< 16 ||| c <<< 8 ||| d := by
  simp only [BitVec.shiftLeft_or_distrib, ← BitVec.shiftLeft_add, Nat.reduceAdd]
  rw [show (0 : W) <<< 32 = 0#32 from rfl, BitVec.zero_or]
set_option maxHeartbeats 1000000 in
theorem word_c (k : List UInt8) (hk : k.length = 32) (n : Int) (hn : -9223372036854775808 ≤ n ∧ n ≤ 9223372036854775807) (w : World) :
    Calls Tryd.prog 35 #[kV k, iV n] w fun e w' => e = .returned (u32V (wordAt k (n % 8).toNat)) ∧ Below w.heap.size w w' := by
  obtain ⟨i, hi⟩ : ∃ i : Nat, n % 8 = (i : Int) := ⟨(n % 8).toNat, by omega⟩
  have hi8 : i < 8 := by omega
  refine enter (P := Tryd.prog) Tryd.func35 rfl rfl ?_
  have hs := Sep.init w
  refine c_rseq ?_
  refine l_box hs rfl ?_
  intro b2 w2 hs hB2 hlt2
  refine l_v (r_assign (v := u32V 0) rfl) ?_
  refine l_nil (nrm_then ?_)
  refine c_rseq ?_
  refine l_v (by first | exact (r_move (v := iV _) rfl) | exact (r_move rfl)) ?_
  refine l_v (r_andi7 rfl rfl (by omega)) ?_
  rw [hi]
  refine l_v (r_muli rfl rfl (by omega)) ?_
  refine l_v (by first | exact (r_assign (v := iV _) rfl) | exact (r_assign rfl)) ?_
  refine l_nil (nrm_then ?_)
  refine c_seq ?_
  refine c_float [] 24 (by kernel_rfl) (by kernel_rfl) ?_
  intro hbF
  show OkF _ _ _ _ _ _ (_ :: _) 0 _ _
  refine f_v (fun wl hbl => by have hs := hs.below_ hbl; first | exact (r_move (v := iV _) rfl) | exact (r_move rfl)) ?_
  refine f_v (fun wl hbl => by have hs := hs.below_ hbl; exact (r_indexAddr_a0 (k := 4 * i + 0) Tryd.underlying68 I5 rfl (ivn (by omega)) (by omega))) ?_
  refine f_v (fun wl hbl => by have hs := hs.below_ hbl; exact (r_load_at (i := 0) hs rfl Tryd.underlying5 rfl (r_getD k (4 * i + 0) (by omega)))) ?_
  refine f_v (fun wl hbl => by have hs := hs.below_ hbl; exact (r_cv_832 Tryd.underlying5 Tryd.underlying71 rfl)) ?_
  refine f_v (fun wl hbl => by have hs := hs.below_ hbl; exact (r_shl32 (b := 24) rfl rfl)) ?_
  refine f_v (fun wl hbl => by have hs := hs.below_ hbl; first | exact (r_move (v := iV _) rfl) | exact (r_move rfl)) ?_
  refine f_v (fun wl hbl => by have hs := hs.below_ hbl; exact (r_addi rfl rfl (by omega))) ?_
  refine f_v (fun wl hbl => by have hs := hs.below_ hbl; exact (r_indexAddr_a0 (k := 4 * i + 1) Tryd.underlying68 I5 rfl (ivn (by omega)) (by omega))) ?_
  refine f_v (fun wl hbl => by have hs := hs.below_ hbl; exact (r_load_at (i := 0) hs rfl Tryd.underlying5 rfl (r_getD k (4 * i + 1) (by omega)))) ?_
  refine f_v (fun wl hbl => by have hs := hs.below_ hbl; exact (r_cv_832 Tryd.underlying5 Tryd.underlying71 rfl)) ?_
  refine f_v (fun wl hbl => by have hs := hs.below_ hbl; exact (r_shl32 (b := 16) rfl rfl)) ?_
  refine f_v (fun wl hbl => by have hs := hs.below_ hbl; exact (r_or32 rfl rfl)) ?_
  refine f_v (fun wl hbl => by have hs := hs.below_ hbl; first | exact (r_move (v := iV _) rfl) | exact (r_move rfl)) ?_
  refine f_v (fun wl hbl => by have hs := hs.below_ hbl; exact (r_addi rfl rfl (by omega))) ?_
  refine f_v (fun wl hbl => by have hs := hs.below_ hbl; exact (r_indexAddr_a0 (k := 4 * i + 2) Tryd.underlying68 I5 rfl (ivn (by omega)) (by omega))) ?_
  refine f_v (fun wl hbl => by have hs := hs.below_ hbl; exact (r_load_at (i := 0) hs rfl Tryd.underlying5 rfl (r_getD k (4 * i + 2) (by omega)))) ?_
  refine f_v (fun wl hbl => by have hs := hs.below_ hbl; exact (r_cv_832 Tryd.underlying5 Tryd.underlying71 rfl)) ?_
  refine f_v (fun wl hbl => by have hs := hs.below_ hbl; exact (r_shl32 (b := 8) rfl rfl)) ?_
  refine f_v (fun wl hbl => by have hs := hs.below_ hbl; exact (r_or32 rfl rfl)) ?_
  refine f_v (fun wl hbl => by have hs := hs.below_ hbl; first | exact (r_move (v := iV _) rfl) | exact (r_move rfl)) ?_
  refine f_v (fun wl hbl => by have hs := hs.below_ hbl; exact (r_addi rfl rfl (by omega))) ?_
  refine f_v (fun wl hbl => by have hs := hs.below_ hbl; exact (r_indexAddr_a0 (k := 4 * i + 3) Tryd.underlying68 I5 rfl (ivn (by omega)) (by omega))) ?_
  refine f_v (fun wl hbl => by have hs := hs.below_ hbl; exact (r_load_at (i := 0) hs rfl Tryd.underlying5 rfl (r_getD k (4 * i + 3) (by omega)))) ?_
  refine f_v (fun wl hbl => by have hs := hs.below_ hbl; exact (r_cv_832 Tryd.underlying5 Tryd.underlying71 rfl)) ?_
  refine f_nil ?_
  have hs := hs.below_ hbF
  show OkL _ _ _ _ (_ :: _) _ _
  refine l_v (r_or32 rfl rfl) ?_
  refine l_v (by first | exact (r_assign (v := u32V _) rfl) | exact (r_assign rfl)) ?_
  refine l_nil (nrm_then ?_)
  refine c_ret ?_
  show Fin _ _ _ _ _
  refine fin1 rfl ?_
  refine ⟨?_, hs.below⟩
  exact congrArg Ending.returned (congrArg u32V (word4 _ _ _ _).symm)
end Go.Proofs.YtbimboibllboeaaDoor.Sha
