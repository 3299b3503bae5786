/- Rows of entries; the document's Same. -/
import Derived.Test.YtfjnjnkmkbbjoaaBlkFn
import Derived.Test.YtfjnjnkmkbbjoaaStructEq
import Derived.Test.YtfjnjnkmkbbjoaaStructs
namespace Go.Proofs.Ytfjnjnkmkbbjoaa.Blk
open Go Go.RowKit Go.Proofs.Ytfjnjnkmkbbjoaa.Eng Go.Proofs.Ytfjnjnkmkbbjoaa.Six
set_option linter.unusedVariables false
set_option maxRecDepth 100000
theorem str_beq (a b : List UInt8) : ((ofL a).toList == (ofL b).toList) = decide (a = b) := by
  rw [ByteArray.toList_eq, ByteArray.toList_eq]
  exact Eng.beq_dec a b
theorem eqEnt (x y : Ent) (w : World) : (Op.equalIn 10000 44 (.agg (entC x).toArray) (.agg (entC y).toArray)).run Try.prog w = .ok (decide (x.key = y.key) && (decide (x.val = y.val) && ((x.gone == y.gone) && true))) w := by
  refine struct_eq Try.underlying44 (by kernel_rfl) ?_
  refine eqF_gen (by simp) (part_one Try.underlying9 rfl) (part_one Try.underlying9 rfl) ?_ ?_
  · exact (run_equalIn_string (P := Try.prog) w 9998 9 (ofL x.key) (ofL y.key) Try.underlying9).trans (congrArg (fun b => Result.ok b w) (str_beq _ _))
  refine eqF_gen (by simp) (part_one Try.underlying9 rfl) (part_one Try.underlying9 rfl) ?_ ?_
  · exact (run_equalIn_string (P := Try.prog) w 9998 9 (ofL x.val) (ofL y.val) Try.underlying9).trans (congrArg (fun b => Result.ok b w) (str_beq _ _))
  refine eqF_gen (by simp) (part_one Try.underlying4 rfl) (part_one Try.underlying4 rfl) ?_ ?_
  · exact run_equalIn_bool' (P := Try.prog) w 9998 4 x.gone y.gone Try.underlying4
  rfl
theorem eqEnt' (x y : Ent) (w : World) : (Op.equalIn 10000 44 (.agg (entC x).toArray) (.agg (entC y).toArray)).run Try.prog w = .ok (decide (x.key = y.key ∧ x.val = y.val ∧ x.gone = y.gone)) w := by
  rw [eqEnt]
  congr 1
  rw [Bool.eq_iff_iff]
  simp [Bool.and_eq_true]
theorem ent_ext {x y : Ent} : (x.key = y.key ∧ x.val = y.val ∧ x.gone = y.gone) ↔ x = y := by
  constructor
  · rintro ⟨h1, h2, h3⟩
    cases x; cases y
    simp_all
  · rintro rfl; exact ⟨rfl, rfl, rfl⟩
set_option maxHeartbeats 2000000 in
theorem same_c (A B : Option Addr) (c d n m : Nat) (xs ys : List Ent) (hn : xs.length = n) (hm : ys.length = m) (w : World) (hx : Rd w 3 A n (xs.flatMap entC)) (hy : Rd w 3 B m (ys.flatMap entC)) :
    Calls Try.prog 12 #[.slice A n c, .slice B m d] w fun e w' => e = .returned (bV (decide (xs = ys))) ∧ Below w.heap.size w w' := by
  have hn2 := hx.2.1
  have hm2 := hy.2.1
  refine enter (P := Try.prog) Try.func12 rfl rfl ?_
  have hs := Sep.init w
  refine c_rseq ?_
  refine l_v (by first | exact (r_assign (v := bV _) rfl) | exact (r_assign rfl)) ?_
  refine l_nil (nrm_then ?_)
  refine c_seq ?_
  refine c_rseq ?_
  refine l_v (by first | exact (r_move (v := .slice _ _ _) rfl) | exact (r_move rfl)) ?_
  refine l_v (r_len_l Try.underlying22 rfl) ?_
  refine l_v (by first | exact (r_move (v := .slice _ _ _) rfl) | exact (r_move rfl)) ?_
  refine l_v (r_len_l Try.underlying22 rfl) ?_
  refine l_v (r_neqi rfl rfl) ?_
  refine l_nil (nrm_then ?_)
  refine c_cond rfl (fun h1 => ?_) (fun h1 => ?_)
  · replace h1 := of_decide_eq_true h1
    refine c_rseq ?_
    refine l_v (by first | exact (r_assign (v := bV _) rfl) | exact (r_assign rfl)) ?_
    refine l_nil (nrm_then ?_)
    refine c_ret (ret_then ?_)
    show Fin _ _ _ _ _
    refine fin1 rfl ?_
    have hne : ¬ xs = ys := fun e => by
      rw [e, hm] at hn
      exact h1 (by rw [hn])
    rw [decide_eq_false hne]
    exact ⟨rfl, hs.below⟩
  · have h1' : n = m := by have h := Decidable.of_not_not (of_decide_eq_false h1); omega
    replace h1 := of_decide_eq_false h1
    refine c_skip (nrm_then ?_)
    refine c_seq ?_
    refine c_rseq ?_
    refine l_v (by first | exact (r_assign (v := iV _) rfl) | exact (r_assign rfl)) ?_
    refine l_nil (nrm_then ?_)
    refine c_block ?_
    refine c_loopn [0, 1] (fun k f' w' => ∃ i, i + k = n ∧ f' 5 = iV (i : Int) ∧ xs.take i = ys.take i ∧ Eng.Sep w w' []) ?_ ?_
    · exact ⟨n, 0, by omega, rfl, by simp, hs⟩
    · rintro m g w_ ⟨i, hi, h5, ht, hs⟩
      refine OkC.env ?_ (fixH (L := [(5, _)]) ⟨h5, trivial⟩)
      clear h5
      refine c_seq ?_
      refine c_rseq ?_
      refine l_v (by first | exact (r_move (v := iV _) rfl) | exact (r_move rfl)) ?_
      refine l_v (by first | exact (r_move (v := .slice _ _ _) rfl) | exact (r_move rfl)) ?_
      refine l_v (r_len_l Try.underlying22 rfl) ?_
      refine l_v (r_lssi rfl rfl) ?_
      refine l_nil (nrm_then ?_)
      refine c_cond rfl (fun h2 => ?_) (fun h2 => ?_)
      · have hil : i < n := by have h := of_decide_eq_true h2; omega
        obtain ⟨x, hxi⟩ : ∃ x, xs[i]? = some x := ⟨xs[i], List.getElem?_eq_getElem (by omega)⟩
        obtain ⟨y, hyi⟩ : ∃ y, ys[i]? = some y := ⟨ys[i], List.getElem?_eq_getElem (by omega)⟩
        have hx0 := hx.below hs.below
        have hy0 := hy.below hs.below
        obtain ⟨ax, rfl, _⟩ := hx.ad (by omega)
        obtain ⟨ay, rfl, _⟩ := hy.ad (by omega)
        have hX := rd_item hx0 (fun y _ => rfl) (by decide) hxi
        have hY := rd_item hy0 (fun y _ => rfl) (by decide) hyi
        replace h2 := of_decide_eq_true h2
        refine c_skip (nrm_then ?_)
        refine c_seq ?_
        refine c_block ?_
        refine c_seq ?_
        refine c_still (by kernel_rfl) (by kernel_rfl) ?_
        have hs := hs.drew
        refine s_v (by first | exact (r_move (v := .slice _ _ _) rfl) | exact (r_move rfl)) ?_
        refine s_v (by first | exact (r_move (v := iV _) rfl) | exact (r_move rfl)) ?_
        refine s_v (r_indexAddr_l (k := i) Try.underlying22 I44 rfl rfl hil) ?_
        refine s_v (r_load_aggP Try.underlying44 I44 rfl hX rfl) ?_
        refine s_v (by first | exact (r_move (v := .slice _ _ _) rfl) | exact (r_move rfl)) ?_
        refine s_v (by first | exact (r_move (v := iV _) rfl) | exact (r_move rfl)) ?_
        refine s_v (r_indexAddr_l (k := i) Try.underlying22 I44 rfl rfl (by omega)) ?_
        refine s_v (r_load_aggP Try.underlying44 I44 rfl hY rfl) ?_
        refine s_v (r_neStruct rfl rfl (by kernel_rfl) (eqEnt' x y _)) ?_
        refine s_nil (nrm_then ?_)
        by_cases hxy : x.key = y.key ∧ x.val = y.val ∧ x.gone = y.gone
        · have f : (!decide (x.key = y.key ∧ x.val = y.val ∧ x.gone = y.gone)) = false := by rw [decide_eq_true hxy]; rfl
          have hxy' := ent_ext.1 hxy
          subst hxy'
          refine c_false rfl (f) ?_
          refine c_skip (nrm_block (nrm_then ?_))
          refine c_region ?_
          refine l_v (by first | exact (r_move (v := iV _) rfl) | exact (r_move rfl)) ?_
          refine l_v (r_addi rfl rfl (by omega)) ?_
          refine l_v (by first | exact (r_assign (v := iV _) rfl) | exact (r_assign rfl)) ?_
          refine l_nil (nrm_then ?_)
          refine And.intro (by refine ⟨?_, ?_, trivial⟩ <;> ((conv => lhs; whnf); (try conv => rhs; whnf))) ?_
          exact ⟨n - (i + 1), by omega, i + 1, by omega, rfl, by rw [List.take_add_one, List.take_add_one, ht, hxi, hyi], hs⟩
        · have f : (!decide (x.key = y.key ∧ x.val = y.val ∧ x.gone = y.gone)) = true := by rw [decide_eq_false hxy]; rfl
          have hne : ¬ xs = ys := fun h => hxy (by rw [h, hyi] at hxi; obtain rfl := Option.some.inj hxi; exact ⟨rfl, rfl, rfl⟩)
          refine c_true rfl (f) ?_
          refine c_rseq ?_
          refine l_v (by first | exact (r_assign (v := bV _) rfl) | exact (r_assign rfl)) ?_
          refine l_nil (nrm_then ?_)
          refine c_ret (ret_block (ret_then (ret_then (ret_block (ret_then ?_)))))
          show Fin _ _ _ _ _
          refine fin1 rfl ?_
          rw [decide_eq_false hne]
          exact ⟨rfl, hs.below⟩
      · obtain rfl : i = n := by have h := of_decide_eq_false h2; omega
        replace h2 := of_decide_eq_false h2
        refine c_exit (ex_then (ex_then (ex_hit (nrm_then ?_))))
        refine c_rseq ?_
        refine l_v (by first | exact (r_assign (v := bV _) rfl) | exact (r_assign rfl)) ?_
        refine l_nil (nrm_then ?_)
        refine c_ret ?_
        show Fin _ _ _ _ _
        refine fin1 rfl ?_
        rw [List.take_of_length_le (by omega), List.take_of_length_le (by omega)] at ht
        rw [decide_eq_true ht]
        exact ⟨rfl, hs.below⟩
end Go.Proofs.Ytfjnjnkmkbbjoaa.Blk
