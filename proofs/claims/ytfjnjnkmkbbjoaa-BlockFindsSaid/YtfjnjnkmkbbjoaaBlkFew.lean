/- Few. -/
import Derived.Test.YtfjnjnkmkbbjoaaBlkSame
namespace Go.Proofs.Ytfjnjnkmkbbjoaa.Blk
open Go Go.RowKit Go.Proofs.Ytfjnjnkmkbbjoaa.Eng Go.Proofs.Ytfjnjnkmkbbjoaa.Six
set_option linter.unusedVariables false
set_option maxRecDepth 100000
def SE (xs : List Ent) (i : Nat) : Nat := ((xs.take i).map fun x => x.key.length + x.val.length).sum
theorem take_nextE {xs : List Ent} {i : Nat} {x : Ent} (h : xs[i]? = some x) : xs.take (i + 1) = xs.take i ++ [x] := by rw [List.take_add_one, h]; rfl
theorem SE_next {xs : List Ent} {i : Nat} {x : Ent} (h : xs[i]? = some x) : SE xs (i + 1) = SE xs i + (x.key.length + x.val.length) := by
  unfold SE; rw [take_nextE h, List.map_append, List.sum_append]; simp
set_option maxHeartbeats 4000000 in
theorem few_c (A : Option Addr) (c : Nat) (xs : List Ent) (w : World) (hr : Rd w 3 A xs.length (xs.flatMap entC)) :
    Calls Try.prog 8 #[.slice A xs.length c] w fun e w' => ∃ b, e = .returned (bV b) ∧ (b = true → xs.length ≤ 3001 ∧ (∀ x ∈ xs, x.key.length ≤ 60000 ∧ x.val.length ≤ 60000) ∧ SE xs xs.length ≤ 60000) ∧ Below w.heap.size w w' := by
  have hn := hr.2.1
  refine enter (P := Try.prog) Try.func8 rfl rfl ?_
  have hs := Sep.init w
  refine c_rseq ?_
  refine l_v (by first | exact (r_assign (v := bV _) rfl) | exact (r_assign rfl)) ?_
  refine l_nil (nrm_then ?_)
  refine c_rseq ?_
  refine l_v (by first | exact (r_assign (v := iV _) rfl) | exact (r_assign rfl)) ?_
  refine l_nil (nrm_then ?_)
  refine c_seq ?_
  refine c_rseq ?_
  refine l_v (by first | exact (r_assign (v := iV _) rfl) | exact (r_assign rfl)) ?_
  refine l_nil (nrm_then ?_)
  refine c_block ?_
  refine c_loopn [0] (fun m f' w' => ∃ i, i + m = xs.length ∧ f' 4 = iV (i : Int) ∧ f' 3 = iV ((SE xs i : Nat) : Int) ∧ Eng.Sep w w' [] ∧ i ≤ 3001 ∧ SE xs i ≤ 180000 ∧ ∀ x ∈ xs.take i, x.key.length ≤ 60000 ∧ x.val.length ≤ 60000) ?_ ?_
  · exact ⟨xs.length, 0, by omega, rfl, rfl, hs, by omega, by simp [SE], by simp⟩
  · rintro m g w_ ⟨i, hi, h4, h3, hs, hi2, hz, hall⟩
    refine OkC.env ?_ (fixH (L := [(4, _), (3, _)]) ⟨h4, h3, trivial⟩)
    clear h4 h3
    refine c_seq ?_
    refine c_rseq ?_
    refine l_v (by first | exact (r_move (v := iV _) rfl) | exact (r_move rfl)) ?_
    refine l_v (by first | exact (r_move (v := .slice _ _ _) rfl) | exact (r_move rfl)) ?_
    refine l_v (r_len_l Try.underlying22 rfl) ?_
    refine l_v (r_lssi rfl rfl) ?_
    refine l_nil (nrm_then ?_)
    refine c_cond rfl (fun h1 => ?_) (fun h1 => ?_)
    · have hil : i < xs.length := by have := of_decide_eq_true h1; omega
      obtain ⟨x, hxi⟩ : ∃ x, xs[i]? = some x := ⟨xs[i], List.getElem?_eq_getElem hil⟩
      have hr0 := hr.below hs.below
      obtain ⟨ad, rfl, _⟩ := hr.ad (by omega)
      have hX := rd_item hr0 (fun y _ => rfl) (by decide) hxi
      have hzn := SE_next hxi
      have htn := take_nextE hxi
      have hkz : (ofL x.key).size = x.key.length := rfl
      have hvz : (ofL x.val).size = x.val.length := rfl
      replace h1 := of_decide_eq_true h1
      refine c_skip (nrm_then ?_)
      refine c_seq ?_
      refine c_block ?_
      refine c_seq ?_
      refine c_seq ?_
      refine c_mid [0, 2, 3, 4] (fun f' w' => w' = w_ ∧ ∃ bb, f' 34 = bV bb ∧ (bb = false → x.key.length ≤ 60000 ∧ x.val.length ≤ 60000 ∧ i ≤ 3000 ∧ SE xs i ≤ 60000)) ?_ ?_
      · refine c_region ?_
        refine l_v (by first | exact (r_move (v := .slice _ _ _) rfl) | exact (r_move rfl)) ?_
        refine l_v (by first | exact (r_move (v := iV _) rfl) | exact (r_move rfl)) ?_
        refine l_v (r_indexAddr_l (k := i) Try.underlying22 I44 rfl rfl hil) ?_
        refine l_v (r_fieldAddrP (off := 0) (T := 9) (by kernel_rfl) rfl) ?_
        refine l_v (r_load Try.underlying9 rfl (hX 0 _ rfl)) ?_
        refine l_v (r_len_s Try.underlying9 rfl) ?_
        refine l_v (r_gtri rfl rfl) ?_
        by_cases c1 : (((ofL x.key).size : Nat) : Int) > 60000
        · have f1 : decide ((((ofL x.key).size : Nat) : Int) > 60000) = true := decide_eq_true c1
          refine l_v (by first | exact (r_move (v := bV _) rfl) | exact (r_move rfl)) ?_
          refine l_no rfl (f1) ?_
          refine l_no rfl (f1) ?_
          refine l_no rfl (f1) ?_
          refine l_no rfl (f1) ?_
          refine l_no rfl (f1) ?_
          refine l_no rfl (f1) ?_
          refine l_no rfl (f1) ?_
          refine l_v (r_pick_t rfl f1 rfl) ?_
          refine l_v (by first | exact (r_move (v := bV _) rfl) | exact (r_move rfl)) ?_
          refine l_no rfl (rfl) ?_
          refine l_no rfl (rfl) ?_
          refine l_v (r_pick_t rfl rfl rfl) ?_
          refine l_v (by first | exact (r_move (v := bV _) rfl) | exact (r_move rfl)) ?_
          refine l_no rfl (rfl) ?_
          refine l_no rfl (rfl) ?_
          refine l_v (r_pick_t rfl rfl rfl) ?_
          refine l_nil (nrm_then ?_)
          refine And.intro (by refine ⟨?_, ?_, ?_, ?_, trivial⟩ <;> ((conv => lhs; whnf); (try conv => rhs; whnf))) ?_
          exact ⟨rfl, true, rfl, fun h => by cases h⟩
        · have f1 : decide ((((ofL x.key).size : Nat) : Int) > 60000) = false := decide_eq_false c1
          refine l_v (by first | exact (r_move (v := bV _) rfl) | exact (r_move rfl)) ?_
          refine l_vg (by first | exact (r_move (v := .slice _ _ _) rfl) | exact (r_move rfl)) rfl (f1) ?_
          refine l_vg (by first | exact (r_move (v := iV _) rfl) | exact (r_move rfl)) rfl (f1) ?_
          refine l_vg (r_indexAddr_l (k := i) Try.underlying22 I44 rfl rfl hil) rfl (f1) ?_
          refine l_vg (r_fieldAddrP (off := 1) (T := 9) (by kernel_rfl) rfl) rfl (f1) ?_
          refine l_vg (r_load Try.underlying9 rfl (hX 1 _ rfl)) rfl (f1) ?_
          refine l_vg (r_len_s Try.underlying9 rfl) rfl (f1) ?_
          refine l_vg (r_gtri rfl rfl) rfl (f1) ?_
          refine l_v (r_pick_f rfl f1 rfl) ?_
          by_cases c2 : (((ofL x.val).size : Nat) : Int) > 60000
          · have f2 : decide ((((ofL x.val).size : Nat) : Int) > 60000) = true := decide_eq_true c2
            refine l_v (by first | exact (r_move (v := bV _) rfl) | exact (r_move rfl)) ?_
            refine l_no rfl (f2) ?_
            refine l_no rfl (f2) ?_
            refine l_v (r_pick_t rfl f2 rfl) ?_
            refine l_v (by first | exact (r_move (v := bV _) rfl) | exact (r_move rfl)) ?_
            refine l_no rfl (rfl) ?_
            refine l_no rfl (rfl) ?_
            refine l_v (r_pick_t rfl rfl rfl) ?_
            refine l_nil (nrm_then ?_)
            refine And.intro (by refine ⟨?_, ?_, ?_, ?_, trivial⟩ <;> ((conv => lhs; whnf); (try conv => rhs; whnf))) ?_
            exact ⟨rfl, true, rfl, fun h => by cases h⟩
          · have f2 : decide ((((ofL x.val).size : Nat) : Int) > 60000) = false := decide_eq_false c2
            refine l_v (by first | exact (r_move (v := bV _) rfl) | exact (r_move rfl)) ?_
            refine l_vg (by first | exact (r_move (v := iV _) rfl) | exact (r_move rfl)) rfl (f2) ?_
            refine l_vg (r_gtri rfl rfl) rfl (f2) ?_
            refine l_v (r_pick_f rfl f2 rfl) ?_
            by_cases c3 : (i : Int) > 3000
            · have f3 : decide ((i : Int) > 3000) = true := decide_eq_true c3
              refine l_v (by first | exact (r_move (v := bV _) rfl) | exact (r_move rfl)) ?_
              refine l_no rfl (f3) ?_
              refine l_no rfl (f3) ?_
              refine l_v (r_pick_t rfl f3 rfl) ?_
              refine l_nil (nrm_then ?_)
              refine And.intro (by refine ⟨?_, ?_, ?_, ?_, trivial⟩ <;> ((conv => lhs; whnf); (try conv => rhs; whnf))) ?_
              exact ⟨rfl, true, rfl, fun h => by cases h⟩
            · have f3 : decide ((i : Int) > 3000) = false := decide_eq_false c3
              refine l_v (by first | exact (r_move (v := bV _) rfl) | exact (r_move rfl)) ?_
              refine l_vg (by first | exact (r_move (v := iV _) rfl) | exact (r_move rfl)) rfl (f3) ?_
              refine l_vg (r_gtri rfl rfl) rfl (f3) ?_
              refine l_v (r_pick_f rfl f3 rfl) ?_
              refine l_nil (nrm_then ?_)
              refine And.intro (by refine ⟨?_, ?_, ?_, ?_, trivial⟩ <;> ((conv => lhs; whnf); (try conv => rhs; whnf))) ?_
              exact ⟨rfl, _, rfl, fun h => by have h := of_decide_eq_false h; omega⟩
      · rintro g w_ ⟨rfl, bb, h34, hbb⟩
        show OkC _ _ _ _ _ _
        refine OkC.env ?_ (fixH (L := [(34, _)]) ⟨h34, trivial⟩)
        clear h34
        rcases Bool.eq_false_or_eq_true bb with hq | hq
        · refine c_true rfl (hq) ?_
          refine c_rseq ?_
          refine l_v (by first | exact (r_assign (v := bV _) rfl) | exact (r_assign rfl)) ?_
          refine l_nil (nrm_then ?_)
          refine c_ret (ret_then (ret_block (ret_then (ret_then (ret_block (ret_then ?_))))))
          show Fin _ _ _ _ _
          refine fin1 rfl ?_
          exact ⟨false, rfl, (fun h => by cases h), hs.below⟩
        · obtain ⟨k1, k2, k3, k4⟩ := hbb hq
          have hall2 : ∀ y ∈ xs.take (i + 1), y.key.length ≤ 60000 ∧ y.val.length ≤ 60000 := by
            rw [htn]
            intro y hy
            rcases List.mem_append.1 hy with h | h
            · exact hall y h
            · rw [List.mem_singleton.1 h]; exact ⟨k1, k2⟩
          refine c_false rfl (hq) ?_
          refine c_skip (nrm_then ?_)
          refine c_still (by kernel_rfl) (by kernel_rfl) ?_
          have hs := hs.drew
          refine s_v (by first | exact (r_move (v := iV _) rfl) | exact (r_move rfl)) ?_
          refine s_v (by first | exact (r_move (v := .slice _ _ _) rfl) | exact (r_move rfl)) ?_
          refine s_v (by first | exact (r_move (v := iV _) rfl) | exact (r_move rfl)) ?_
          refine s_v (r_indexAddr_l (k := i) Try.underlying22 I44 rfl rfl hil) ?_
          refine s_v (r_fieldAddrP (off := 0) (T := 9) (by kernel_rfl) rfl) ?_
          refine s_v (r_load Try.underlying9 rfl (hX 0 _ rfl)) ?_
          refine s_v (r_len_s Try.underlying9 rfl) ?_
          refine s_v (r_addi rfl rfl (by omega)) ?_
          refine s_v (by first | exact (r_move (v := .slice _ _ _) rfl) | exact (r_move rfl)) ?_
          refine s_v (by first | exact (r_move (v := iV _) rfl) | exact (r_move rfl)) ?_
          refine s_v (r_indexAddr_l (k := i) Try.underlying22 I44 rfl rfl hil) ?_
          refine s_v (r_fieldAddrP (off := 1) (T := 9) (by kernel_rfl) rfl) ?_
          refine s_v (r_load Try.underlying9 rfl (hX 1 _ rfl)) ?_
          refine s_v (r_len_s Try.underlying9 rfl) ?_
          refine s_v (r_addi rfl rfl (by omega)) ?_
          refine s_v (by first | exact (r_assign (v := iV _) rfl) | exact (r_assign rfl)) ?_
          refine s_nil (nrm_block (nrm_then ?_))
          refine c_region ?_
          refine l_v (by first | exact (r_move (v := iV _) rfl) | exact (r_move rfl)) ?_
          refine l_v (r_addi rfl rfl (by omega)) ?_
          refine l_v (by first | exact (r_assign (v := iV _) rfl) | exact (r_assign rfl)) ?_
          refine l_nil (nrm_then ?_)
          refine And.intro (by refine ⟨?_, trivial⟩ <;> ((conv => lhs; whnf); (try conv => rhs; whnf))) ?_
          exact ⟨xs.length - (i + 1), by omega, i + 1, by omega, rfl, congrArg iV (by rw [hzn, hkz, hvz]; omega), hs, by omega, by omega, hall2⟩
    · obtain rfl : i = xs.length := by have := of_decide_eq_false h1; omega
      rw [List.take_length] at hall
      replace h1 := of_decide_eq_false h1
      refine c_exit (ex_then (ex_then (ex_hit (nrm_then ?_))))
      refine c_rseq ?_
      refine l_v (by first | exact (r_move (v := iV _) rfl) | exact (r_move rfl)) ?_
      refine l_v (r_leqi rfl rfl) ?_
      refine l_v (by first | exact (r_assign (v := bV _) rfl) | exact (r_assign rfl)) ?_
      refine l_nil (nrm_then ?_)
      refine c_ret ?_
      show Fin _ _ _ _ _
      refine fin1 rfl ?_
      exact ⟨_, rfl, fun h => ⟨by omega, hall, by have h : ((SE xs xs.length : Nat) : Int) ≤ 60000 := of_decide_eq_true h; omega⟩, hs.below⟩
end Go.Proofs.Ytfjnjnkmkbbjoaa.Blk
