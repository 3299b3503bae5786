/- The walk of the document's Check. -/
import Derived.Test.YtfjnjnkmkbbjoaaBlkCheck
namespace Go.Proofs.Ytfjnjnkmkbbjoaa.Blk
open Go Go.RowKit Go.Proofs.Ytfjnjnkmkbbjoaa.Eng Go.Proofs.Ytfjnjnkmkbbjoaa.Six
set_option linter.unusedVariables false
set_option maxRecDepth 100000
set_option maxHeartbeats 8000000 in
theorem rcheck_c (A : Option Addr) (c : Nat) (xs : List Ent) (w : World) (hr : Rd w 3 A xs.length (xs.flatMap entC)) :
    Calls Try.prog 10 #[.slice A xs.length c] w fun e w' => e = .returned (iV (check xs)) ∧ Below w.heap.size w w' := by
  have hn := hr.2.1
  unfold check
  refine enter (P := Try.prog) Try.func10 rfl rfl ?_
  have hs := Sep.init w
  refine c_rseq ?_
  refine l_v (by first | exact (r_assign (v := iV _) rfl) | exact (r_assign rfl)) ?_
  refine l_nil (nrm_then ?_)
  refine c_seq ?_
  refine c_rseq ?_
  refine l_v (by first | exact (r_move (v := .slice _ _ _) rfl) | exact (r_move rfl)) ?_
  refine l_v (r_len_l Try.underlying22 rfl) ?_
  refine l_v (r_gtri rfl rfl) ?_
  refine l_nil (nrm_then ?_)
  refine c_cond rfl (fun h1 => ?_) (fun h1 => ?_)
  · have h1' : 65536 < xs.length := by have h := of_decide_eq_true h1; omega
    replace h1 := of_decide_eq_true h1
    refine c_rseq ?_
    refine l_v (by first | exact (r_assign (v := iV _) rfl) | exact (r_assign rfl)) ?_
    refine l_nil (nrm_then ?_)
    refine c_ret (ret_then ?_)
    show Fin _ _ _ _ _
    refine fin1 rfl ?_
    rw [if_pos h1']
    exact ⟨rfl, hs.below⟩
  · have h1' : ¬ 65536 < xs.length := by have h := of_decide_eq_false h1; omega
    rw [if_neg h1']
    replace h1 := of_decide_eq_false h1
    refine c_skip (nrm_then ?_)
    refine c_seq ?_
    refine c_rseq ?_
    refine l_v (by first | exact (r_assign (v := iV _) rfl) | exact (r_assign rfl)) ?_
    refine l_nil (nrm_then ?_)
    refine c_block ?_
    refine c_loopn [0] (fun m f' w' => ∃ i, i + m = xs.length ∧ f' 3 = iV (i : Int) ∧ chk none xs = chk (prevK xs i) (xs.drop i) ∧ Eng.Sep w w' []) ?_ ?_
    · exact ⟨xs.length, 0, by omega, rfl, rfl, hs⟩
    · rintro m g w_ ⟨i, hi, h3, hch, hs⟩
      refine OkC.env ?_ (fixH (L := [(3, _)]) ⟨h3, trivial⟩)
      clear h3
      refine c_seq ?_
      refine c_rseq ?_
      refine l_v (by first | exact (r_move (v := iV _) rfl) | exact (r_move rfl)) ?_
      refine l_v (by first | exact (r_move (v := .slice _ _ _) rfl) | exact (r_move rfl)) ?_
      refine l_v (r_len_l Try.underlying22 rfl) ?_
      refine l_v (r_lssi rfl rfl) ?_
      refine l_nil (nrm_then ?_)
      refine c_cond rfl (fun h2 => ?_) (fun h2 => ?_)
      · have hil : i < xs.length := by have h := of_decide_eq_true h2; omega
        obtain ⟨x, hxi⟩ : ∃ x, xs[i]? = some x := ⟨xs[i], List.getElem?_eq_getElem hil⟩
        have hr0 := hr.below hs.below
        obtain ⟨ad, rfl, _⟩ := hr.ad (by omega)
        have hX := rd_item hr0 (fun y _ => rfl) (by decide) hxi
        rw [chk_at hxi] at hch
        have hkz : (ofL x.key).size = x.key.length := rfl
        have hvz : (ofL x.val).size = x.val.length := rfl
        replace h2 := of_decide_eq_true h2
        refine c_skip (nrm_then ?_)
        refine c_seq ?_
        refine c_block ?_
        refine c_seq ?_
        refine c_rseq ?_
        refine l_v (by first | exact (r_move (v := .slice _ _ _) rfl) | exact (r_move rfl)) ?_
        refine l_v (by first | exact (r_move (v := iV _) rfl) | exact (r_move rfl)) ?_
        refine l_v (r_indexAddr_l (k := i) Try.underlying22 I44 rfl rfl hil) ?_
        refine l_v (r_fieldAddrP (off := 0) (T := 9) (by kernel_rfl) rfl) ?_
        refine l_v (r_load Try.underlying9 rfl (hX 0 _ rfl)) ?_
        refine l_v (r_len_s Try.underlying9 rfl) ?_
        refine l_v (r_gtri rfl rfl) ?_
        by_cases c1 : (((ofL x.key).size : Nat) : Int) > 65536
        · have f1 : decide ((((ofL x.key).size : Nat) : Int) > 65536) = true := decide_eq_true c1
          refine l_v (by first | exact (r_move (v := bV _) rfl) | exact (r_move rfl)) ?_
          refine l_no rfl (f1) ?_
          refine l_no rfl (f1) ?_
          refine l_no rfl (f1) ?_
          refine l_no rfl (f1) ?_
          refine l_no rfl (f1) ?_
          refine l_no rfl (f1) ?_
          refine l_no rfl (f1) ?_
          refine l_v (r_pick_t rfl f1 rfl) ?_
          refine l_nil (nrm_then ?_)
          refine c_true rfl (rfl) ?_
          refine c_rseq ?_
          refine l_v (by first | exact (r_assign (v := iV _) rfl) | exact (r_assign rfl)) ?_
          refine l_nil (nrm_then ?_)
          refine c_ret (ret_then (ret_block (ret_then (ret_then (ret_block (ret_then ?_))))))
          show Fin _ _ _ _ _
          refine fin1 rfl ?_
          rw [hch, if_pos (by omega)]
          exact ⟨rfl, hs.below⟩
        · have f1 : decide ((((ofL x.key).size : Nat) : Int) > 65536) = false := decide_eq_false c1
          refine l_v (by first | exact (r_move (v := bV _) rfl) | exact (r_move rfl)) ?_
          refine l_vg (by first | exact (r_move (v := .slice _ _ _) rfl) | exact (r_move rfl)) rfl (f1) ?_
          refine l_vg (by first | exact (r_move (v := iV _) rfl) | exact (r_move rfl)) rfl (f1) ?_
          refine l_vg (r_indexAddr_l (k := i) Try.underlying22 I44 rfl rfl hil) rfl (f1) ?_
          refine l_vg (r_fieldAddrP (off := 1) (T := 9) (by kernel_rfl) rfl) rfl (f1) ?_
          refine l_vg (r_load Try.underlying9 rfl (hX 1 _ rfl)) rfl (f1) ?_
          refine l_vg (r_len_s Try.underlying9 rfl) rfl (f1) ?_
          refine l_vg (r_gtri rfl rfl) rfl (f1) ?_
          refine l_v (r_pick_f rfl f1 rfl) ?_
          refine l_nil (nrm_then ?_)
          refine c_cond rfl (fun h3 => ?_) (fun h3 => ?_)
          · have c2 : (((ofL x.val).size : Nat) : Int) > 65536 := of_decide_eq_true h3
            replace h3 := of_decide_eq_true h3
            refine c_rseq ?_
            refine l_v (by first | exact (r_assign (v := iV _) rfl) | exact (r_assign rfl)) ?_
            refine l_nil (nrm_then ?_)
            refine c_ret (ret_then (ret_block (ret_then (ret_then (ret_block (ret_then ?_))))))
            show Fin _ _ _ _ _
            refine fin1 rfl ?_
            rw [hch, if_pos (by omega)]
            exact ⟨rfl, hs.below⟩
          · have c2 : ¬ (((ofL x.val).size : Nat) : Int) > 65536 := of_decide_eq_false h3
            rw [if_neg (by omega)] at hch
            replace h3 := of_decide_eq_false h3
            refine c_skip (nrm_then ?_)
            refine c_seq ?_
            refine c_mid [0, 2, 3] (fun f' w' => f' 61 = bV (fit (prevK xs i) x.key || (x.gone && decide (x.val ≠ []))) ∧ Eng.Sep w w' []) ?_ ?_
            · skip
              rcases i with _ | j
              · have f30 : decide (((0 : Nat) : Int) > 0) = false := rfl
                rcases Bool.eq_false_or_eq_true x.gone with hg | hg
                · skip
                  refine c_still (by kernel_rfl) (by kernel_rfl) ?_
                  have hs := hs.drew
                  refine s_v (by first | exact (r_move (v := iV _) rfl) | exact (r_move rfl)) ?_
                  refine s_v (r_gtri rfl rfl) ?_
                  refine s_v (by first | exact (r_move (v := bV _) rfl) | exact (r_move rfl)) ?_
                  refine s_skip (dj := 31) (b := true) (.inl (by first | rfl | (rw [show _ = _ from f30]; rfl) | exact congrArg Value.bool (f30))) ?_
                  refine s_skip (dj := 31) (b := true) (.inl (by first | rfl | (rw [show _ = _ from f30]; rfl) | exact congrArg Value.bool (f30))) ?_
                  refine s_skip (dj := 31) (b := true) (.inl (by first | rfl | (rw [show _ = _ from f30]; rfl) | exact congrArg Value.bool (f30))) ?_
                  refine s_skip (dj := 31) (b := true) (.inl (by first | rfl | (rw [show _ = _ from f30]; rfl) | exact congrArg Value.bool (f30))) ?_
                  refine s_skip (dj := 31) (b := true) (.inl (by first | rfl | (rw [show _ = _ from f30]; rfl) | exact congrArg Value.bool (f30))) ?_
                  refine s_skip (dj := 31) (b := true) (.inl (by first | rfl | (rw [show _ = _ from f30]; rfl) | exact congrArg Value.bool (f30))) ?_
                  refine s_skip (dj := 31) (b := true) (.inl (by first | rfl | (rw [show _ = _ from f30]; rfl) | exact congrArg Value.bool (f30))) ?_
                  refine s_skip (dj := 31) (b := true) (.inl (by first | rfl | (rw [show _ = _ from f30]; rfl) | exact congrArg Value.bool (f30))) ?_
                  refine s_skip (dj := 31) (b := true) (.inl (by first | rfl | (rw [show _ = _ from f30]; rfl) | exact congrArg Value.bool (f30))) ?_
                  refine s_skip (dj := 31) (b := true) (.inl (by first | rfl | (rw [show _ = _ from f30]; rfl) | exact congrArg Value.bool (f30))) ?_
                  refine s_skip (dj := 31) (b := true) (.inl (by first | rfl | (rw [show _ = _ from f30]; rfl) | exact congrArg Value.bool (f30))) ?_
                  refine s_skip (dj := 31) (b := true) (.inl (by first | rfl | (rw [show _ = _ from f30]; rfl) | exact congrArg Value.bool (f30))) ?_
                  refine s_skip (dj := 31) (b := true) (.inl (by first | rfl | (rw [show _ = _ from f30]; rfl) | exact congrArg Value.bool (f30))) ?_
                  refine s_v (r_pick_f rfl f30 rfl) ?_
                  refine s_v (by first | exact (r_move (v := bV _) rfl) | exact (r_move rfl)) ?_
                  refine s_vg (by first | exact (r_move (v := .slice _ _ _) rfl) | exact (r_move rfl)) rfl (rfl) ?_
                  refine s_vg (by first | exact (r_move (v := iV _) rfl) | exact (r_move rfl)) rfl (rfl) ?_
                  refine s_vg (r_indexAddr_l (k := 0) Try.underlying22 I44 rfl rfl hil) rfl (rfl) ?_
                  refine s_vg (r_fieldAddrP (off := 2) (T := 4) (by kernel_rfl) rfl) rfl (rfl) ?_
                  refine s_vg (r_load Try.underlying4 rfl (hX 2 _ rfl)) rfl (rfl) ?_
                  refine s_vg (by first | exact (r_move (v := bV _) rfl) | exact (r_move rfl)) rfl (rfl) ?_
                  refine s_vg (by first | exact (r_move (v := .slice _ _ _) rfl) | exact (r_move rfl)) rfl (hg) ?_
                  refine s_vg (by first | exact (r_move (v := iV _) rfl) | exact (r_move rfl)) rfl (hg) ?_
                  refine s_vg (r_indexAddr_l (k := 0) Try.underlying22 I44 rfl rfl hil) rfl (hg) ?_
                  refine s_vg (r_fieldAddrP (off := 1) (T := 9) (by kernel_rfl) rfl) rfl (hg) ?_
                  refine s_vg (r_load Try.underlying9 rfl (hX 1 _ rfl)) rfl (hg) ?_
                  refine s_vg (r_len_s Try.underlying9 rfl) rfl (hg) ?_
                  refine s_vg (r_gtri rfl rfl) rfl (hg) ?_
                  refine s_vg (r_pick_t rfl hg rfl) rfl (rfl) ?_
                  refine s_v (r_pick_f rfl rfl rfl) ?_
                  refine s_nil (nrm_then ?_)
                  refine And.intro (by refine ⟨?_, ?_, ?_, trivial⟩ <;> ((conv => lhs; whnf); (try conv => rhs; whnf))) ?_
                  refine ⟨congrArg bV ?_, hs⟩
                  rw [show fit (prevK xs 0) x.key = false from rfl, hg, Bool.false_or, Bool.true_and]
                  exact val_len x.val
                · skip
                  refine c_still (by kernel_rfl) (by kernel_rfl) ?_
                  have hs := hs.drew
                  refine s_v (by first | exact (r_move (v := iV _) rfl) | exact (r_move rfl)) ?_
                  refine s_v (r_gtri rfl rfl) ?_
                  refine s_v (by first | exact (r_move (v := bV _) rfl) | exact (r_move rfl)) ?_
                  refine s_skip (dj := 31) (b := true) (.inl (by first | rfl | (rw [show _ = _ from f30]; rfl) | exact congrArg Value.bool (f30))) ?_
                  refine s_skip (dj := 31) (b := true) (.inl (by first | rfl | (rw [show _ = _ from f30]; rfl) | exact congrArg Value.bool (f30))) ?_
                  refine s_skip (dj := 31) (b := true) (.inl (by first | rfl | (rw [show _ = _ from f30]; rfl) | exact congrArg Value.bool (f30))) ?_
                  refine s_skip (dj := 31) (b := true) (.inl (by first | rfl | (rw [show _ = _ from f30]; rfl) | exact congrArg Value.bool (f30))) ?_
                  refine s_skip (dj := 31) (b := true) (.inl (by first | rfl | (rw [show _ = _ from f30]; rfl) | exact congrArg Value.bool (f30))) ?_
                  refine s_skip (dj := 31) (b := true) (.inl (by first | rfl | (rw [show _ = _ from f30]; rfl) | exact congrArg Value.bool (f30))) ?_
                  refine s_skip (dj := 31) (b := true) (.inl (by first | rfl | (rw [show _ = _ from f30]; rfl) | exact congrArg Value.bool (f30))) ?_
                  refine s_skip (dj := 31) (b := true) (.inl (by first | rfl | (rw [show _ = _ from f30]; rfl) | exact congrArg Value.bool (f30))) ?_
                  refine s_skip (dj := 31) (b := true) (.inl (by first | rfl | (rw [show _ = _ from f30]; rfl) | exact congrArg Value.bool (f30))) ?_
                  refine s_skip (dj := 31) (b := true) (.inl (by first | rfl | (rw [show _ = _ from f30]; rfl) | exact congrArg Value.bool (f30))) ?_
                  refine s_skip (dj := 31) (b := true) (.inl (by first | rfl | (rw [show _ = _ from f30]; rfl) | exact congrArg Value.bool (f30))) ?_
                  refine s_skip (dj := 31) (b := true) (.inl (by first | rfl | (rw [show _ = _ from f30]; rfl) | exact congrArg Value.bool (f30))) ?_
                  refine s_skip (dj := 31) (b := true) (.inl (by first | rfl | (rw [show _ = _ from f30]; rfl) | exact congrArg Value.bool (f30))) ?_
                  refine s_v (r_pick_f rfl f30 rfl) ?_
                  refine s_v (by first | exact (r_move (v := bV _) rfl) | exact (r_move rfl)) ?_
                  refine s_vg (by first | exact (r_move (v := .slice _ _ _) rfl) | exact (r_move rfl)) rfl (rfl) ?_
                  refine s_vg (by first | exact (r_move (v := iV _) rfl) | exact (r_move rfl)) rfl (rfl) ?_
                  refine s_vg (r_indexAddr_l (k := 0) Try.underlying22 I44 rfl rfl hil) rfl (rfl) ?_
                  refine s_vg (r_fieldAddrP (off := 2) (T := 4) (by kernel_rfl) rfl) rfl (rfl) ?_
                  refine s_vg (r_load Try.underlying4 rfl (hX 2 _ rfl)) rfl (rfl) ?_
                  refine s_vg (by first | exact (r_move (v := bV _) rfl) | exact (r_move rfl)) rfl (rfl) ?_
                  refine s_skip (dj := 52) (b := true) (.inl (by first | rfl | (rw [show _ = _ from hg]; rfl) | exact congrArg Value.bool (hg))) ?_
                  refine s_skip (dj := 52) (b := true) (.inl (by first | rfl | (rw [show _ = _ from hg]; rfl) | exact congrArg Value.bool (hg))) ?_
                  refine s_skip (dj := 52) (b := true) (.inl (by first | rfl | (rw [show _ = _ from hg]; rfl) | exact congrArg Value.bool (hg))) ?_
                  refine s_skip (dj := 52) (b := true) (.inl (by first | rfl | (rw [show _ = _ from hg]; rfl) | exact congrArg Value.bool (hg))) ?_
                  refine s_skip (dj := 52) (b := true) (.inl (by first | rfl | (rw [show _ = _ from hg]; rfl) | exact congrArg Value.bool (hg))) ?_
                  refine s_skip (dj := 52) (b := true) (.inl (by first | rfl | (rw [show _ = _ from hg]; rfl) | exact congrArg Value.bool (hg))) ?_
                  refine s_skip (dj := 52) (b := true) (.inl (by first | rfl | (rw [show _ = _ from hg]; rfl) | exact congrArg Value.bool (hg))) ?_
                  refine s_vg (r_pick_f rfl hg rfl) rfl (rfl) ?_
                  refine s_v (r_pick_f rfl rfl rfl) ?_
                  refine s_nil (nrm_then ?_)
                  refine And.intro (by refine ⟨?_, ?_, ?_, trivial⟩ <;> ((conv => lhs; whnf); (try conv => rhs; whnf))) ?_
                  refine ⟨congrArg bV ?_, hs⟩
                  rw [show fit (prevK xs 0) x.key = false from rfl, hg, Bool.false_or, Bool.false_and]
              · have f30 : decide (((j + 1 : Nat) : Int) > 0) = true := decide_eq_true (by omega)
                have hjl : j < xs.length := by omega
                obtain ⟨y, hyj⟩ : ∃ y, xs[j]? = some y := ⟨xs[j], List.getElem?_eq_getElem hjl⟩
                have hY := rd_item hr0 (fun y _ => rfl) (by decide) hyj
                have hfs : fit (prevK xs (j + 1)) x.key = (!!(sLt (ofL x.key) (ofL y.key) || decide (ofL x.key = ofL y.key))) := by rw [fit_succ hyj, sLt_tri, Bool.not_not]
                rcases Bool.eq_false_or_eq_true (!!(sLt (ofL x.key) (ofL y.key) || decide (ofL x.key = ofL y.key))) with hq | hq
                · skip
                  refine c_still (by kernel_rfl) (by kernel_rfl) ?_
                  have hs := hs.drew
                  refine s_v (by first | exact (r_move (v := iV _) rfl) | exact (r_move rfl)) ?_
                  refine s_v (r_gtri rfl rfl) ?_
                  refine s_v (by first | exact (r_move (v := bV _) rfl) | exact (r_move rfl)) ?_
                  refine s_vg (by first | exact (r_move (v := .slice _ _ _) rfl) | exact (r_move rfl)) rfl (f30) ?_
                  refine s_vg (by first | exact (r_move (v := iV _) rfl) | exact (r_move rfl)) rfl (f30) ?_
                  refine s_vg (r_indexAddr_l (k := j + 1) Try.underlying22 I44 rfl rfl hil) rfl (f30) ?_
                  refine s_vg (r_fieldAddrP (off := 0) (T := 9) (by kernel_rfl) rfl) rfl (f30) ?_
                  refine s_vg (r_load Try.underlying9 rfl (hX 0 _ rfl)) rfl (f30) ?_
                  refine s_vg (by first | exact (r_move (v := .slice _ _ _) rfl) | exact (r_move rfl)) rfl (f30) ?_
                  refine s_vg (by first | exact (r_move (v := iV _) rfl) | exact (r_move rfl)) rfl (f30) ?_
                  refine s_vg (r_pred (j := j) rfl rfl (by omega)) rfl (f30) ?_
                  refine s_vg (r_indexAddr_l (k := j) Try.underlying22 I44 rfl rfl hjl) rfl (f30) ?_
                  refine s_vg (r_fieldAddrP (off := 0) (T := 9) (by kernel_rfl) rfl) rfl (f30) ?_
                  refine s_vg (r_load Try.underlying9 rfl (hY 0 _ rfl)) rfl (f30) ?_
                  refine s_vg (r_gtrs rfl rfl) rfl (f30) ?_
                  refine s_vg (r_not rfl) rfl (f30) ?_
                  refine s_v (r_pick_t rfl f30 rfl) ?_
                  refine s_v (by first | exact (r_move (v := bV _) rfl) | exact (r_move rfl)) ?_
                  refine s_skip (dj := 46) (b := false) (.inl (by first | rfl | (rw [show _ = _ from hq]; rfl) | exact congrArg Value.bool (hq))) ?_
                  refine s_skip (dj := 46) (b := false) (.inl (by first | rfl | (rw [show _ = _ from hq]; rfl) | exact congrArg Value.bool (hq))) ?_
                  refine s_skip (dj := 46) (b := false) (.inl (by first | rfl | (rw [show _ = _ from hq]; rfl) | exact congrArg Value.bool (hq))) ?_
                  refine s_skip (dj := 46) (b := false) (.inl (by first | rfl | (rw [show _ = _ from hq]; rfl) | exact congrArg Value.bool (hq))) ?_
                  refine s_skip (dj := 46) (b := false) (.inl (by first | rfl | (rw [show _ = _ from hq]; rfl) | exact congrArg Value.bool (hq))) ?_
                  refine s_skip (dj := 46) (b := false) (.inl (by first | rfl | (rw [show _ = _ from hq]; rfl) | exact congrArg Value.bool (hq))) ?_
                  refine s_skip (.inr rfl) ?_
                  refine s_skip (.inr rfl) ?_
                  refine s_skip (.inr rfl) ?_
                  refine s_skip (.inr rfl) ?_
                  refine s_skip (.inr rfl) ?_
                  refine s_skip (.inr rfl) ?_
                  refine s_skip (.inr rfl) ?_
                  refine s_skip (dj := 46) (b := false) (.inl (by first | rfl | (rw [show _ = _ from hq]; rfl) | exact congrArg Value.bool (hq))) ?_
                  refine s_v (r_pick_t rfl hq rfl) ?_
                  refine s_nil (nrm_then ?_)
                  refine And.intro (by refine ⟨?_, ?_, ?_, trivial⟩ <;> ((conv => lhs; whnf); (try conv => rhs; whnf))) ?_
                  refine ⟨congrArg bV ?_, hs⟩
                  rw [hfs, hq, Bool.true_or]
                · rcases Bool.eq_false_or_eq_true x.gone with hg | hg
                  · skip
                    refine c_still (by kernel_rfl) (by kernel_rfl) ?_
                    have hs := hs.drew
                    refine s_v (by first | exact (r_move (v := iV _) rfl) | exact (r_move rfl)) ?_
                    refine s_v (r_gtri rfl rfl) ?_
                    refine s_v (by first | exact (r_move (v := bV _) rfl) | exact (r_move rfl)) ?_
                    refine s_vg (by first | exact (r_move (v := .slice _ _ _) rfl) | exact (r_move rfl)) rfl (f30) ?_
                    refine s_vg (by first | exact (r_move (v := iV _) rfl) | exact (r_move rfl)) rfl (f30) ?_
                    refine s_vg (r_indexAddr_l (k := j + 1) Try.underlying22 I44 rfl rfl hil) rfl (f30) ?_
                    refine s_vg (r_fieldAddrP (off := 0) (T := 9) (by kernel_rfl) rfl) rfl (f30) ?_
                    refine s_vg (r_load Try.underlying9 rfl (hX 0 _ rfl)) rfl (f30) ?_
                    refine s_vg (by first | exact (r_move (v := .slice _ _ _) rfl) | exact (r_move rfl)) rfl (f30) ?_
                    refine s_vg (by first | exact (r_move (v := iV _) rfl) | exact (r_move rfl)) rfl (f30) ?_
                    refine s_vg (r_pred (j := j) rfl rfl (by omega)) rfl (f30) ?_
                    refine s_vg (r_indexAddr_l (k := j) Try.underlying22 I44 rfl rfl hjl) rfl (f30) ?_
                    refine s_vg (r_fieldAddrP (off := 0) (T := 9) (by kernel_rfl) rfl) rfl (f30) ?_
                    refine s_vg (r_load Try.underlying9 rfl (hY 0 _ rfl)) rfl (f30) ?_
                    refine s_vg (r_gtrs rfl rfl) rfl (f30) ?_
                    refine s_vg (r_not rfl) rfl (f30) ?_
                    refine s_v (r_pick_t rfl f30 rfl) ?_
                    refine s_v (by first | exact (r_move (v := bV _) rfl) | exact (r_move rfl)) ?_
                    refine s_vg (by first | exact (r_move (v := .slice _ _ _) rfl) | exact (r_move rfl)) rfl (hq) ?_
                    refine s_vg (by first | exact (r_move (v := iV _) rfl) | exact (r_move rfl)) rfl (hq) ?_
                    refine s_vg (r_indexAddr_l (k := j + 1) Try.underlying22 I44 rfl rfl hil) rfl (hq) ?_
                    refine s_vg (r_fieldAddrP (off := 2) (T := 4) (by kernel_rfl) rfl) rfl (hq) ?_
                    refine s_vg (r_load Try.underlying4 rfl (hX 2 _ rfl)) rfl (hq) ?_
                    refine s_vg (by first | exact (r_move (v := bV _) rfl) | exact (r_move rfl)) rfl (hq) ?_
                    refine s_vg (by first | exact (r_move (v := .slice _ _ _) rfl) | exact (r_move rfl)) rfl (hg) ?_
                    refine s_vg (by first | exact (r_move (v := iV _) rfl) | exact (r_move rfl)) rfl (hg) ?_
                    refine s_vg (r_indexAddr_l (k := j + 1) Try.underlying22 I44 rfl rfl hil) rfl (hg) ?_
                    refine s_vg (r_fieldAddrP (off := 1) (T := 9) (by kernel_rfl) rfl) rfl (hg) ?_
                    refine s_vg (r_load Try.underlying9 rfl (hX 1 _ rfl)) rfl (hg) ?_
                    refine s_vg (r_len_s Try.underlying9 rfl) rfl (hg) ?_
                    refine s_vg (r_gtri rfl rfl) rfl (hg) ?_
                    refine s_vg (r_pick_t rfl hg rfl) rfl (hq) ?_
                    refine s_v (r_pick_f rfl hq rfl) ?_
                    refine s_nil (nrm_then ?_)
                    refine And.intro (by refine ⟨?_, ?_, ?_, trivial⟩ <;> ((conv => lhs; whnf); (try conv => rhs; whnf))) ?_
                    refine ⟨congrArg bV ?_, hs⟩
                    rw [hfs, hq, hg, Bool.false_or, Bool.true_and]
                    exact val_len x.val
                  · skip
                    refine c_still (by kernel_rfl) (by kernel_rfl) ?_
                    have hs := hs.drew
                    refine s_v (by first | exact (r_move (v := iV _) rfl) | exact (r_move rfl)) ?_
                    refine s_v (r_gtri rfl rfl) ?_
                    refine s_v (by first | exact (r_move (v := bV _) rfl) | exact (r_move rfl)) ?_
                    refine s_vg (by first | exact (r_move (v := .slice _ _ _) rfl) | exact (r_move rfl)) rfl (f30) ?_
                    refine s_vg (by first | exact (r_move (v := iV _) rfl) | exact (r_move rfl)) rfl (f30) ?_
                    refine s_vg (r_indexAddr_l (k := j + 1) Try.underlying22 I44 rfl rfl hil) rfl (f30) ?_
                    refine s_vg (r_fieldAddrP (off := 0) (T := 9) (by kernel_rfl) rfl) rfl (f30) ?_
                    refine s_vg (r_load Try.underlying9 rfl (hX 0 _ rfl)) rfl (f30) ?_
                    refine s_vg (by first | exact (r_move (v := .slice _ _ _) rfl) | exact (r_move rfl)) rfl (f30) ?_
                    refine s_vg (by first | exact (r_move (v := iV _) rfl) | exact (r_move rfl)) rfl (f30) ?_
                    refine s_vg (r_pred (j := j) rfl rfl (by omega)) rfl (f30) ?_
                    refine s_vg (r_indexAddr_l (k := j) Try.underlying22 I44 rfl rfl hjl) rfl (f30) ?_
                    refine s_vg (r_fieldAddrP (off := 0) (T := 9) (by kernel_rfl) rfl) rfl (f30) ?_
                    refine s_vg (r_load Try.underlying9 rfl (hY 0 _ rfl)) rfl (f30) ?_
                    refine s_vg (r_gtrs rfl rfl) rfl (f30) ?_
                    refine s_vg (r_not rfl) rfl (f30) ?_
                    refine s_v (r_pick_t rfl f30 rfl) ?_
                    refine s_v (by first | exact (r_move (v := bV _) rfl) | exact (r_move rfl)) ?_
                    refine s_vg (by first | exact (r_move (v := .slice _ _ _) rfl) | exact (r_move rfl)) rfl (hq) ?_
                    refine s_vg (by first | exact (r_move (v := iV _) rfl) | exact (r_move rfl)) rfl (hq) ?_
                    refine s_vg (r_indexAddr_l (k := j + 1) Try.underlying22 I44 rfl rfl hil) rfl (hq) ?_
                    refine s_vg (r_fieldAddrP (off := 2) (T := 4) (by kernel_rfl) rfl) rfl (hq) ?_
                    refine s_vg (r_load Try.underlying4 rfl (hX 2 _ rfl)) rfl (hq) ?_
                    refine s_vg (by first | exact (r_move (v := bV _) rfl) | exact (r_move rfl)) rfl (hq) ?_
                    refine s_skip (dj := 52) (b := true) (.inl (by first | rfl | (rw [show _ = _ from hg]; rfl) | exact congrArg Value.bool (hg))) ?_
                    refine s_skip (dj := 52) (b := true) (.inl (by first | rfl | (rw [show _ = _ from hg]; rfl) | exact congrArg Value.bool (hg))) ?_
                    refine s_skip (dj := 52) (b := true) (.inl (by first | rfl | (rw [show _ = _ from hg]; rfl) | exact congrArg Value.bool (hg))) ?_
                    refine s_skip (dj := 52) (b := true) (.inl (by first | rfl | (rw [show _ = _ from hg]; rfl) | exact congrArg Value.bool (hg))) ?_
                    refine s_skip (dj := 52) (b := true) (.inl (by first | rfl | (rw [show _ = _ from hg]; rfl) | exact congrArg Value.bool (hg))) ?_
                    refine s_skip (dj := 52) (b := true) (.inl (by first | rfl | (rw [show _ = _ from hg]; rfl) | exact congrArg Value.bool (hg))) ?_
                    refine s_skip (dj := 52) (b := true) (.inl (by first | rfl | (rw [show _ = _ from hg]; rfl) | exact congrArg Value.bool (hg))) ?_
                    refine s_vg (r_pick_f rfl hg rfl) rfl (hq) ?_
                    refine s_v (r_pick_f rfl hq rfl) ?_
                    refine s_nil (nrm_then ?_)
                    refine And.intro (by refine ⟨?_, ?_, ?_, trivial⟩ <;> ((conv => lhs; whnf); (try conv => rhs; whnf))) ?_
                    refine ⟨congrArg bV ?_, hs⟩
                    rw [hfs, hq, hg, Bool.false_or, Bool.false_and]
            · rintro g w_ ⟨h61, hs⟩
              show OkC _ _ _ _ _ _
              refine OkC.env ?_ (fixH (L := [(61, _)]) ⟨h61, trivial⟩)
              clear h61
              rcases Bool.eq_false_or_eq_true (fit (prevK xs i) x.key || (x.gone && decide (x.val ≠ []))) with hq | hq
              · rw [if_pos hq] at hch
                refine c_true rfl (hq) ?_
                refine c_rseq ?_
                refine l_v (by first | exact (r_assign (v := iV _) rfl) | exact (r_assign rfl)) ?_
                refine l_nil (nrm_then ?_)
                refine c_ret (ret_block (ret_then (ret_then (ret_block (ret_then ?_)))))
                show Fin _ _ _ _ _
                refine fin1 rfl ?_
                rw [hch]
                exact ⟨rfl, hs.below⟩
              · rw [if_neg (by rw [hq]; decide)] at hch
                refine c_false rfl (hq) ?_
                refine c_skip (nrm_block (nrm_then ?_))
                refine c_region ?_
                refine l_v (by first | exact (r_move (v := iV _) rfl) | exact (r_move rfl)) ?_
                refine l_v (r_addi rfl rfl (by omega)) ?_
                refine l_v (by first | exact (r_assign (v := iV _) rfl) | exact (r_assign rfl)) ?_
                refine l_nil (nrm_then ?_)
                refine And.intro (by refine ⟨?_, trivial⟩ <;> ((conv => lhs; whnf); (try conv => rhs; whnf))) ?_
                exact ⟨xs.length - (i + 1), by omega, i + 1, by omega, rfl, hch, hs⟩
      · obtain rfl : i = xs.length := by have h := of_decide_eq_false h2; omega
        rw [List.drop_length, chk] at hch
        replace h2 := of_decide_eq_false h2
        refine c_exit (ex_then (ex_then (ex_hit (nrm_then ?_))))
        refine c_rseq ?_
        refine l_v (by first | exact (r_assign (v := iV _) rfl) | exact (r_assign rfl)) ?_
        refine l_nil (nrm_then ?_)
        refine c_ret ?_
        show Fin _ _ _ _ _
        refine fin1 rfl ?_
        rw [hch]
        exact ⟨rfl, hs.below⟩
end Go.Proofs.Ytfjnjnkmkbbjoaa.Blk
