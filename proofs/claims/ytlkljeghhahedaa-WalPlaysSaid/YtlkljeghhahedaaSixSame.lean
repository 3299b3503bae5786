/- Rows of texts, and the walk of the document's Same. -/
import Derived.Test.YtlkljeghhahedaaSixFn
import Derived.Test.YtlkljeghhahedaaMore
namespace Go.Proofs.Ytlkljeghhahedaa.Six
open Go Go.RowKit Go.Proofs.Ytlkljeghhahedaa.Eng
set_option linter.unusedVariables false
set_option maxRecDepth 100000
theorem rd_get {w w' : World} {ad : Addr} {n k : Nat} {cs : List Value} {u : Value} (hr : Rd w 1 (some ad) n cs) (hb : Below w.heap.size w w') (hu : cs[k]? = some u) : w'.cell? (ad.add k) = some u := by
  have hl : k < cs.length := (List.getElem?_eq_some_iff.1 hu).1
  obtain ⟨ad', he, hc⟩ := hr.ad (by have := hr.1; omega)
  cases he
  have h := hc k u hu
  exact (hb.cell (World.block_lt_of_cell? _ _ h)).trans h
abbrev rowS (v : Value) (ts : List (List UInt8)) : HP := RowC 9 1 v ts.length (ts.map fun t => sV (ofL t))
theorem rowS_app {w0 w : World} {v : Value} {ts : List (List UInt8)} {t : List UInt8} {L : List HP} (hs : Sep w0 w (RowC 9 1 v (ts.length + 1) ((ts.map fun t => sV (ofL t)) ++ [sV (ofL t)]) :: L)) : Sep w0 w (rowS v (ts ++ [t]) :: L) := by
  unfold rowS; rw [List.length_append, List.map_append]; exact hs
set_option maxHeartbeats 2000000 in
theorem same_c (A B : Option Addr) (c d : Nat) (l q : List ByteArray) (w : World) (hl : Rd w 1 A l.length (l.map sV)) (hm : Rd w 1 B q.length (q.map sV)) :
    Calls Try.prog 15 #[.slice A l.length c, .slice B q.length d] w fun e w' => e = .returned (bV (decide (l = q))) ∧ Below w.heap.size w w' := by
  have hn := hl.2.1
  refine enter (P := Try.prog) Try.func15 rfl rfl ?_
  have hs := Sep.init w
  refine c_rseq ?_
  refine l_v (by first | exact (r_assign (v := bV _) rfl) | exact (r_assign rfl)) ?_
  refine l_nil (nrm_then ?_)
  refine c_seq ?_
  refine c_rseq ?_
  refine l_v (by first | exact (r_move (v := .slice _ _ _) rfl) | exact (r_move rfl)) ?_
  refine l_v (r_len_l Try.underlying22 rfl) ?_
  refine l_v (by first | exact (r_move (v := .slice _ _ _) rfl) | exact (r_move rfl)) ?_
  refine l_v (r_len_l Try.underlying22 rfl) ?_
  refine l_v (r_neqi rfl rfl) ?_
  refine l_nil (nrm_then ?_)
  refine c_cond rfl (fun h => ?_) (fun h => ?_)
  · replace h := of_decide_eq_true h
    refine c_rseq ?_
    refine l_v (by first | exact (r_assign (v := bV _) rfl) | exact (r_assign rfl)) ?_
    refine l_nil (nrm_then ?_)
    refine c_ret (ret_then ?_)
    show Fin _ _ _ _ _
    refine fin1 rfl ?_
    refine ⟨congrArg Ending.returned (congrArg Value.bool (decide_eq_false ?_).symm), hs.below⟩
    intro e; subst e; exact h rfl
  · replace h := of_decide_eq_false h
    refine c_skip (nrm_then ?_)
    refine c_seq ?_
    refine c_rseq ?_
    refine l_v (by first | exact (r_assign (v := iV _) rfl) | exact (r_assign rfl)) ?_
    refine l_nil (nrm_then ?_)
    refine c_block ?_
    have hlm : l.length = q.length := by have := Classical.not_not.1 h; omega
    refine c_loopn [0, 1] (fun n f' w' => ∃ i, i + n = l.length ∧ f' 5 = iV (i : Int) ∧ l.take i = q.take i ∧ Sep w w' []) ?_ ?_
    · exact ⟨l.length, 0, by omega, rfl, rfl, hs⟩
    · rintro m g w_ ⟨i, hi, h5, he, hs⟩
      refine OkC.env ?_ (fixH (L := [(5, _)]) ⟨h5, trivial⟩)
      clear h5
      refine c_seq ?_
      refine c_rseq ?_
      refine l_v (by first | exact (r_move (v := iV _) rfl) | exact (r_move rfl)) ?_
      refine l_v (by first | exact (r_move (v := .slice _ _ _) rfl) | exact (r_move rfl)) ?_
      refine l_v (r_len_l Try.underlying22 rfl) ?_
      refine l_v (r_lssi rfl rfl) ?_
      refine l_nil (nrm_then ?_)
      refine c_cond rfl (fun h2 => ?_) (fun h2 => ?_)
      · have hil : i < l.length := by have := of_decide_eq_true h2; omega
        have him : i < q.length := by omega
        have hu : (l.map sV)[i]? = some (sV l[i]) := by simp [hil]
        have hv : (q.map sV)[i]? = some (sV q[i]) := by simp [him]
        obtain ⟨ad, rfl, _⟩ := hl.ad (by omega)
        obtain ⟨bd, rfl, _⟩ := hm.ad (by omega)
        replace h2 := of_decide_eq_true h2
        refine c_skip (nrm_then ?_)
        refine c_seq ?_
        refine c_block ?_
        refine c_seq ?_
        refine c_float [] 8 (by kernel_rfl) (by kernel_rfl) ?_
        intro hbF
        show OkF _ _ _ _ _ _ (_ :: _) 0 _ _
        refine f_v (fun wl hbl => by have hs := hs.below_ hbl; first | exact (r_move (v := .slice _ _ _) rfl) | exact (r_move rfl)) ?_
        refine f_v (fun wl hbl => by have hs := hs.below_ hbl; first | exact (r_move (v := iV _) rfl) | exact (r_move rfl)) ?_
        refine f_v (fun wl hbl => by have hs := hs.below_ hbl; first | exact (r_indexAddr_o1 Try.underlying22 I9 rfl rfl (by omega)) | exact (r_indexAddr_l1 Try.underlying22 I9 rfl rfl (by omega)) | exact (r_indexAddr_l Try.underlying22 I9 rfl rfl (by omega))) ?_
        refine f_v (fun wl hbl => by have hs := hs.below_ hbl; exact (r_load Try.underlying9 rfl (rd_get hl (hs.below) hu))) ?_
        refine f_v (fun wl hbl => by have hs := hs.below_ hbl; first | exact (r_move (v := .slice _ _ _) rfl) | exact (r_move rfl)) ?_
        refine f_v (fun wl hbl => by have hs := hs.below_ hbl; first | exact (r_move (v := iV _) rfl) | exact (r_move rfl)) ?_
        refine f_v (fun wl hbl => by have hs := hs.below_ hbl; first | exact (r_indexAddr_o1 Try.underlying22 I9 rfl rfl (by omega)) | exact (r_indexAddr_l1 Try.underlying22 I9 rfl rfl (by omega)) | exact (r_indexAddr_l Try.underlying22 I9 rfl rfl (by omega))) ?_
        refine f_v (fun wl hbl => by have hs := hs.below_ hbl; exact (r_load Try.underlying9 rfl (rd_get hm (hs.below) hv))) ?_
        refine f_nil ?_
        have hs := hs.below_ hbF
        show OkL _ _ _ _ (_ :: _) _ _
        refine l_v (r_neqs rfl rfl) ?_
        refine l_nil (nrm_then ?_)
        refine c_cond rfl (fun h3 => ?_) (fun h3 => ?_)
        · replace h3 := of_decide_eq_true h3
          refine c_rseq ?_
          refine l_v (by first | exact (r_assign (v := bV _) rfl) | exact (r_assign rfl)) ?_
          refine l_nil (nrm_then ?_)
          refine c_ret (ret_block (ret_then (ret_then (ret_block (ret_then ?_)))))
          show Fin _ _ _ _ _
          refine fin1 rfl ?_
          refine ⟨congrArg Ending.returned (congrArg Value.bool (decide_eq_false ?_).symm), hs.below⟩
          intro e; subst e; exact h3 rfl
        · replace h3 := of_decide_eq_false h3
          refine c_skip (nrm_block (nrm_then ?_))
          refine c_region ?_
          refine l_v (by first | exact (r_move (v := iV _) rfl) | exact (r_move rfl)) ?_
          refine l_v (r_addi rfl rfl (by omega)) ?_
          refine l_v (by first | exact (r_assign (v := iV _) rfl) | exact (r_assign rfl)) ?_
          refine l_nil (nrm_then ?_)
          refine And.intro (by refine ⟨?_, ?_, trivial⟩ <;> ((conv => lhs; whnf); (try conv => rhs; whnf))) ?_
          refine ⟨l.length - (i + 1), by omega, i + 1, by omega, rfl, ?_, hs⟩
          rw [List.take_succ_eq_append_getElem hil, List.take_succ_eq_append_getElem him, he, Classical.not_not.1 h3]
      · replace h2 := of_decide_eq_false h2
        refine c_exit (ex_then (ex_then (ex_hit (nrm_then ?_))))
        refine c_rseq ?_
        refine l_v (by first | exact (r_assign (v := bV _) rfl) | exact (r_assign rfl)) ?_
        refine l_nil (nrm_then ?_)
        obtain rfl : i = l.length := by omega
        rw [List.take_length, hlm, List.take_length] at he
        refine c_ret ?_
        show Fin _ _ _ _ _
        refine fin1 rfl ?_
        exact ⟨congrArg Ending.returned (congrArg Value.bool (decide_eq_true he).symm), hs.below⟩
theorem same_n (A B : Option Addr) (c d n k : Nat) (l q : List ByteArray) (hn : l.length = n) (hk : q.length = k) (w : World) (hl : Rd w 1 A n (l.map sV)) (hm : Rd w 1 B k (q.map sV)) :
    Calls Try.prog 15 #[.slice A n c, .slice B k d] w fun e w' => e = .returned (bV (decide (l = q))) ∧ Below w.heap.size w w' := by
  subst hn; subst hk
  exact same_c A B c d l q w hl hm
theorem rowS_rd {w0 w : World} {A : Option Addr} {c n : Nat} {ts : List (List UInt8)} {L : List HP} (hn : ts.length = n) (hs : Sep w0 w (rowS (.slice A n c) ts :: L)) : Rd w 1 A n ((ts.map ofL).map sV) := by
  subst hn
  have h := hs.rd
  rw [List.map_map]
  exact h
end Go.Proofs.Ytlkljeghhahedaa.Six
