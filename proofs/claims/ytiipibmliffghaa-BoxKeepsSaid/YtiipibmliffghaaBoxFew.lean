/- The walk of the law BoxSplits. -/
import Derived.Test.YtiipibmliffghaaBoxSplitR
import Derived.Test.YtiipibmliffghaaBoxRow
namespace Go.Proofs.Ytiipibmliffghaa.Box
open Go Go.RowKit Go.ChangeShapes Go.WideShapes Go.Proofs.Ytiipibmliffghaa.Eng Go.Proofs.Ytiipibmliffghaa.Six Go.Proofs.Ytiipibmliffghaa.CrcFn Go.Proofs.Ytiipibmliffghaa.Crc
set_option linter.unusedVariables false
set_option maxRecDepth 100000
def EB (ts : List It) (i : Nat) : Nat := ((ts.take i).map fun x => x.2.2).sum
theorem EB_app {ts : List It} {x : It} {i : Nat} (h : i ≤ ts.length) : EB (ts ++ [x]) i = EB ts i := by
  unfold EB; rw [List.take_append_of_le_length h]
theorem EB_last {ts : List It} {x : It} : EB (ts ++ [x]) (ts.length + 1) = EB ts ts.length + x.2.2 := by
  unfold EB
  rw [List.take_of_length_le (by simp), List.take_length, List.map_append, List.sum_append]
  simp
theorem EB_le (ts : List It) (i : Nat) : EB ts i ≤ EB ts ts.length := by
  unfold EB
  conv => rhs; rw [List.take_length, ← List.take_append_drop i ts, List.map_append, List.sum_append]
  omega
def goodB (ts : List It) (k : Nat) : Prop := (∀ i x, ts[i]? = some x → x.1.ok ∧ x.2.1 = EB ts i ∧ x.2.1 + x.2.2 = EB ts (i + 1)) ∧ k = EB ts ts.length
theorem goodB_nil : goodB [] 0 := ⟨fun i x h => by simp at h, rfl⟩
theorem goodB_next {ts : List It} {k n : Nat} {r : Rec} (h : goodB ts k) (hr : r.ok) : goodB (ts ++ [(r, k, n)]) (k + n) := by
  refine ⟨fun i x hx => ?_, by rw [List.length_append]; show _ = EB _ (ts.length + 1); rw [EB_last, ← h.2]⟩
  by_cases hi : i < ts.length
  · rw [List.getElem?_append_left hi] at hx
    obtain ⟨h1, h2, h3⟩ := h.1 i x hx
    exact ⟨h1, by rw [EB_app (by omega)]; exact h2, by rw [EB_app (by omega)]; exact h3⟩
  · have him : i = ts.length := by
      have := (List.getElem?_eq_some_iff.1 hx).1
      rw [List.length_append] at this
      simp only [List.length_cons, List.length_nil] at this
      omega
    subst him
    rw [List.getElem?_append_right (Nat.le_refl _), Nat.sub_self] at hx
    have e : (r, k, n) = x := by simpa using hx
    subst e
    exact ⟨hr, by rw [EB_app (Nat.le_refl _)]; exact h.2, by rw [EB_last, ← h.2]⟩
theorem bstep_spec {l : List UInt8} {r : Rec} {n : Nat} (h : bstep l = some (r, n)) : r.ok ∧ n ≤ l.length := by
  unfold bstep at h
  split at h
  · rename_i hc
    simp only [Option.some.injEq, Prod.mk.injEq] at h
    obtain ⟨rfl, rfl⟩ := h
    exact ⟨openR_ok _, hc.2.1⟩
  · cases h
theorem splitB_good : ∀ (m : Nat) (ts : List It) (k : Nat) (l : List UInt8), goodB ts k → goodB (splitB m ts k l).1 (splitB m ts k l).2
  | 0, ts, k, l, h => h
  | m + 1, ts, k, l, h => by
    rw [splitB]
    split
    · exact h
    · rename_i r n hb
      exact splitB_good m _ _ _ (goodB_next h (bstep_spec hb).1)
theorem splitB_le : ∀ (m : Nat) (ts : List It) (k : Nat) (l : List UInt8), (splitB m ts k l).2 ≤ k + l.length
  | 0, ts, k, l => Nat.le_add_right _ _
  | m + 1, ts, k, l => by
    rw [splitB]
    split
    · exact Nat.le_add_right _ _
    · rename_i r n hb
      have h1 := splitB_le m (ts ++ [(r, k, n)]) (k + n) (l.drop n)
      have h2 := (bstep_spec hb).2
      rw [List.length_drop] at h1
      omega
def SZ (rs : List Rec) (i : Nat) : Nat := ((rs.take i).map fun r => r.body.length + 80).sum
theorem take_nextR {rs : List Rec} {i : Nat} {r : Rec} (h : rs[i]? = some r) : rs.take (i + 1) = rs.take i ++ [r] := by rw [List.take_add_one, h]; rfl
theorem SZ_next {rs : List Rec} {i : Nat} {r : Rec} (h : rs[i]? = some r) : SZ rs (i + 1) = SZ rs i + (r.body.length + 80) := by
  unfold SZ; rw [take_nextR h, List.map_append, List.sum_append]; simp
theorem SZ_le (rs : List Rec) (i : Nat) : SZ rs i ≤ SZ rs rs.length := by
  unfold SZ
  conv => rhs; rw [List.take_length, ← List.take_append_drop i rs, List.map_append, List.sum_append]
  omega
theorem pack_len (r : Rec) (h : r.ok) : (packR r).1.length ≤ r.body.length + 120 := by
  have hb := body_len r h
  unfold packR
  split
  · exact Nat.zero_le _
  · split
    · exact Nat.zero_le _
    · have e : (put (bodyOf r)).length = (bodyOf r).length + 4 := by unfold put; rw [List.length_append]; rfl
      show (put (bodyOf r)).length ≤ _
      omega
theorem recs_open {H : Type} {enc : TypeId × Value → H} {W : World} {base : Nat} {spare : Nat → Bool} {held : Bool} {a : Option Addr} {len cap : Nat} {d : DataW H} {ps : List MemPlace}
    (h : DataW.Trod enc Try.prog W base spare held 41 (.slice a len cap) d ps) : ∃ l : List Rec, len = l.length ∧ Rd W 66 a l.length (l.flatMap recC) ∧ l.length ≤ cap ∧ ∀ r ∈ l, r.ok ∧ r.body.length ≤ 9223372036854775807 :=
  rows_open (gc := recC) (fun r : Rec => r.ok ∧ r.body.length ≤ 9223372036854775807) Try.underlying41 (by kernel_rfl) (fun r hr => recC_length hr.1) (fun fuel cs x hx => rec_cells hx) h
set_option maxHeartbeats 2000000 in
theorem few_c (A : Option Addr) (c : Nat) (rs : List Rec) (w : World) (hr : Rd w 66 A rs.length (rs.flatMap recC)) (hok : ∀ r ∈ rs, r.ok) :
    Calls Try.prog 16 #[.slice A rs.length c] w fun e w' => ∃ b, e = .returned (bV b) ∧ (b = true → rs.length ≤ 200 ∧ SZ rs rs.length ≤ 60000) ∧ Below w.heap.size w w' := by
  have hn := hr.2.1
  have hlen : ∀ r ∈ rs, (recC r).length = 66 := fun r h => recC_length (hok r h)
  refine enter (P := Try.prog) Try.func16 rfl rfl ?_
  have hs := Sep.init w
  refine c_rseq ?_
  refine l_v (by first | exact (r_assign (v := bV _) rfl) | exact (r_assign rfl)) ?_
  refine l_nil (nrm_then ?_)
  refine c_rseq ?_
  refine l_v (by first | exact (r_assign (v := iV _) rfl) | exact (r_assign rfl)) ?_
  refine l_nil (nrm_then ?_)
  refine c_seq ?_
  refine c_rseq ?_
  refine l_v (by first | exact (r_assign (v := iV _) rfl) | exact (r_assign rfl)) ?_
  refine l_nil (nrm_then ?_)
  refine c_block ?_
  refine c_loopn [0] (fun m f' w' => ∃ i, i + m = rs.length ∧ f' 4 = iV (i : Int) ∧ f' 3 = iV ((SZ rs i : Nat) : Int) ∧ w' = w ∧ i ≤ 200 ∧ SZ rs i ≤ 70000) ?_ ?_
  · exact ⟨rs.length, 0, by omega, rfl, rfl, rfl, by omega, by simp [SZ]⟩
  · rintro m g w_ ⟨i, hi, h4, h3, hw, hi2, hz⟩
    subst hw
    refine OkC.env ?_ (fixH (L := [(4, _), (3, _)]) ⟨h4, h3, trivial⟩)
    clear h4 h3
    refine c_seq ?_
    refine c_rseq ?_
    refine l_v (by first | exact (r_move (v := iV _) rfl) | exact (r_move rfl)) ?_
    refine l_v (by first | exact (r_move (v := .slice _ _ _) rfl) | exact (r_move rfl)) ?_
    refine l_v (r_len_l Try.underlying41 rfl) ?_
    refine l_v (r_lssi rfl rfl) ?_
    refine l_nil (nrm_then ?_)
    refine c_cond rfl (fun h1 => ?_) (fun h1 => ?_)
    · have hil : i < rs.length := by have := of_decide_eq_true h1; omega
      obtain ⟨r, hri⟩ : ∃ r, rs[i]? = some r := ⟨rs[i], List.getElem?_eq_getElem hil⟩
      have hrm : r ∈ rs := List.mem_of_getElem? hri
      obtain ⟨ad, rfl, _⟩ := hr.ad (by omega)
      have hit := rd_item hr hlen (by decide) hri
      have hbd := hit 65 _ (rec_body r (hok r hrm))
      have hzn := SZ_next hri
      replace h1 := of_decide_eq_true h1
      refine c_skip (nrm_then ?_)
      refine c_seq ?_
      refine c_block ?_
      refine c_seq ?_
      refine c_rseq ?_
      refine l_v (by first | exact (r_move (v := iV _) rfl) | exact (r_move rfl)) ?_
      refine l_v (r_geqi rfl rfl) ?_
      by_cases h2 : (i : Int) ≥ 200
      · have f2 : decide ((i : Int) ≥ 200) = true := decide_eq_true h2
        refine l_v (by first | exact (r_move (v := bV _) rfl) | exact (r_move rfl)) ?_
        refine l_no rfl (f2) ?_
        refine l_no rfl (f2) ?_
        refine l_no rfl (f2) ?_
        refine l_no rfl (f2) ?_
        refine l_no rfl (f2) ?_
        refine l_no rfl (f2) ?_
        refine l_no rfl (f2) ?_
        refine l_v (r_pick_t rfl f2 rfl) ?_
        refine l_v (by first | exact (r_move (v := bV _) rfl) | exact (r_move rfl)) ?_
        refine l_no rfl (rfl) ?_
        refine l_no rfl (rfl) ?_
        refine l_v (r_pick_t rfl rfl rfl) ?_
        refine l_nil (nrm_then ?_)
        refine c_true rfl (rfl) ?_
        refine c_rseq ?_
        refine l_v (by first | exact (r_assign (v := bV _) rfl) | exact (r_assign rfl)) ?_
        refine l_nil (nrm_then ?_)
        refine c_ret (ret_then (ret_block (ret_then (ret_then (ret_block (ret_then ?_))))))
        show Fin _ _ _ _ _
        refine fin1 rfl ?_
        exact ⟨false, rfl, (fun h => by cases h), hs.below⟩
      · have f2 : decide ((i : Int) ≥ 200) = false := decide_eq_false h2
        refine l_v (by first | exact (r_move (v := bV _) rfl) | exact (r_move rfl)) ?_
        refine l_vg (by first | exact (r_move (v := .slice _ _ _) rfl) | exact (r_move rfl)) rfl (f2) ?_
        refine l_vg (by first | exact (r_move (v := iV _) rfl) | exact (r_move rfl)) rfl (f2) ?_
        refine l_vg (r_indexAddr_l (k := i) Try.underlying41 I25 rfl rfl hil) rfl (f2) ?_
        refine l_vg (r_fieldAddrP (off := 65) (T := 9) (by kernel_rfl) rfl) rfl (f2) ?_
        refine l_vg (r_load Try.underlying9 rfl hbd) rfl (f2) ?_
        refine l_vg (r_len_s Try.underlying9 rfl) rfl (f2) ?_
        refine l_vg (r_gtri rfl rfl) rfl (f2) ?_
        refine l_v (r_pick_f rfl f2 rfl) ?_
        by_cases h5 : (((ofL r.body).size : Nat) : Int) > 30000
        · have f5 : decide ((((ofL r.body).size : Nat) : Int) > 30000) = true := decide_eq_true h5
          refine l_v (by first | exact (r_move (v := bV _) rfl) | exact (r_move rfl)) ?_
          refine l_no rfl (f5) ?_
          refine l_no rfl (f5) ?_
          refine l_v (r_pick_t rfl f5 rfl) ?_
          refine l_nil (nrm_then ?_)
          refine c_true rfl (rfl) ?_
          refine c_rseq ?_
          refine l_v (by first | exact (r_assign (v := bV _) rfl) | exact (r_assign rfl)) ?_
          refine l_nil (nrm_then ?_)
          refine c_ret (ret_then (ret_block (ret_then (ret_then (ret_block (ret_then ?_))))))
          show Fin _ _ _ _ _
          refine fin1 rfl ?_
          exact ⟨false, rfl, (fun h => by cases h), hs.below⟩
        · have f5 : decide ((((ofL r.body).size : Nat) : Int) > 30000) = false := decide_eq_false h5
          have h5' : r.body.length ≤ 30000 := by have h : ¬ ((r.body.length : Nat) : Int) > 30000 := h5; omega
          refine l_v (by first | exact (r_move (v := bV _) rfl) | exact (r_move rfl)) ?_
          refine l_vg (by first | exact (r_move (v := iV _) rfl) | exact (r_move rfl)) rfl (f5) ?_
          refine l_vg (r_gtri rfl rfl) rfl (f5) ?_
          refine l_v (r_pick_f rfl f5 rfl) ?_
          refine l_nil (nrm_then ?_)
          refine c_cond rfl (fun h6 => ?_) (fun h6 => ?_)
          · replace h6 := of_decide_eq_true h6
            refine c_rseq ?_
            refine l_v (by first | exact (r_assign (v := bV _) rfl) | exact (r_assign rfl)) ?_
            refine l_nil (nrm_then ?_)
            refine c_ret (ret_then (ret_block (ret_then (ret_then (ret_block (ret_then ?_))))))
            show Fin _ _ _ _ _
            refine fin1 rfl ?_
            exact ⟨false, rfl, (fun h => by cases h), hs.below⟩
          · have h6' : SZ rs i ≤ 30000 := by have h : ¬ ((SZ rs i : Nat) : Int) > 30000 := of_decide_eq_false h6; omega
            have hxz : (ofL r.body).size = r.body.length := rfl
            replace h6 := of_decide_eq_false h6
            refine c_skip (nrm_then ?_)
            refine c_region ?_
            refine l_v (by first | exact (r_move (v := iV _) rfl) | exact (r_move rfl)) ?_
            refine l_v (by first | exact (r_move (v := .slice _ _ _) rfl) | exact (r_move rfl)) ?_
            refine l_v (by first | exact (r_move (v := iV _) rfl) | exact (r_move rfl)) ?_
            refine l_v (r_indexAddr_l (k := i) Try.underlying41 I25 rfl rfl hil) ?_
            refine l_v (r_fieldAddrP (off := 65) (T := 9) (by kernel_rfl) rfl) ?_
            refine l_v (r_load Try.underlying9 rfl hbd) ?_
            refine l_v (r_len_s Try.underlying9 rfl) ?_
            refine l_v (r_addi rfl rfl (by omega)) ?_
            refine l_v (r_addi rfl rfl (by omega)) ?_
            refine l_v (by first | exact (r_assign (v := iV _) rfl) | exact (r_assign rfl)) ?_
            refine l_nil (nrm_block (nrm_then ?_))
            refine c_region ?_
            refine l_v (by first | exact (r_move (v := iV _) rfl) | exact (r_move rfl)) ?_
            refine l_v (r_addi rfl rfl (by omega)) ?_
            refine l_v (by first | exact (r_assign (v := iV _) rfl) | exact (r_assign rfl)) ?_
            refine l_nil (nrm_then ?_)
            refine And.intro (by refine ⟨?_, trivial⟩ <;> ((conv => lhs; whnf); (try conv => rhs; whnf))) ?_
            exact ⟨rs.length - (i + 1), by omega, i + 1, by omega, rfl, congrArg iV (by rw [hzn, hxz]; omega), rfl, by have h : ¬ (i : Int) ≥ 200 := h2; omega, by omega⟩
    · obtain rfl : i = rs.length := by have := of_decide_eq_false h1; omega
      replace h1 := of_decide_eq_false h1
      refine c_exit (ex_then (ex_then (ex_hit (nrm_then ?_))))
      refine c_rseq ?_
      refine l_v (by first | exact (r_move (v := iV _) rfl) | exact (r_move rfl)) ?_
      refine l_v (r_leqi rfl rfl) ?_
      refine l_v (by first | exact (r_assign (v := bV _) rfl) | exact (r_assign rfl)) ?_
      refine l_nil (nrm_then ?_)
      refine c_ret ?_
      show Fin _ _ _ _ _
      refine fin1 rfl ?_
      exact ⟨_, rfl, fun h => ⟨hi2, by have h : ((SZ rs rs.length : Nat) : Int) ≤ 60000 := of_decide_eq_true h; omega⟩, hs.below⟩
end Go.Proofs.Ytiipibmliffghaa.Box
