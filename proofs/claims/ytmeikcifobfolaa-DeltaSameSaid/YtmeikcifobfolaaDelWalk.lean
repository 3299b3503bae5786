/- The walks of next and Apply. -/
import Derived.Test.YtmeikcifobfolaaDelFn
import Derived.Test.YtmeikcifobfolaaSixRm
import Derived.Test.YtmeikcifobfolaaStructs
namespace Go.Proofs.Ytmeikcifobfolaa.Del
open Go Go.RowKit Go.Proofs.Ytmeikcifobfolaa.Eng Go.Proofs.Ytmeikcifobfolaa.Six
set_option linter.unusedVariables false
set_option maxRecDepth 100000
theorem count_bound (l : List UInt8) : (count l).1 ≤ 9223372036854775807 := by
  have := num_bound l 0 0
  unfold count
  split
  · split <;> (dsimp only; omega)
  · dsimp only; omega
theorem count_pos {l : List UInt8} (h : (count l).2.2 = 0) : 1 ≤ (count l).2.1 := by
  unfold count at *
  split
  · rename_i h0
    rw [if_pos h0] at h
    have := num_size l 0 0 h0
    split
    · rename_i hb; rw [if_pos hb] at h; cases h
    · exact this.1
  · rename_i h0; rw [if_neg h0] at h; exact absurd h h0
section
variable {P : Program} {ρ : Operand → Value} {w : World} {dst : Option Tmp} {ty : TypeId} {pos : String} {aft : Array Edge} {g : Option (Nat × Bool)}
theorem r_slice_plh {t e : TypeId} {x : Operand} {lo hi : Option Operand} {A : Option Addr} {n c by_ : Nat} {z : Value} (l h : Nat) (ht : P.underlying t = some (.slice e)) (hI : TI P e z 1 by_) (hx : ρ x = .slice A n c) (hl : lo.map ρ = some (iV (l : Int))) (hh : hi.map ρ = some (iV (h : Int))) (hb : l ≤ h ∧ h ≤ c) :
    Run P ρ ⟨dst, .slice t x lo hi none, ty, pos, aft, g⟩ w (.slice (if c = l then A else A.map (·.add l)) (h - l) (c - l)) w := by
  left
  have hel : P.underlying t = some (.slice (P.elem t)) := by unfold Program.elem; rw [ht]
  have he : P.elem t = e := by unfold Program.elem; rw [ht]
  have hr := run_slice_lh (P := P) w t A n c hel .i64 .i64 (l : Int) (h : Int) (by omega) (by omega) (by omega)
  rw [he, hI.size, Result.andThen_ok, Int.toNat_natCast, Int.toNat_natCast] at hr
  unfold sliced at hr
  rw [Nat.mul_one] at hr
  simp only [execOp, hx, hl, hh, Option.map_none, Sem.run_bind]
  rw [run_sliceAt_slice (P := P) w t _ _ _ _ hel]
  have hr' : (Instr.slice t (.slice A n c) (some (iV (l : Int))) (some (iV (h : Int))) none).run P w = .ok (.slice (if c = l then A else A.map (·.add l)) (h - l) (c - l)) w := hr
  rw [hr', Result.andThen_ok, Sem.run_pure]
end
theorem rd_sub {w : World} {A : Option Addr} {n c l h : Nat} {cs : List Value} (hr : Rd w 1 A n cs) (hlh : l ≤ h) (hn : h ≤ n) (hc : n ≤ c) : Rd w 1 (if c = l then A else A.map (·.add l)) (h - l) ((cs.drop l).take (h - l)) := by
  have h1 := hr.1
  have h2 := hr.2.1
  refine ⟨by rw [List.length_take, List.length_drop]; omega, by omega, fun h0 => ?_⟩
  obtain ⟨ad, rfl, hcell⟩ := hr.ad (by omega)
  rw [if_neg (by omega)]
  refine ⟨ad.add l, rfl, fun j u hj => ?_⟩
  rw [Addr.add_add]
  refine hcell _ _ ?_
  rw [List.getElem?_take] at hj
  split at hj
  · rwa [List.getElem?_drop] at hj
  · cases hj
theorem dnext_pos {bs l : List UInt8} {most : Int} (h : (dnext bs l most).2.2 = 0) : 1 ≤ (dnext bs l most).2.1 := by
  unfold dnext at *
  split
  · rename_i h0; rw [if_pos h0] at h; exact absurd h h0
  · rename_i h0
    have hp := count_pos (Decidable.of_not_not h0)
    rw [if_neg h0] at h
    split
    · rename_i h1; rw [if_pos h1] at h; cases h
    · rename_i h1
      rw [if_neg h1] at h
      split
      · dsimp only; omega
      · rename_i h2
        rw [if_neg h2] at h
        split
        · rename_i h3; rw [if_pos h3] at h; exact absurd h h3
        · rename_i h3
          rw [if_neg h3] at h
          split
          · rename_i h4; rw [if_pos h4] at h; cases h
          · dsimp only; omega
theorem dnext_size {bs l : List UInt8} {most : Int} : (dnext bs l most).2.1 ≤ l.length := by
  have h1 := count_size l
  have h2 := raw_size (l.drop (count l).2.1) ((count l).1 / 2)
  have h3 := count_size (l.drop (count l).2.1)
  rw [List.length_drop] at h2 h3
  unfold dnext
  split
  · exact Nat.zero_le _
  · split
    · exact Nat.zero_le _
    · split
      · dsimp only; omega
      · split
        · exact Nat.zero_le _
        · split
          · exact Nat.zero_le _
          · dsimp only; omega
theorem dnext_len {bs l : List UInt8} {most : Int} (h : (dnext bs l most).2.2 = 0) : ((dnext bs l most).1.length : Int) ≤ most := by
  have hraw : ∀ (m : List UInt8) (n : Int), 0 ≤ n → ((raw m n).1.length : Int) ≤ n := fun m n hn => by
    unfold raw
    split
    · exact hn
    · split
      · exact hn
      · dsimp only; rw [List.length_take]; omega
  unfold dnext at *
  split
  · rename_i h0; rw [if_pos h0] at h; exact absurd h h0
  · rename_i h0
    rw [if_neg h0] at h
    split
    · rename_i h1; rw [if_pos h1] at h; cases h
    · rename_i h1
      rw [if_neg h1] at h
      have hm : (count l).1 / 2 ≤ most := by omega
      have h00 : 0 ≤ (count l).1 / 2 := by omega
      split
      · exact Int.le_trans (hraw _ _ h00) hm
      · rename_i h2
        rw [if_neg h2] at h
        split
        · rename_i h3; rw [if_pos h3] at h; exact absurd h h3
        · rename_i h3
          rw [if_neg h3] at h
          split
          · rename_i h4; rw [if_pos h4] at h; cases h
          · dsimp only; rw [List.length_take]; omega
set_option maxHeartbeats 4000000 in
theorem dnext_c (A : Option Addr) (n c : Nat) (bs : List UInt8) (s : ByteArray) (hz : s.size ≤ 9223372036854775807) (most : Int) (b : Nat) (w0 w : World) (R : List HP) (hr : Rd w 1 A n (bs.map u8V)) (hcap : n ≤ c) (hs : Eng.Sep w0 w (rdr b s :: R)) (hw : w0.heap.size ≤ w.heap.size) (hr0 : Rd w0 1 A n (bs.map u8V)) :
    Calls Try.prog 14 #[at_ b, .slice A n c, iV most] w fun e w' => e = .returned (.tuple #[sV (ofL (dnext bs (toL s) most).1), iV (dnext bs (toL s) most).2.2]) ∧ ∃ s', ((dnext bs (toL s) most).2.2 = 0 → s' = cut s (dnext bs (toL s) most).2.1) ∧ Eng.Sep w0 w' (rdr b s' :: R) := by
  have hl := toL_size s
  have hbl : bs.length = n := by have := hr.1; simpa using this
  have hn := hr.2.1
  have hcn := count_nonneg (toL s)
  have hcb := count_bound (toL s)
  unfold dnext
  refine enter (P := Try.prog) Try.func14 rfl rfl ?_
  refine c_rseq ?_
  refine l_v (by first | exact (r_assign (v := sV _) rfl) | exact (r_assign rfl)) ?_
  refine l_v (by first | exact (r_assign (v := iV _) rfl) | exact (r_assign rfl)) ?_
  refine l_nil (nrm_then ?_)
  refine c_rseq ?_
  refine l_v (r_move (v := .pointer _) rfl) ?_
  refine l_call (r_call Try.func13 rfl rfl) ?_
  refine Calls.mono (count_c s hz b w0 _ R hs) ?_
  rintro e w_ ⟨rfl, hs⟩
  refine ⟨_, rfl, ?_⟩
  generalize count (toL s) = C at *
  refine l_v (r_move rfl) ?_
  refine l_v (r_extract rfl rfl) ?_
  refine l_v (r_extract rfl rfl) ?_
  refine l_v (by first | exact (r_assign (v := iV _) rfl) | exact (r_assign rfl)) ?_
  refine l_v (by first | exact (r_assign (v := iV _) rfl) | exact (r_assign rfl)) ?_
  refine l_nil (nrm_then ?_)
  refine c_seq ?_
  refine c_block ?_
  refine c_rseq ?_
  refine l_v (by first | exact (r_move (v := iV _) rfl) | exact (r_move rfl)) ?_
  refine l_v (r_neqi rfl rfl) ?_
  refine l_v (by first | exact (r_assign (v := bV _) rfl) | exact (r_assign rfl)) ?_
  refine l_nil (nrm_then ?_)
  refine c_cond rfl (fun h1 => ?_) (fun h1 => ?_)
  · replace h1 := of_decide_eq_true h1
    refine c_rseq ?_
    refine l_v (by first | exact (r_move (v := iV _) rfl) | exact (r_move rfl)) ?_
    refine l_v (by first | exact (r_assign (v := sV _) rfl) | exact (r_assign rfl)) ?_
    refine l_v (by first | exact (r_assign (v := iV _) rfl) | exact (r_assign rfl)) ?_
    refine l_nil (nrm_then ?_)
    refine c_ret (ret_block (ret_then ?_))
    show Fin _ _ _ _ _
    refine fin2 rfl ?_
    rw [if_pos h1]
    exact ⟨rfl, _, (fun h => absurd h h1), hs⟩
  · rw [if_neg (of_decide_eq_false h1)]
    replace h1 := of_decide_eq_false h1
    refine c_rseq ?_
    refine l_v (by first | exact (r_move (v := iV _) rfl) | exact (r_move rfl)) ?_
    refine l_v (r_lssi rfl rfl) ?_
    by_cases h2 : C.1 < 2
    · have f22 : decide (C.1 < 2) = true := decide_eq_true h2
      refine l_v (by first | exact (r_move (v := bV _) rfl) | exact (r_move rfl)) ?_
      refine l_no rfl (f22) ?_
      refine l_no rfl (f22) ?_
      refine l_no rfl (f22) ?_
      refine l_no rfl (f22) ?_
      refine l_v (r_pick_t rfl f22 rfl) ?_
      refine l_v (by first | exact (r_assign (v := bV _) rfl) | exact (r_assign rfl)) ?_
      refine l_nil (nrm_then ?_)
      refine c_true rfl (rfl) ?_
      refine c_rseq ?_
      refine l_v (by first | exact (r_assign (v := sV _) rfl) | exact (r_assign rfl)) ?_
      refine l_v (by first | exact (r_assign (v := iV _) rfl) | exact (r_assign rfl)) ?_
      refine l_nil (nrm_then ?_)
      refine c_ret (ret_block (ret_then ?_))
      show Fin _ _ _ _ _
      refine fin2 rfl ?_
      rw [if_pos (Or.inl h2)]
      exact ⟨rfl, _, (fun h => by cases h), hs⟩
    · have f22 : decide (C.1 < 2) = false := decide_eq_false h2
      refine l_v (by first | exact (r_move (v := bV _) rfl) | exact (r_move rfl)) ?_
      refine l_vg (by first | exact (r_move (v := iV _) rfl) | exact (r_move rfl)) rfl (f22) ?_
      refine l_vg (r_quoi rfl rfl (by omega) (by omega)) rfl (f22) ?_
      refine l_vg (by first | exact (r_move (v := iV _) rfl) | exact (r_move rfl)) rfl (f22) ?_
      refine l_vg (r_gtri rfl rfl) rfl (f22) ?_
      refine l_v (r_pick_f rfl f22 rfl) ?_
      refine l_v (by first | exact (r_assign (v := bV _) rfl) | exact (r_assign rfl)) ?_
      refine l_nil (nrm_then ?_)
      refine c_cond rfl (fun h3 => ?_) (fun h3 => ?_)
      · replace h3 := of_decide_eq_true h3
        refine c_rseq ?_
        refine l_v (by first | exact (r_assign (v := sV _) rfl) | exact (r_assign rfl)) ?_
        refine l_v (by first | exact (r_assign (v := iV _) rfl) | exact (r_assign rfl)) ?_
        refine l_nil (nrm_then ?_)
        refine c_ret (ret_block (ret_then ?_))
        show Fin _ _ _ _ _
        refine fin2 rfl ?_
        rw [if_pos (Or.inr h3)]
        exact ⟨rfl, _, (fun h => by cases h), hs⟩
      · have h3' : ¬ most < C.1 / 2 := of_decide_eq_false h3
        rw [if_neg (fun h => h.elim h2 h3')]
        replace h3 := of_decide_eq_false h3
        refine c_rseq ?_
        refine l_v (by first | exact (r_move (v := iV _) rfl) | exact (r_move rfl)) ?_
        refine l_v (r_remi rfl rfl (by omega) (by omega)) ?_
        refine l_v (r_eqli rfl rfl) ?_
        refine l_v (by first | exact (r_assign (v := bV _) rfl) | exact (r_assign rfl)) ?_
        refine l_nil (nrm_then ?_)
        refine c_cond rfl (fun h4 => ?_) (fun h4 => ?_)
        · replace h4 := of_decide_eq_true h4
          refine c_rseq ?_
          refine l_v (r_move (v := .pointer _) rfl) ?_
          refine l_v (by first | exact (r_move (v := iV _) rfl) | exact (r_move rfl)) ?_
          refine l_v (r_quoi rfl rfl (by omega) (by omega)) ?_
          refine l_call (r_call Try.func24 rfl rfl) ?_
          refine Calls.mono (raw_c (C.1 / 2) (cut s C.2.1) b w0 _ R hs) ?_
          rintro e w_ ⟨rfl, hs⟩
          refine ⟨_, rfl, ?_⟩
          rw [toL_cut] at *
          refine l_v (r_extract rfl rfl) ?_
          refine l_v (r_extract rfl rfl) ?_
          refine l_v (by first | exact (r_assign (v := sV _) rfl) | exact (r_assign rfl)) ?_
          refine l_v (by first | exact (r_assign (v := iV _) rfl) | exact (r_assign rfl)) ?_
          refine l_nil (nrm_then ?_)
          refine c_ret (ret_block (ret_then ?_))
          show Fin _ _ _ _ _
          refine fin2 rfl ?_
          rw [if_pos h4]
          exact ⟨rfl, _, (fun h => by unfold cut; rw [Eng.toL_ofL, List.drop_drop]), hs⟩
        · rw [if_neg (of_decide_eq_false h4)]
          replace h4 := of_decide_eq_false h4
          refine c_skip (nrm_block (nrm_then ?_))
          refine c_rseq ?_
          refine l_v (by first | exact (r_move (v := iV _) rfl) | exact (r_move rfl)) ?_
          refine l_v (r_quoi rfl rfl (by omega) (by omega)) ?_
          refine l_v (by first | exact (r_assign (v := iV _) rfl) | exact (r_assign rfl)) ?_
          refine l_nil (nrm_then ?_)
          refine c_rseq ?_
          refine l_v (r_move (v := .pointer _) rfl) ?_
          have hcn2 := count_nonneg ((toL s).drop C.2.1)
          have hcb2 := count_bound ((toL s).drop C.2.1)
          refine l_call (r_call Try.func13 rfl rfl) ?_
          refine Calls.mono (count_c (cut s C.2.1) (by have := cut_size s C.2.1; omega) b w0 _ R hs) ?_
          rintro e w_ ⟨rfl, hs⟩
          refine ⟨_, rfl, ?_⟩
          rw [toL_cut] at *
          generalize hD : count ((toL s).drop C.2.1) = D at *
          refine l_v (r_move rfl) ?_
          refine l_v (r_extract rfl rfl) ?_
          refine l_v (r_extract rfl rfl) ?_
          refine l_v (by first | exact (r_assign (v := iV _) rfl) | exact (r_assign rfl)) ?_
          refine l_v (by first | exact (r_assign (v := iV _) rfl) | exact (r_assign rfl)) ?_
          refine l_nil (nrm_then ?_)
          refine c_seq ?_
          refine c_block ?_
          refine c_rseq ?_
          refine l_v (by first | exact (r_move (v := iV _) rfl) | exact (r_move rfl)) ?_
          refine l_v (r_neqi rfl rfl) ?_
          refine l_v (by first | exact (r_assign (v := bV _) rfl) | exact (r_assign rfl)) ?_
          refine l_nil (nrm_then ?_)
          refine c_cond rfl (fun h5 => ?_) (fun h5 => ?_)
          · replace h5 := of_decide_eq_true h5
            refine c_rseq ?_
            refine l_v (by first | exact (r_move (v := iV _) rfl) | exact (r_move rfl)) ?_
            refine l_v (by first | exact (r_assign (v := sV _) rfl) | exact (r_assign rfl)) ?_
            refine l_v (by first | exact (r_assign (v := iV _) rfl) | exact (r_assign rfl)) ?_
            refine l_nil (nrm_then ?_)
            refine c_ret (ret_block (ret_then ?_))
            show Fin _ _ _ _ _
            refine fin2 rfl ?_
            rw [if_pos h5]
            exact ⟨rfl, _, (fun h => absurd h h5), hs⟩
          · rw [if_neg (of_decide_eq_false h5)]
            replace h5 := of_decide_eq_false h5
            refine c_rseq ?_
            refine l_v (by first | exact (r_move (v := iV _) rfl) | exact (r_move rfl)) ?_
            refine l_v (by first | exact (r_move (v := .slice _ _ _) rfl) | exact (r_move rfl)) ?_
            refine l_v (r_len_l Try.underlying22 rfl) ?_
            refine l_v (r_gtri rfl rfl) ?_
            by_cases h6 : D.1 > (n : Int)
            · have f54 : decide (D.1 > (n : Int)) = true := decide_eq_true h6
              refine l_v (by first | exact (r_move (v := bV _) rfl) | exact (r_move rfl)) ?_
              refine l_no rfl (f54) ?_
              refine l_no rfl (f54) ?_
              refine l_no rfl (f54) ?_
              refine l_no rfl (f54) ?_
              refine l_no rfl (f54) ?_
              refine l_no rfl (f54) ?_
              refine l_v (r_pick_t rfl f54 rfl) ?_
              refine l_v (by first | exact (r_assign (v := bV _) rfl) | exact (r_assign rfl)) ?_
              refine l_nil (nrm_then ?_)
              refine c_true rfl (rfl) ?_
              refine c_rseq ?_
              refine l_v (by first | exact (r_assign (v := sV _) rfl) | exact (r_assign rfl)) ?_
              refine l_v (by first | exact (r_assign (v := iV _) rfl) | exact (r_assign rfl)) ?_
              refine l_nil (nrm_then ?_)
              refine c_ret (ret_block (ret_then ?_))
              show Fin _ _ _ _ _
              refine fin2 rfl ?_
              rw [if_pos (Or.inl (by rw [hbl]; exact h6))]
              exact ⟨rfl, _, (fun h => by cases h), hs⟩
            · have f54 : decide (D.1 > (n : Int)) = false := decide_eq_false h6
              refine l_v (by first | exact (r_move (v := bV _) rfl) | exact (r_move rfl)) ?_
              refine l_vg (by first | exact (r_move (v := iV _) rfl) | exact (r_move rfl)) rfl (f54) ?_
              refine l_vg (by first | exact (r_move (v := .slice _ _ _) rfl) | exact (r_move rfl)) rfl (f54) ?_
              refine l_vg (r_len_l Try.underlying22 rfl) rfl (f54) ?_
              refine l_vg (by first | exact (r_move (v := iV _) rfl) | exact (r_move rfl)) rfl (f54) ?_
              refine l_vg (r_subi rfl rfl (by omega)) rfl (f54) ?_
              refine l_vg (r_gtri rfl rfl) rfl (f54) ?_
              refine l_v (r_pick_f rfl f54 rfl) ?_
              refine l_v (by first | exact (r_assign (v := bV _) rfl) | exact (r_assign rfl)) ?_
              refine l_nil (nrm_then ?_)
              refine c_cond rfl (fun h7 => ?_) (fun h7 => ?_)
              · replace h7 := of_decide_eq_true h7
                refine c_rseq ?_
                refine l_v (by first | exact (r_assign (v := sV _) rfl) | exact (r_assign rfl)) ?_
                refine l_v (by first | exact (r_assign (v := iV _) rfl) | exact (r_assign rfl)) ?_
                refine l_nil (nrm_then ?_)
                refine c_ret (ret_block (ret_then ?_))
                show Fin _ _ _ _ _
                refine fin2 rfl ?_
                rw [if_pos (Or.inr (by rw [hbl]; exact h7))]
                exact ⟨rfl, _, (fun h => by cases h), hs⟩
              · have h7' : ¬ (n : Int) - D.1 < C.1 / 2 := of_decide_eq_false h7
                rw [if_neg (by rw [hbl]; exact fun h => h.elim h6 h7')]
                obtain ⟨x, hx⟩ : ∃ x : Nat, D.1 = (x : Int) := ⟨D.1.toNat, by omega⟩
                obtain ⟨k, hk⟩ : ∃ k : Nat, C.1 / 2 = (k : Int) := ⟨(C.1 / 2).toNat, by omega⟩
                have hrw := (hr0.below hs.below)
                have hsub := rd_sub hrw (l := x) (h := x + k) (by omega) (by omega) hcap
                have em : ((bs.map u8V).drop x).take (x + k - x) = ((bs.drop x).take k).map u8V := by rw [← List.map_drop, ← List.map_take, Nat.add_sub_cancel_left]
                rw [em] at hsub
                replace h7 := of_decide_eq_false h7
                refine c_skip (nrm_block (nrm_then ?_))
                refine c_rseq ?_
                refine l_v (by first | exact (r_move (v := .slice _ _ _) rfl) | exact (r_move rfl)) ?_
                refine l_v (by first | exact (r_move (v := iV _) rfl) | exact (r_move rfl)) ?_
                refine l_v (by first | exact (r_move (v := iV _) rfl) | exact (r_move rfl)) ?_
                refine l_v (by first | exact (r_move (v := iV _) rfl) | exact (r_move rfl)) ?_
                refine l_v (r_addi rfl rfl (by omega)) ?_
                refine l_v (r_slice_plh x (x + k) Try.underlying22 I5 rfl (congrArg (fun z => some (iV z)) hx) (congrArg (fun z => some (iV z)) (by omega)) (by omega)) ?_
                refine l_v (r_cv_bs (l := (bs.drop x).take k) Try.underlying22 Try.underlying5 Try.underlying9 rfl hsub) ?_
                refine l_v (by first | exact (r_assign (v := sV _) rfl) | exact (r_assign rfl)) ?_
                refine l_v (by first | exact (r_assign (v := iV _) rfl) | exact (r_assign rfl)) ?_
                refine l_nil (nrm_then ?_)
                refine c_ret ?_
                show Fin _ _ _ _ _
                refine fin2 rfl ?_
                rw [hx, hk, Int.toNat_natCast, Int.toNat_natCast]
                exact ⟨rfl, _, (fun h => by unfold cut; rw [Eng.toL_ofL, List.drop_drop]), hs⟩
end Go.Proofs.Ytmeikcifobfolaa.Del
