/- The walks of Hex, and the document's. -/
import Derived.Test.YtcnljmbjhdfblaaDoorShaWord
namespace Go.Proofs.YtcnljmbjhdfblaaDoor.Sha
open Go Go.RowKit Go.Proofs.YtcnljmbjhdfblaaDoor.Eng
set_option linter.unusedVariables false
set_option maxRecDepth 100000
def digs : List UInt8 := [48, 49, 50, 51, 52, 53, 54, 55, 56, 57, 97, 98, 99, 100, 101, 102]
def hexOf (k : List UInt8) : List UInt8 := k.flatMap fun c => [digs.getD (c / 16).toNat 0, digs.getD (c % 16).toNat 0]
/-- The first place of a digit, or 16. -/
def isDig (c : UInt8) (r : Nat) : Prop := r ≤ 16 ∧ (∀ i, i < r → digs.getD i 0 ≠ c) ∧ (r < 16 → digs.getD r 0 = c)
set_option maxHeartbeats 1000000 in
theorem digit_c (c : UInt8) (w : World) :
    Calls Tryd.prog 23 #[u8V c] w fun e w' => (∃ r, e = .returned (u8V (UInt8.ofNat r)) ∧ isDig c r) ∧ w' = w := by
  refine enter (P := Tryd.prog) Tryd.func23 rfl rfl ?_
  refine c_rseq ?_
  refine l_v (r_assign (v := u8V 0) rfl) ?_
  refine l_nil (nrm_then ?_)
  refine c_seq ?_
  refine c_rseq ?_
  refine l_v (by first | exact (r_assign (v := iV _) rfl) | exact (r_assign rfl)) ?_
  refine l_nil (nrm_then ?_)
  refine c_block ?_
  refine c_loopn [0] (fun m f' w' => w' = w ∧ ∃ k, k + m = 16 ∧ f' 3 = iV (k : Int) ∧ ∀ i, i < k → digs.getD i 0 ≠ c) ?_ ?_
  · exact ⟨16, rfl, 0, rfl, rfl, fun i hi => by omega⟩
  · rintro m g w_ ⟨rfl, k, hk, h3, hno⟩
    refine OkC.env ?_ (fixH (L := [(3, _)]) ⟨h3, trivial⟩)
    clear h3
    refine c_seq ?_
    refine c_rseq ?_
    refine l_v (by first | exact (r_move (v := iV _) rfl) | exact (r_move rfl)) ?_
    refine l_v (r_lssi rfl rfl) ?_
    refine l_nil (nrm_then ?_)
    refine c_cond rfl (fun h => ?_) (fun h => ?_)
    · replace h := of_decide_eq_true h
      refine c_skip (nrm_then ?_)
      refine c_seq ?_
      refine c_block ?_
      refine c_rseq ?_
      refine l_v (by first | exact (r_move (v := iV _) rfl) | exact (r_move rfl)) ?_
      refine l_v (r_index_s (s := ofL digs) (k := k) Tryd.underlying9 rfl rfl (by show k < 16; omega)) ?_
      refine l_v (by first | exact (r_move (v := u8V _) rfl) | exact (r_move rfl)) ?_
      refine l_v (r_eql8 rfl rfl) ?_
      refine l_nil (nrm_then ?_)
      refine c_cond rfl (fun h2 => ?_) (fun h2 => ?_)
      · replace h2 := of_decide_eq_true h2
        refine c_rseq ?_
        refine l_v (by first | exact (r_move (v := iV _) rfl) | exact (r_move rfl)) ?_
        refine l_v (r_cv_i8 Tryd.underlying3 Tryd.underlying5 rfl (by omega)) ?_
        refine l_v (by first | exact (r_assign (v := u8V _) rfl) | exact (r_assign rfl)) ?_
        refine l_nil (nrm_then ?_)
        refine c_ret (ret_block (ret_then (ret_then (ret_block (ret_then ?_)))))
        show Fin _ _ _ _ _
        refine fin1 rfl ?_
        exact ⟨⟨k, rfl, by omega, hno, fun _ => h2⟩, rfl⟩
      · replace h2 := of_decide_eq_false h2
        refine c_skip (nrm_block (nrm_then ?_))
        refine c_region ?_
        refine l_v (by first | exact (r_move (v := iV _) rfl) | exact (r_move rfl)) ?_
        refine l_v (r_addi rfl rfl (by omega)) ?_
        refine l_v (by first | exact (r_assign (v := iV _) rfl) | exact (r_assign rfl)) ?_
        refine l_nil (nrm_then ?_)
        refine And.intro (by refine ⟨?_, trivial⟩ <;> ((conv => lhs; whnf); (try conv => rhs; whnf))) ?_
        refine ⟨15 - k, by omega, rfl, k + 1, by omega, rfl, fun i hi => ?_⟩
        by_cases hik : i < k
        · exact hno i hik
        · obtain rfl : i = k := by omega
          exact h2
    · replace h := of_decide_eq_false h
      refine c_exit (ex_then (ex_then (ex_hit (nrm_then ?_))))
      refine c_rseq ?_
      refine l_v (r_assign (v := u8V 16) rfl) ?_
      refine l_nil (nrm_then ?_)
      refine c_ret ?_
      show Fin _ _ _ _ _
      refine fin1 rfl ?_
      obtain rfl : k = 16 := by omega
      exact ⟨⟨16, rfl, by omega, hno, fun h => by omega⟩, rfl⟩
theorem hex_next (k : List UInt8) (i : Nat) (h : i < k.length) : hexOf (k.take (i + 1)) = hexOf (k.take i) ++ [digs.getD (k.getD i 0 / 16).toNat 0, digs.getD (k.getD i 0 % 16).toNat 0] := by
  unfold hexOf
  rw [List.take_succ_eq_append_getElem h, List.flatMap_append, show k.getD i 0 = k[i] by rw [List.getD_eq_getElem?_getD, List.getElem?_eq_getElem h]; rfl]
  simp only [List.flatMap_cons, List.flatMap_nil, List.append_nil]
theorem hex_len (k : List UInt8) : (hexOf k).length = 2 * k.length := by
  unfold hexOf
  induction k with
  | nil => rfl
  | cons c k ih => rw [List.flatMap_cons, List.length_append, ih]; simp only [List.length_cons, List.length_nil]; omega
theorem hi4 (c : UInt8) : c >>> UInt8.ofNat 4 = c / 16 ∧ (c / 16).toNat < 16 := by
  have h := c.toNat_lt
  refine ⟨UInt8.toNat_inj.1 ?_, by rw [UInt8.toNat_div]; show c.toNat / 16 < 16; omega⟩
  rw [UInt8.toNat_shiftRight, UInt8.toNat_div, Nat.shiftRight_eq_div_pow]; rfl
theorem lo4 (c : UInt8) : c &&& 15 = c % 16 ∧ (c % 16).toNat < 16 := by
  refine ⟨UInt8.toNat_inj.1 ?_, by rw [UInt8.toNat_mod]; show c.toNat % 16 < 16; omega⟩
  rw [UInt8.toNat_and, UInt8.toNat_mod]
  exact Nat.and_two_pow_sub_one_eq_mod c.toNat 4
set_option maxHeartbeats 2000000 in
theorem hex_c (k : List UInt8) (hk : k.length = 32) (w : World) :
    Calls Tryd.prog 16 #[kV k] w fun e w' => e = .returned (sV (ofL (hexOf k))) ∧ Below w.heap.size w w' := by
  have hk32 : (k.map u8V).length = 32 := (List.length_map u8V).trans hk
  refine enter (P := Tryd.prog) Tryd.func16 rfl rfl ?_
  have hs := Sep.init w
  refine c_rseq ?_
  refine l_box hs rfl ?_
  intro b1 w1 hs hB1 hlt1
  refine l_v (by first | exact (r_assign (v := sV _) rfl) | exact (r_assign rfl)) ?_
  refine l_nil (nrm_then ?_)
  refine c_rseq ?_
  refine l_make (l := 0) (c := 64) hs Tryd.underlying50 I5 rfl rfl (by omega) (by omega) (by omega) ?_
  intro b6 w6 hs hB6 hlt6
  refine l_v (by first | exact (r_assign (v := .slice _ _ _) rfl) | exact (r_assign rfl)) ?_
  refine l_nil (nrm_then ?_)
  refine c_seq ?_
  refine c_rseq ?_
  have hs : Sep w w6 [own8 (.slice (some ⟨b6, 0, none⟩) 0 64) [], blk b1 (k.map u8V) 25] := hs.rowOf 1 0 64 (by omega) (by decide) (by simp [madeCells])
  refine l_v (by first | exact (r_load_whole (i := 0) hs rfl Tryd.underlying25 I25 rfl (by first | assumption | (simp; done))) | exact (r_load_whole (i := 1) hs rfl Tryd.underlying25 I25 rfl (by first | assumption | (simp; done))) | exact (r_load_whole (i := 2) hs rfl Tryd.underlying25 I25 rfl (by first | assumption | (simp; done))) | exact (r_load_whole (i := 3) hs rfl Tryd.underlying25 I25 rfl (by first | assumption | (simp; done))) | exact (r_load_whole (i := 4) hs rfl Tryd.underlying25 I25 rfl (by first | assumption | (simp; done))) | exact (r_load_whole (i := 5) hs rfl Tryd.underlying25 I25 rfl (by first | assumption | (simp; done))) | exact (r_load_whole (i := 6) hs rfl Tryd.underlying25 I25 rfl (by first | assumption | (simp; done)))) ?_
  refine l_v (by first | exact (r_move (v := iV _) rfl) | exact (r_move rfl)) ?_
  refine l_nil (nrm_then ?_)
  refine c_block ?_
  refine c_loopn [2, 7] (fun m f' w' => ∃ i v, i + m = 32 ∧ f' 8 = iV (i : Int) ∧ f' 3 = v ∧ Sep w w' [own8 v (hexOf (k.take i)), blk b1 (k.map u8V) 25]) ?_ ?_
  · exact ⟨32, 0, _, rfl, rfl, rfl, hs⟩
  · rintro m g w_ ⟨i, v, hi, h8, h3, hs⟩
    refine OkC.env ?_ (fixH (L := [(8, _), (3, _)]) ⟨h8, h3, trivial⟩)
    clear h8 h3
    refine c_rseq ?_
    refine l_v (r_lssi rfl rfl) ?_
    refine l_nil (nrm_then ?_)
    refine c_seq ?_
    refine c_cond rfl (fun h => ?_) (fun h => ?_)
    · have hi32 : i < 32 := by have := of_decide_eq_true h; omega
      have hv := r_getD k i (by omega)
      have hn := hex_next k i (by omega)
      have hl := hex_len (k.take i)
      have hkl : (k.take i).length ≤ 32 := by rw [List.length_take]; omega
      generalize hexOf (k.take i) = H at *
      generalize k.getD i 0 = c at *
      have h4 := hi4 c
      have l4 := lo4 c
      replace h := of_decide_eq_true h
      refine c_skip (nrm_then ?_)
      refine c_seq ?_
      refine c_block ?_
      refine c_rseq ?_
      refine l_v (r_index_a Tryd.underlying25 I5 Tryd.underlying5 rfl rfl hi32 hv) ?_
      refine l_v (by first | exact (r_assign (v := u8V _) rfl) | exact (r_assign rfl)) ?_
      refine l_nil (nrm_then ?_)
      refine c_float [7] 8 (by kernel_rfl) (by kernel_rfl) ?_
      intro hbF
      show OkF _ _ _ _ _ _ (_ :: _) 0 _ _
      refine f_v (fun wl hbl => by have hs := hs.below_ hbl; first | exact (r_move (v := .slice _ _ _) rfl) | exact (r_move rfl)) ?_
      refine f_v (fun wl hbl => by have hs := hs.below_ hbl; first | exact (r_move (v := u8V _) rfl) | exact (r_move rfl)) ?_
      refine f_v (fun wl hbl => by have hs := hs.below_ hbl; exact (r_shr8 (b := 4) rfl rfl (by omega))) ?_
      refine f_v (fun wl hbl => by have hs := hs.below_ hbl; exact (r_index_s8 (s := ofL digs) Tryd.underlying9 rfl rfl (by rw [h4.1]; exact h4.2))) ?_
      refine f_v (fun wl hbl => by have hs := hs.below_ hbl; first | exact (r_move (v := u8V _) rfl) | exact (r_move rfl)) ?_
      refine f_v (fun wl hbl => by have hs := hs.below_ hbl; exact (r_and8 (b := 15) rfl rfl)) ?_
      refine f_v (fun wl hbl => by have hs := hs.below_ hbl; exact (r_index_s8 (s := ofL digs) Tryd.underlying9 rfl rfl (by rw [l4.1]; exact l4.2))) ?_
      refine f_lit1 [u8V _, u8V _] (hs.below_ hbF) Tryd.underlying50 I5 rfl (by simp [Value.oneCell']) rfl (by decide) (by decide) ?_
      intro b18 w18 hsN hB18 hlt18
      have hbF := hbF.trans (Below.mono hB18 hbF.size)
      refine f_nil ?_
      have hs := hsN
      show OkL _ _ _ _ (_ :: _) _ _
      refine l_append_lit Tryd.underlying50 I5 rfl (by decide) rfl rfl hs rfl (by simp [Value.oneCell']) (by omega) (by omega) ?_
      intro v19 w19 hs
      refine l_v (by first | exact (r_assign (v := .slice _ _ _) rfl) | exact (r_assign rfl)) ?_
      refine l_nil (nrm_block (nrm_then ?_))
      refine c_region ?_
      refine l_v (r_addi rfl rfl (by omega)) ?_
      refine l_v (by first | exact (r_move (v := iV _) rfl) | exact (r_move rfl)) ?_
      refine l_nil (nrm_then ?_)
      refine And.intro (by refine ⟨?_, ?_, trivial⟩ <;> ((conv => lhs; whnf); (try conv => rhs; whnf))) ?_
      refine ⟨31 - i, by omega, i + 1, v19, by omega, rfl, rfl, ?_⟩
      rw [hn, ← h4.1, ← l4.1]
      unfold own8
      rw [List.length_append, List.map_append]
      exact hs
    · replace h := of_decide_eq_false h
      refine c_exit (ex_then (ex_then (ex_hit (nrm_then ?_))))
      refine c_rseq ?_
      refine l_v (by first | exact (r_move (v := .slice _ _ _) rfl) | exact (r_move rfl)) ?_
      obtain rfl : i = 32 := by omega
      rw [List.take_of_length_le (by omega)] at hs
      obtain ⟨A, c, rfl, hc⟩ := hs.rowForm
      refine l_v (r_cv_bs (l := hexOf k) Tryd.underlying50 Tryd.underlying5 Tryd.underlying9 rfl hs.rd) ?_
      refine l_v (by first | exact (r_assign (v := sV _) rfl) | exact (r_assign rfl)) ?_
      refine l_nil (nrm_then ?_)
      refine c_ret ?_
      show Fin _ _ _ _ _
      refine fin1 rfl ?_
      exact ⟨rfl, hs.below⟩
end Go.Proofs.YtcnljmbjhdfblaaDoor.Sha
