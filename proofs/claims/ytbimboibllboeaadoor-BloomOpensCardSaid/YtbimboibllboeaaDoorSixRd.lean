/- The walks of six's reader, and of the document's. -/
import Derived.Test.YtbimboibllboeaaDoorMore
import Derived.Test.YtbimboibllboeaaDoorSixFn
namespace Go.Proofs.YtbimboibllboeaaDoor.Six
open Go Go.RowKit Go.Proofs.YtbimboibllboeaaDoor.Eng
set_option linter.unusedVariables false
set_option maxRecDepth 100000
/-- A reader before these bytes. -/
abbrev rdr (b : Nat) (s : ByteArray) : HP := blk b [sV s] 80
abbrev at_ (b : Nat) : Value := .pointer (some ⟨b, 0, none⟩)
def cut (s : ByteArray) (k : Nat) : ByteArray := ofL ((toL s).drop k)
theorem cut_zero (s : ByteArray) : cut s 0 = s := rfl
theorem cut_size (s : ByteArray) (k : Nat) : (cut s k).size ≤ s.size := by
  show ((toL s).drop k).length ≤ _
  rw [List.length_drop, toL_size]; omega
theorem toL_cut (s : ByteArray) (k : Nat) : toL (cut s k) = (toL s).drop k := rfl
theorem extract_cut (s : ByteArray) (k : Nat) : s.extract k s.size = cut s k := toL_inj (by
  rw [toL_extract, toL_cut, List.take_of_length_le (by rw [List.length_drop, toL_size]; exact Nat.le_refl _)])
def pre (s : ByteArray) (k : Nat) : ByteArray := ofL ((toL s).take k)
theorem extract_pre (s : ByteArray) (k : Nat) : s.extract 0 k = pre s k := toL_inj (by rw [toL_extract]; rfl)
theorem drop_at (s : ByteArray) (i : Nat) (h : i < s.size) : (toL s).drop i = at8 s i :: (toL s).drop (i + 1) := by
  have hl : i < (toL s).length := by rw [toL_size]; exact h
  rw [List.drop_eq_getElem_cons hl]
  congr 1
  show _ = (toL s).getD i 0
  rw [List.getD_eq_getElem?_getD, List.getElem?_eq_getElem hl]; rfl
theorem ofNat64 (x : Nat) (h : x < 18446744073709551616) : (BitVec.ofNat 64 x).toNat = x := by rw [BitVec.toNat_ofNat]; omega
theorem mul64 (x : Nat) : (BitVec.ofNat 64 x) <<< 6 = BitVec.ofNat 64 (64 * x) := by
  apply BitVec.eq_of_toNat_eq
  rw [BitVec.toNat_shiftLeft, BitVec.toNat_ofNat, BitVec.toNat_ofNat, Nat.shiftLeft_eq]; omega
theorem and63_8 (c : UInt8) : (c &&& 63).toNat = c.toNat % 64 := by
  rw [UInt8.toNat_and]; exact Nat.and_two_pow_sub_one_eq_mod c.toNat 6
theorem join6 (x : Nat) (c : UInt8) : (BitVec.ofNat 64 x) <<< 6 ||| BitVec.ofNat 64 (c &&& 63).toNat = BitVec.ofNat 64 (64 * x + c.toNat % 64) := by
  have h4 : (BitVec.ofNat 64 x) <<< 6 &&& BitVec.ofNat 64 (c &&& 63).toNat = 0#64 := by
    apply BitVec.eq_of_getLsbD_eq
    intro i hi
    rw [BitVec.getLsbD_and, BitVec.getLsbD_shiftLeft, BitVec.getLsbD_ofNat, BitVec.getLsbD_ofNat]
    by_cases h : i < 6
    · simp [h]
    · have : (c &&& 63).toNat.testBit i = false := by
        rw [and63_8]
        exact Nat.testBit_lt_two_pow (Nat.lt_of_lt_of_le (Nat.mod_lt _ (by omega)) (Nat.pow_le_pow_right (n := 2) (i := 6) (by omega) (by omega)))
      rw [this]; simp
  rw [← BitVec.add_eq_or_of_and_eq_zero _ _ h4, mul64, and63_8, ← BitVec.ofNat_add]
def bad (c : UInt8) (x i : Nat) : Bool := decide (192 ≤ c.toNat ∨ 144115188075855871 < x ∨ (i = 0 ∧ c.toNat = 0))
set_option maxHeartbeats 2000000 in
theorem number_c (s : ByteArray) (hz : s.size ≤ 9223372036854775807) (b : Nat) (w0 w : World) (R : List HP) (hs : Sep w0 w (rdr b s :: R)) :
    Calls Tryd.prog 41 #[at_ b] w fun e w' => e = .returned (.tuple #[iV ((num 0 0 (toL s)).n : Int), bV (num 0 0 (toL s)).below, iV ((num 0 0 (toL s)).size : Int), iV (num 0 0 (toL s)).e]) ∧ w' = w := by
  refine enter (P := Tryd.prog) Tryd.func41 rfl rfl ?_
  refine c_rseq ?_
  refine l_v (by first | exact (r_assign (v := iV _) rfl) | exact (r_assign rfl)) ?_
  refine l_v (by first | exact (r_assign (v := bV _) rfl) | exact (r_assign rfl)) ?_
  refine l_v (by first | exact (r_assign (v := iV _) rfl) | exact (r_assign rfl)) ?_
  refine l_v (by first | exact (r_assign (v := iV _) rfl) | exact (r_assign rfl)) ?_
  refine l_nil (nrm_then ?_)
  refine c_seq ?_
  refine c_rseq ?_
  refine l_v (r_move (v := .pointer _) rfl) ?_
  refine l_v (by first | exact (r_eqlp_some Tryd.underlying56 rfl rfl) | exact (r_eqlp_none Tryd.underlying56 rfl rfl)) ?_
  refine l_nil (nrm_then ?_)
  refine c_false rfl (rfl) ?_
  refine c_skip (nrm_then ?_)
  refine c_rseq ?_
  refine l_v (r_assign (v := u64V 0) rfl) ?_
  refine l_nil (nrm_then ?_)
  refine c_seq ?_
  refine c_rseq ?_
  refine l_v (by first | exact (r_assign (v := iV _) rfl) | exact (r_assign rfl)) ?_
  refine l_nil (nrm_then ?_)
  refine c_block ?_
  refine c_loopn [0] (fun m f' w' => w' = w ∧ ∃ i x, i + m = s.size ∧ f' 7 = iV (i : Int) ∧ f' 6 = u64V (BitVec.ofNat 64 x) ∧ x ≤ 9223372036854775807 ∧ num 0 0 (toL s) = num x i ((toL s).drop i)) ?_ ?_
  · exact ⟨s.size, rfl, 0, 0, by omega, rfl, rfl, by omega, rfl⟩
  · rintro m g w_ ⟨hw, i, x, hi, h7, h6, hx, hn⟩
    subst w_
    refine OkC.env ?_ (fixH (L := [(7, _), (6, _)]) ⟨h7, h6, trivial⟩)
    clear h7 h6
    refine c_seq ?_
    refine c_rseq ?_
    refine l_v (by first | exact (r_move (v := iV _) rfl) | exact (r_move rfl)) ?_
    refine l_v (r_move (v := .pointer _) rfl) ?_
    refine l_v (by first | exact (r_nilCheck_p rfl) | exact (r_nilCheck_f rfl)) ?_
    refine l_v (by first | exact (r_fieldAddr0 (off := 0) (T := 9) (by kernel_rfl) rfl) | exact (r_fieldAddr (off := 0) (T := 9) (by kernel_rfl) rfl)) ?_
    refine l_v (by first | exact (r_load_at (i := 0) hs rfl Tryd.underlying9 rfl rfl) | exact (r_load_at (i := 1) hs rfl Tryd.underlying9 rfl rfl) | exact (r_load_at (i := 2) hs rfl Tryd.underlying9 rfl rfl) | exact (r_load_at (i := 3) hs rfl Tryd.underlying9 rfl rfl) | exact (r_load_at (i := 4) hs rfl Tryd.underlying9 rfl rfl) | exact (r_load_at (i := 5) hs rfl Tryd.underlying9 rfl rfl) | exact (r_load_at (i := 6) hs rfl Tryd.underlying9 rfl rfl)) ?_
    refine l_v (r_len_s Tryd.underlying9 rfl) ?_
    refine l_v (r_lssi rfl rfl) ?_
    refine l_nil (nrm_then ?_)
    refine c_cond rfl (fun h => ?_) (fun h => ?_)
    · have hlt : i < s.size := by have := of_decide_eq_true h; omega
      have hd := drop_at s i hlt
      rw [hd] at hn
      have hxn := ofNat64 x (by omega)
      replace h := of_decide_eq_true h
      refine c_skip (nrm_then ?_)
      refine c_seq ?_
      refine c_block ?_
      refine c_rseq ?_
      refine l_v (r_move (v := .pointer _) rfl) ?_
      refine l_v (by first | exact (r_nilCheck_p rfl) | exact (r_nilCheck_f rfl)) ?_
      refine l_v (by first | exact (r_fieldAddr0 (off := 0) (T := 9) (by kernel_rfl) rfl) | exact (r_fieldAddr (off := 0) (T := 9) (by kernel_rfl) rfl)) ?_
      refine l_v (by first | exact (r_load_at (i := 0) hs rfl Tryd.underlying9 rfl rfl) | exact (r_load_at (i := 1) hs rfl Tryd.underlying9 rfl rfl) | exact (r_load_at (i := 2) hs rfl Tryd.underlying9 rfl rfl) | exact (r_load_at (i := 3) hs rfl Tryd.underlying9 rfl rfl) | exact (r_load_at (i := 4) hs rfl Tryd.underlying9 rfl rfl) | exact (r_load_at (i := 5) hs rfl Tryd.underlying9 rfl rfl) | exact (r_load_at (i := 6) hs rfl Tryd.underlying9 rfl rfl)) ?_
      refine l_v (by first | exact (r_move (v := iV _) rfl) | exact (r_move rfl)) ?_
      refine l_v (by first | exact (r_index_s Tryd.underlying9 rfl rfl (by omega)) | exact (r_index_si Tryd.underlying9 rfl rfl (by omega))) ?_
      refine l_v (by first | exact (r_assign (v := u8V _) rfl) | exact (r_assign rfl)) ?_
      refine l_nil (nrm_then ?_)
      refine c_seq ?_
      refine c_seq ?_
      generalize at8 s i = c at *
      have hc := c.toNat_lt
      refine c_mid [0, 2, 3, 4, 5, 6, 7, 8] ((fun f' w' => w' = w ∧ f' 39 = bV (bad c x i))) ?_ ?_
      · refine c_region ?_
        refine l_v (by first | exact (r_move (v := u8V _) rfl) | exact (r_move rfl)) ?_
        refine l_v (r_gtr8 (b := 191) rfl rfl) ?_
        unfold bad
        by_cases h1 : 192 ≤ c.toNat
        · have f1 : decide (c.toNat > (191 : UInt8).toNat) = true := decide_eq_true h1
          refine l_v (by first | exact (r_move (v := bV _) rfl) | exact (r_move rfl)) ?_
          refine l_no rfl (f1) ?_
          refine l_no rfl (f1) ?_
          refine l_v (r_pick_t rfl f1 rfl) ?_
          refine l_v (by first | exact (r_move (v := bV _) rfl) | exact (r_move rfl)) ?_
          refine l_no rfl (rfl) ?_
          refine l_no rfl (rfl) ?_
          refine l_no rfl (rfl) ?_
          refine l_skip (.inr rfl) ?_
          refine l_skip (.inr rfl) ?_
          refine l_no rfl (rfl) ?_
          refine l_v (r_pick_t rfl rfl rfl) ?_
          refine l_nil (nrm_then ?_)
          refine And.intro (by refine ⟨?_, ?_, ?_, ?_, ?_, ?_, ?_, ?_, trivial⟩ <;> ((conv => lhs; whnf); (try conv => rhs; whnf))) ?_
          exact ⟨rfl, congrArg Value.bool (decide_eq_true (.inl h1)).symm⟩
        · have f1 : decide (c.toNat > (191 : UInt8).toNat) = false := decide_eq_false h1
          by_cases h2 : 144115188075855871 < x
          · have f2 : decide ((BitVec.ofNat 64 x).toNat > (144115188075855871 : BitVec 64).toNat) = true := decide_eq_true (by rw [hxn]; exact h2)
            refine l_v (by first | exact (r_move (v := bV _) rfl) | exact (r_move rfl)) ?_
            refine l_vg (by first | exact (r_move (v := u64V _) rfl) | exact (r_move rfl)) rfl (f1) ?_
            refine l_vg (r_gtr64 (b := 144115188075855871) rfl rfl) rfl (f1) ?_
            refine l_v (r_pick_f rfl f1 rfl) ?_
            refine l_v (by first | exact (r_move (v := bV _) rfl) | exact (r_move rfl)) ?_
            refine l_no rfl (f2) ?_
            refine l_no rfl (f2) ?_
            refine l_no rfl (f2) ?_
            refine l_skip (.inr rfl) ?_
            refine l_skip (.inr rfl) ?_
            refine l_no rfl (f2) ?_
            refine l_v (r_pick_t rfl f2 rfl) ?_
            refine l_nil (nrm_then ?_)
            refine And.intro (by refine ⟨?_, ?_, ?_, ?_, ?_, ?_, ?_, ?_, trivial⟩ <;> ((conv => lhs; whnf); (try conv => rhs; whnf))) ?_
            exact ⟨rfl, congrArg Value.bool (decide_eq_true (.inr (.inl h2))).symm⟩
          · have f2 : decide ((BitVec.ofNat 64 x).toNat > (144115188075855871 : BitVec 64).toNat) = false := decide_eq_false (by rw [hxn]; exact h2)
            by_cases h3 : (i : Int) = 0
            · have f3 : decide ((i : Int) = 0) = true := decide_eq_true h3
              refine l_v (by first | exact (r_move (v := bV _) rfl) | exact (r_move rfl)) ?_
              refine l_vg (by first | exact (r_move (v := u64V _) rfl) | exact (r_move rfl)) rfl (f1) ?_
              refine l_vg (r_gtr64 (b := 144115188075855871) rfl rfl) rfl (f1) ?_
              refine l_v (r_pick_f rfl f1 rfl) ?_
              refine l_v (by first | exact (r_move (v := bV _) rfl) | exact (r_move rfl)) ?_
              refine l_vg (by first | exact (r_move (v := iV _) rfl) | exact (r_move rfl)) rfl (f2) ?_
              refine l_vg (r_eqli rfl rfl) rfl (f2) ?_
              refine l_vg (by first | exact (r_move (v := bV _) rfl) | exact (r_move rfl)) rfl (f2) ?_
              refine l_vg (by first | exact (r_move (v := u8V _) rfl) | exact (r_move rfl)) rfl (f3) ?_
              refine l_vg (r_eql8 (b := 0) rfl rfl) rfl (f3) ?_
              refine l_vg (r_pick_t rfl f3 rfl) rfl (f2) ?_
              refine l_v (r_pick_f rfl f2 rfl) ?_
              refine l_nil (nrm_then ?_)
              refine And.intro (by refine ⟨?_, ?_, ?_, ?_, ?_, ?_, ?_, ?_, trivial⟩ <;> ((conv => lhs; whnf); (try conv => rhs; whnf))) ?_
              refine ⟨rfl, congrArg Value.bool ?_⟩
              by_cases h4 : c.toNat = 0
              · exact (decide_eq_true (show c = 0 from UInt8.toNat_inj.1 h4)).trans (decide_eq_true (show 192 ≤ c.toNat ∨ 144115188075855871 < x ∨ (i = 0 ∧ c.toNat = 0) from Or.inr (Or.inr ⟨by omega, h4⟩))).symm
              · exact (decide_eq_false (show ¬ c = 0 from fun h => h4 (by rw [h]; rfl))).trans (decide_eq_false (show ¬ (192 ≤ c.toNat ∨ 144115188075855871 < x ∨ (i = 0 ∧ c.toNat = 0)) by omega)).symm
            · have f3 : decide ((i : Int) = 0) = false := decide_eq_false h3
              refine l_v (by first | exact (r_move (v := bV _) rfl) | exact (r_move rfl)) ?_
              refine l_vg (by first | exact (r_move (v := u64V _) rfl) | exact (r_move rfl)) rfl (f1) ?_
              refine l_vg (r_gtr64 (b := 144115188075855871) rfl rfl) rfl (f1) ?_
              refine l_v (r_pick_f rfl f1 rfl) ?_
              refine l_v (by first | exact (r_move (v := bV _) rfl) | exact (r_move rfl)) ?_
              refine l_vg (by first | exact (r_move (v := iV _) rfl) | exact (r_move rfl)) rfl (f2) ?_
              refine l_vg (r_eqli rfl rfl) rfl (f2) ?_
              refine l_vg (by first | exact (r_move (v := bV _) rfl) | exact (r_move rfl)) rfl (f2) ?_
              refine l_no rfl (f3) ?_
              refine l_no rfl (f3) ?_
              refine l_vg (r_pick_f rfl f3 rfl) rfl (f2) ?_
              refine l_v (r_pick_f rfl f2 rfl) ?_
              refine l_nil (nrm_then ?_)
              refine And.intro (by refine ⟨?_, ?_, ?_, ?_, ?_, ?_, ?_, ?_, trivial⟩ <;> ((conv => lhs; whnf); (try conv => rhs; whnf))) ?_
              exact ⟨rfl, congrArg Value.bool (decide_eq_false (by omega)).symm⟩
      · rintro g w_ ⟨hw, h39⟩
        show OkC _ _ _ _ _ _
        subst w_
        refine OkC.env ?_ (fixH (L := [(39, _)]) ⟨h39, trivial⟩)
        clear h39
        unfold bad at *
        refine c_cond rfl (fun h9 => ?_) (fun h9 => ?_)
        · replace h9 := of_decide_eq_true h9
          refine c_rseq ?_
          refine l_v (by first | exact (r_assign (v := iV _) rfl) | exact (r_assign rfl)) ?_
          refine l_v (by first | exact (r_assign (v := bV _) rfl) | exact (r_assign rfl)) ?_
          refine l_v (by first | exact (r_assign (v := iV _) rfl) | exact (r_assign rfl)) ?_
          refine l_v (by first | exact (r_assign (v := iV _) rfl) | exact (r_assign rfl)) ?_
          refine l_nil (nrm_then ?_)
          refine c_ret (ret_then (ret_block (ret_then (ret_then (ret_block (ret_then ?_))))))
          show Fin _ _ _ _ _
          refine fin4 rfl ?_
          rw [hn, num, if_pos h9]
          exact ⟨rfl, rfl⟩
        · replace h9 := of_decide_eq_false h9
          refine c_skip (nrm_then ?_)
          refine c_rseq ?_
          refine l_v (by first | exact (r_move (v := u64V _) rfl) | exact (r_move rfl)) ?_
          refine l_v (r_shl64 (b := 6) rfl rfl) ?_
          refine l_v (by first | exact (r_move (v := u8V _) rfl) | exact (r_move rfl)) ?_
          refine l_v (r_and8 (b := 63) rfl rfl) ?_
          refine l_v (r_cv_864 Tryd.underlying5 Tryd.underlying70 rfl) ?_
          refine l_v (r_or64 rfl rfl) ?_
          refine l_v (by first | exact (r_assign (v := u64V _) rfl) | exact (r_assign rfl)) ?_
          refine l_nil (nrm_then ?_)
          refine c_rseq ?_
          refine l_v (by first | exact (r_move (v := u8V _) rfl) | exact (r_move rfl)) ?_
          refine l_v (r_gtr8 (b := 63) rfl rfl) ?_
          refine l_nil (nrm_then ?_)
          rw [join6]
          refine c_cond rfl (fun h10 => ?_) (fun h10 => ?_)
          · have h10' : 64 ≤ c.toNat := of_decide_eq_true h10
            have hv := ofNat64 (64 * x + c.toNat % 64) (by omega)
            replace h10 := of_decide_eq_true h10
            refine c_rseq ?_
            refine l_v (by first | exact (r_move (v := u64V _) rfl) | exact (r_move rfl)) ?_
            refine l_v (r_cv_64i' Tryd.underlying70 Tryd.underlying3 rfl (by rw [hv]; omega)) ?_
            refine l_v (by first | exact (r_move (v := u8V _) rfl) | exact (r_move rfl)) ?_
            refine l_v (r_gtr8 (b := 127) rfl rfl) ?_
            refine l_v (by first | exact (r_move (v := iV _) rfl) | exact (r_move rfl)) ?_
            refine l_v (r_addi rfl rfl (by omega)) ?_
            refine l_v (by first | exact (r_assign (v := iV _) rfl) | exact (r_assign rfl)) ?_
            refine l_v (by first | exact (r_assign (v := bV _) rfl) | exact (r_assign rfl)) ?_
            refine l_v (by first | exact (r_assign (v := iV _) rfl) | exact (r_assign rfl)) ?_
            refine l_v (by first | exact (r_assign (v := iV _) rfl) | exact (r_assign rfl)) ?_
            refine l_nil (nrm_then ?_)
            refine c_ret (ret_block (ret_then (ret_then (ret_block (ret_then ?_)))))
            show Fin _ _ _ _ _
            refine fin4 rfl ?_
            rw [hn, num, if_neg h9, if_pos h10', hv]
            exact ⟨rfl, rfl⟩
          · replace h10 := of_decide_eq_false h10
            refine c_skip (nrm_block (nrm_then ?_))
            refine c_region ?_
            refine l_v (by first | exact (r_move (v := iV _) rfl) | exact (r_move rfl)) ?_
            refine l_v (r_addi rfl rfl (by omega)) ?_
            refine l_v (by first | exact (r_assign (v := iV _) rfl) | exact (r_assign rfl)) ?_
            refine l_nil (nrm_then ?_)
            refine And.intro (by refine ⟨?_, trivial⟩ <;> ((conv => lhs; whnf); (try conv => rhs; whnf))) ?_
            refine ⟨s.size - (i + 1), by omega, rfl, i + 1, 64 * x + c.toNat % 64, by omega, rfl, rfl, by omega, ?_⟩
            rw [hn, num, if_neg h9, if_neg (show ¬ 64 ≤ c.toNat from h10)]
    · replace h := of_decide_eq_false h
      refine c_exit (ex_then (ex_then (ex_hit (nrm_then ?_))))
      refine c_rseq ?_
      refine l_v (by first | exact (r_assign (v := iV _) rfl) | exact (r_assign rfl)) ?_
      refine l_v (by first | exact (r_assign (v := bV _) rfl) | exact (r_assign rfl)) ?_
      refine l_v (by first | exact (r_assign (v := iV _) rfl) | exact (r_assign rfl)) ?_
      refine l_v (by first | exact (r_assign (v := iV _) rfl) | exact (r_assign rfl)) ?_
      refine l_nil (nrm_then ?_)
      obtain rfl : i = s.size := by omega
      rw [List.drop_of_length_le (by rw [toL_size]; exact Nat.le_refl _)] at hn
      refine c_ret ?_
      show Fin _ _ _ _ _
      refine fin4 rfl ?_
      rw [hn]
      exact ⟨rfl, rfl⟩
end Go.Proofs.YtbimboibllboeaaDoor.Six
