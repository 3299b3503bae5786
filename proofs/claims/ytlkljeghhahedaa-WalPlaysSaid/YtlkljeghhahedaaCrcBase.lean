/- The base: plain facts and steps. -/
import Derived.Test.YtlkljeghhahedaaTab
import Derived.Test.YtlkljeghhahedaaStep
import Derived.Test.YtlkljeghhahedaaCrcFn
namespace Go.Proofs.Ytlkljeghhahedaa.Crc
open Go Go.RowKit Go.Proofs.Ytlkljeghhahedaa.Eng Go.Proofs.Ytlkljeghhahedaa.CrcFn
set_option linter.unusedVariables false
set_option maxRecDepth 100000
theorem toL_append (a b : ByteArray) : toL (a ++ b) = toL a ++ toL b := by simp
theorem at8_eq (s : ByteArray) (k : Nat) : at8 s k = (toL s).getD k 0 := rfl
theorem len_toL (s : ByteArray) : (toL s).length = s.size := by rw [Array.length_toList]; rfl
theorem toL_ofL (l : List UInt8) : toL (ofL l) = l := rfl
theorem ofL_toL (s : ByteArray) : ofL (toL s) = s := rfl
theorem toL_inj {s t : ByteArray} (h : toL s = toL t) : s = t := by rw [← ofL_toL s, h, ofL_toL]
theorem toL_extract (s : ByteArray) (a b : Nat) : toL (s.extract a b) = ((toL s).drop a).take (b - a) := Lib.extract_data s a b
theorem extract_take (s : ByteArray) (n : Nat) : s.extract 0 n = ofL ((toL s).take n) := toL_inj (by rw [toL_extract]; simp)
theorem mask (b : BitVec 32) : 0x82f63b78#32 &&& (-(b &&& 1#32)) = if b.getLsbD 0 then poly else 0#32 := by
  have h : b &&& 1#32 = if b.getLsbD 0 then 1#32 else 0#32 := by
    apply BitVec.eq_of_getLsbD_eq
    intro i hi
    rw [BitVec.getLsbD_and, BitVec.getLsbD_one]
    by_cases h0 : i = 0
    · subst h0; cases hb : b.getLsbD 0 <;> simp
    · cases hb : b.getLsbD 0 <;> simp [h0]
  rw [h]
  cases b.getLsbD 0
  · simp
  · simp only [if_true]; decide
theorem step_eq (b : BitVec 32) : b >>> 1 ^^^ (2197175160 &&& -(b &&& 1)) = crcStep b := by
  have := mask b
  unfold crcStep
  rw [← this]
  rfl
set_option maxHeartbeats 1000000 in
theorem sum_c (ss : List ByteArray) (A : Option Addr) (c : Nat) (w : World) (hr : Rd w 1 A ss.length (ss.map sV)) (hz : ∀ s ∈ ss, s.size ≤ 9223372036854775807) :
    Calls Try.prog 54 #[.slice A ss.length c] w fun e w' => e = .returned (u32V (crc (ss.flatMap toL))) ∧ w' = w := by
  have hn := hr.2.1
  refine enter (P := Try.prog) Try.func54 rfl rfl ?_
  refine c_rseq ?_
  refine l_v (r_assign (v := u32V 0) rfl) ?_
  refine l_nil (nrm_then ?_)
  refine c_rseq ?_
  refine l_v (r_assign (v := u32V 4294967295) rfl) ?_
  refine l_nil (nrm_then ?_)
  refine c_seq ?_
  refine c_rseq ?_
  refine l_v (by first | exact (r_move (v := .slice _ _ _) rfl) | exact (r_move rfl)) ?_
  refine l_v (r_len_l Try.underlying22 rfl) ?_
  refine l_v (by first | exact (r_move (v := iV _) rfl) | exact (r_move rfl)) ?_
  refine l_nil (nrm_then ?_)
  refine c_block ?_
  refine c_loopn [2, 7, 8] (fun m f' w' => w' = w ∧ ∃ k, k + m = ss.length ∧ f' 9 = iV (k : Int) ∧ f' 3 = u32V (run (BitVec.allOnes 32) ((ss.take k).flatMap toL))) ?_ ?_
  · exact ⟨ss.length, rfl, 0, by omega, rfl, rfl⟩
  · rintro m g w_ ⟨rfl, k, hk, h9, h3⟩
    refine OkC.env ?_ (fixH (L := [(9, _), (3, _)]) ⟨h9, h3, trivial⟩)
    clear h9 h3
    refine c_rseq ?_
    refine l_v (r_lssi rfl rfl) ?_
    refine l_nil (nrm_then ?_)
    refine c_seq ?_
    refine c_cond rfl (fun h => ?_) (fun h => ?_)
    · replace h := of_decide_eq_true h
      refine c_skip (nrm_then ?_)
      refine c_seq ?_
      refine c_block ?_
      refine c_rseq ?_
      obtain ⟨ad, rfl, hc⟩ := hr.ad (by omega)
      have hkl : k < ss.length := by omega
      have hld := hc k (sV ss[k]) (by simp [hkl])
      have hzk := hz ss[k] (List.getElem_mem hkl)
      refine l_v (by first | exact (r_indexAddr_o1 Try.underlying22 I9 rfl rfl (by omega)) | exact (r_indexAddr_l1 Try.underlying22 I9 rfl rfl (by omega)) | exact (r_indexAddr_l Try.underlying22 I9 rfl rfl (by omega))) ?_
      refine l_v (r_load Try.underlying9 rfl hld) ?_
      refine l_v (by first | exact (r_assign (v := sV _) rfl) | exact (r_assign rfl)) ?_
      refine l_nil (nrm_then ?_)
      refine c_rseq ?_
      refine l_v (by first | exact (r_assign (v := iV _) rfl) | exact (r_assign rfl)) ?_
      refine l_nil (nrm_then ?_)
      refine c_block ?_
      refine c_loopn [2, 5, 7, 8, 9] (fun m f' w2 => w2 = w_ ∧ ∃ j, j + m = ss[k].size ∧ f' 6 = iV (j : Int) ∧ f' 3 = u32V (run (run (BitVec.allOnes 32) ((ss.take k).flatMap toL)) ((toL ss[k]).take j))) ?_ ?_
      · exact ⟨ss[k].size, rfl, 0, by omega, rfl, rfl⟩
      · rintro m g w_ ⟨rfl, j, hj, h6, h3'⟩
        refine OkC.env ?_ (fixH (L := [(6, _), (3, _)]) ⟨h6, h3', trivial⟩)
        clear h6 h3'
        refine c_seq ?_
        refine c_rseq ?_
        refine l_v (by first | exact (r_move (v := iV _) rfl) | exact (r_move rfl)) ?_
        refine l_v (by first | exact (r_move (v := sV _) rfl) | exact (r_move rfl)) ?_
        refine l_v (r_len_s Try.underlying9 rfl) ?_
        refine l_v (r_lssi rfl rfl) ?_
        refine l_nil (nrm_then ?_)
        refine c_cond rfl (fun h2 => ?_) (fun h2 => ?_)
        · replace h2 := of_decide_eq_true h2
          refine c_skip (nrm_then ?_)
          refine c_seq ?_
          refine c_block ?_
          refine c_rseq ?_
          refine l_v (by first | exact (r_move (v := u32V _) rfl) | exact (r_move rfl)) ?_
          refine l_v (by first | exact (r_move (v := sV _) rfl) | exact (r_move rfl)) ?_
          refine l_v (by first | exact (r_move (v := iV _) rfl) | exact (r_move rfl)) ?_
          refine l_v (by first | exact (r_index_s Try.underlying9 rfl rfl (by omega)) | exact (r_index_si Try.underlying9 rfl rfl (by omega))) ?_
          refine l_v (r_cv_832 Try.underlying5 Try.underlying101 rfl) ?_
          refine l_v (r_xor32 rfl rfl) ?_
          refine l_v (by first | exact (r_assign (v := u32V _) rfl) | exact (r_assign rfl)) ?_
          refine l_nil (nrm_then ?_)
          refine c_rseq ?_
          refine l_v (by first | exact (r_move (v := iV _) rfl) | exact (r_move rfl)) ?_
          refine l_nil (nrm_then ?_)
          refine c_block ?_
          refine c_loopn [2, 5, 6, 7, 8, 9] (fun m f' w2 => w2 = w_ ∧ ∃ i, i + m = 8 ∧ f' 25 = iV (i : Int) ∧ f' 3 = u32V (steps i (run (run (BitVec.allOnes 32) ((ss.take k).flatMap toL)) ((toL ss[k]).take j) ^^^ BitVec.ofNat 32 (at8 ss[k] j).toNat))) ?_ ?_
          · exact ⟨8, rfl, 0, by omega, rfl, rfl⟩
          · rintro m g w_ ⟨rfl, i, hi, h25, h3''⟩
            refine OkC.env ?_ (fixH (L := [(25, _), (3, _)]) ⟨h25, h3'', trivial⟩)
            clear h25 h3''
            refine c_rseq ?_
            refine l_v (r_lssi rfl rfl) ?_
            refine l_nil (nrm_then ?_)
            refine c_seq ?_
            refine c_cond rfl (fun h3b => ?_) (fun h3b => ?_)
            · replace h3b := of_decide_eq_true h3b
              refine c_skip (nrm_then ?_)
              refine c_seq ?_
              refine c_block ?_
              refine c_region ?_
              refine l_v (by first | exact (r_move (v := u32V _) rfl) | exact (r_move rfl)) ?_
              refine l_v (r_shr32 (b := 1) rfl rfl) ?_
              refine l_v (by first | exact (r_move (v := u32V _) rfl) | exact (r_move rfl)) ?_
              refine l_v (r_and32 (b := 1) rfl rfl) ?_
              refine l_v (r_neg32 rfl) ?_
              refine l_v (r_and32 (a := 2197175160) rfl rfl) ?_
              refine l_v (r_xor32 rfl rfl) ?_
              refine l_v (by first | exact (r_assign (v := u32V _) rfl) | exact (r_assign rfl)) ?_
              refine l_nil (nrm_block (nrm_then ?_))
              refine c_region ?_
              refine l_v (r_addi rfl rfl (by omega)) ?_
              refine l_v (by first | exact (r_move (v := iV _) rfl) | exact (r_move rfl)) ?_
              refine l_nil (nrm_then ?_)
              refine And.intro (by refine ⟨?_, ?_, ?_, ?_, ?_, ?_, trivial⟩ <;> ((conv => lhs; whnf); (try conv => rhs; whnf))) ?_
              exact ⟨7 - i, by omega, rfl, i + 1, by omega, rfl, by rw [steps_succ', ← step_eq]; rfl⟩
            · replace h3b := of_decide_eq_false h3b
              refine c_exit (ex_then (ex_then (ex_hit (nrm_block (nrm_then ?_)))))
              refine c_region ?_
              refine l_v (by first | exact (r_move (v := iV _) rfl) | exact (r_move rfl)) ?_
              refine l_v (r_addi rfl rfl (by omega)) ?_
              refine l_v (by first | exact (r_assign (v := iV _) rfl) | exact (r_assign rfl)) ?_
              refine l_nil (nrm_then ?_)
              obtain rfl : i = 8 := by omega
              refine And.intro (by refine ⟨?_, ?_, ?_, ?_, ?_, trivial⟩ <;> ((conv => lhs; whnf); (try conv => rhs; whnf))) ?_
              have hj' : j < (toL ss[k]).length := by rw [len_toL]; omega
              exact ⟨ss[k].size - (j + 1), by omega, rfl, j + 1, by omega, rfl, by
                rw [List.take_succ_eq_append_getElem hj', run_snoc]; unfold byteStep; rw [at8_eq, List.getD_eq_getElem?_getD, List.getElem?_eq_getElem hj']; rfl⟩
        · replace h2 := of_decide_eq_false h2
          refine c_exit (ex_then (ex_then (ex_hit (nrm_block (nrm_then ?_)))))
          refine c_region ?_
          refine l_v (r_addi rfl rfl (by omega)) ?_
          refine l_v (by first | exact (r_move (v := iV _) rfl) | exact (r_move rfl)) ?_
          refine l_nil (nrm_then ?_)
          obtain rfl : j = ss[k].size := by omega
          refine And.intro (by refine ⟨?_, ?_, ?_, trivial⟩ <;> ((conv => lhs; whnf); (try conv => rhs; whnf))) ?_
          exact ⟨ss.length - (k + 1), by omega, rfl, k + 1, by omega, rfl, show u32V _ = u32V _ from by
            rw [List.take_succ_eq_append_getElem hkl, List.flatMap_append, run_append, ← len_toL, List.take_length]; simp⟩
    · replace h := of_decide_eq_false h
      refine c_exit (ex_then (ex_then (ex_hit (nrm_then ?_))))
      refine c_rseq ?_
      refine l_v (by first | exact (r_move (v := u32V _) rfl) | exact (r_move rfl)) ?_
      refine l_v (r_not32 rfl) ?_
      refine l_v (by first | exact (r_assign (v := u32V _) rfl) | exact (r_assign rfl)) ?_
      refine l_nil (nrm_then ?_)
      obtain rfl : k = ss.length := by omega
      refine c_ret ?_
      show Fin _ _ _ _ _
      refine fin1 rfl ?_
      refine ⟨congrArg Ending.returned (?_ : u32V _ = u32V _), rfl⟩
      rw [List.take_length]
      rfl
theorem four_eq (x : BitVec 32) : [UInt8.ofNat (x >>> 24).toNat, UInt8.ofNat (x >>> 16).toNat, UInt8.ofNat (x >>> 8).toNat, UInt8.ofNat x.toNat] = four x := by
  unfold four fourN
  have h (n : Nat) : UInt8.ofNat n = UInt8.ofNat (n % 256) := UInt8.toNat_inj.1 (by simp [UInt8.toNat_ofNat'])
  simp only [BitVec.toNat_ushiftRight, Nat.shiftRight_eq_div_pow]
  rw [h (x.toNat / 2 ^ 16), h (x.toNat / 2 ^ 8), h x.toNat]
set_option maxHeartbeats 1000000 in
theorem put_c (s : ByteArray) (w : World) (hz : s.size ≤ 9223372036854775800) :
    Calls Try.prog 35 #[.string s] w fun e w' => e = .returned (sV (ofL (put (toL s)))) ∧ Below w.heap.size w w' := by
  refine enter (P := Try.prog) Try.func35 rfl rfl ?_
  have hs := Sep.init w
  refine c_rseq ?_
  refine l_v (by first | exact (r_assign (v := sV _) rfl) | exact (r_assign rfl)) ?_
  refine l_nil (nrm_then ?_)
  refine c_rseq ?_
  refine l_v (by first | exact (r_move (v := sV _) rfl) | exact (r_move rfl)) ?_
  refine l_lit1 [sV _] hs Try.underlying22 I9 rfl (by simp [Value.oneCell']) rfl (by decide) (by decide) ?_
  intro b5 w5 hs hB5 hlt5
  refine l_call (r_call Try.func54 rfl rfl) ?_
  refine Calls.mono (sum_c [s] _ _ _ (rd_blk (hs.at_ 0).1 rfl (by simp)) (by simp; omega)) ?_
  rintro e w_ ⟨rfl, rfl⟩
  refine ⟨_, rfl, ?_⟩
  refine l_v (by first | exact (r_assign (v := u32V _) rfl) | exact (r_assign rfl)) ?_
  refine l_nil (nrm_then ?_)
  refine c_rseq ?_
  refine l_v (by first | exact (r_move (v := sV _) rfl) | exact (r_move rfl)) ?_
  refine l_v (by first | exact (r_move (v := u32V _) rfl) | exact (r_move rfl)) ?_
  refine l_v (r_shr32 (b := 24) rfl rfl) ?_
  refine l_v (r_cv_328 Try.underlying101 Try.underlying5 rfl) ?_
  refine l_v (by first | exact (r_move (v := u32V _) rfl) | exact (r_move rfl)) ?_
  refine l_v (r_shr32 (b := 16) rfl rfl) ?_
  refine l_v (r_cv_328 Try.underlying101 Try.underlying5 rfl) ?_
  refine l_v (by first | exact (r_move (v := u32V _) rfl) | exact (r_move rfl)) ?_
  refine l_v (r_shr32 (b := 8) rfl rfl) ?_
  refine l_v (r_cv_328 Try.underlying101 Try.underlying5 rfl) ?_
  refine l_v (by first | exact (r_move (v := u32V _) rfl) | exact (r_move rfl)) ?_
  refine l_v (r_cv_328 Try.underlying101 Try.underlying5 rfl) ?_
  refine l_lit1 [u8V _, u8V _, u8V _, u8V _] hs Try.underlying34 I5 rfl (by simp [Value.oneCell']) rfl (by decide) (by decide) ?_
  intro b19 w19 hs hB19 hlt19
  refine l_v (r_cv_bs (l := [_, _, _, _]) Try.underlying34 Try.underlying5 Try.underlying9 rfl (rd_blk (hs.at_ 0).1 rfl (by simp))) ?_
  refine l_v (r_adds rfl rfl (by show s.size + 4 ≤ _; omega)) ?_
  refine l_v (by first | exact (r_assign (v := sV _) rfl) | exact (r_assign rfl)) ?_
  refine l_nil (nrm_then ?_)
  refine c_ret ?_
  show Fin _ _ _ _ _
  refine fin1 rfl ?_
  refine ⟨congrArg Ending.returned (congrArg Value.string ?_), hs.below⟩
  rw [four_eq]
  exact toL_inj (by simp [put])
/-- What Take answers. -/
def take (l : List UInt8) : List UInt8 × Int := if l.length < 4 then ([], 2) else if put (l.take (l.length - 4)) = l then (l.take (l.length - 4), 0) else ([], 4)
end Go.Proofs.Ytlkljeghhahedaa.Crc
