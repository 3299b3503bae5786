/- The walks of the document's sum, of its Four, Put and Take. -/
import Derived.Test.YtlkljeghhahedaaCrcBase
import Derived.Test.YtlkljeghhahedaaRefFn
import Derived.Test.YtlkljeghhahedaaMore
namespace Go.Proofs.Ytlkljeghhahedaa.RefCrc
open Go Go.RowKit Go.Proofs.Ytlkljeghhahedaa.Eng Go.Proofs.Ytlkljeghhahedaa.CrcFn Go.Proofs.Ytlkljeghhahedaa.RefFn
set_option linter.unusedVariables false
set_option maxRecDepth 100000
theorem pow8 (k : Nat) (h : k < 8) : ((1 : UInt8) <<< UInt8.ofNat k).toNat = 2 ^ k := by
  have := List.all_eq_true.1 (show (List.range 8).all (fun k => decide (((1 : UInt8) <<< UInt8.ofNat k).toNat = 2 ^ k)) = true by decide +kernel) k (List.mem_range.2 h)
  exact of_decide_eq_true this
theorem pow32 (k : Nat) (h : k < 32) : ((1 : BitVec 32) <<< k).toNat = 2 ^ k := by
  have := List.all_eq_true.1 (show (List.range 32).all (fun k => decide (((1 : BitVec 32) <<< k).toNat = 2 ^ k)) = true by decide +kernel) k (List.mem_range.2 h)
  exact of_decide_eq_true this
theorem bit8 (c : UInt8) (k : Nat) (h : k < 8) : decide (c / ((1 : UInt8) <<< UInt8.ofNat k) % 2 = 1) = bitOf c k := by
  unfold bitOf
  refine decide_eq_decide.2 ⟨fun e => ?_, fun e => UInt8.toNat_inj.1 ?_⟩
  · have := congrArg UInt8.toNat e
    rw [UInt8.toNat_mod, UInt8.toNat_div, pow8 k h] at this
    exact this
  · rw [UInt8.toNat_mod, UInt8.toNat_div, pow8 k h]; exact e
theorem bit32 (k : Nat) (h : k < 32) : decide ((2197175160 : BitVec 32) / ((1 : BitVec 32) <<< k) % 2 = 1) = polyBit k := by
  unfold polyBit
  refine decide_eq_decide.2 ⟨fun e => ?_, fun e => BitVec.eq_of_toNat_eq ?_⟩
  · have := congrArg BitVec.toNat e
    rw [BitVec.toNat_umod, BitVec.toNat_udiv, pow32 k h] at this
    exact this
  · rw [BitVec.toNat_umod, BitVec.toNat_udiv, pow32 k h]; exact e
theorem getDb (l : List Bool) (i : Nat) (h : i < l.length) : (l.map bV)[i]? = some (bV (l.getD i false)) := by
  rw [List.getElem?_map, List.getD_eq_getElem?_getD, List.getElem?_eq_getElem h]; rfl
set_option maxHeartbeats 4000000 in
theorem sum_c (s : ByteArray) (hz : s.size ≤ 9223372036854775807) (w : World) :
    Calls Try.prog 59 #[sV s] w fun e w' => e = .returned (u32V (crc (toL s))) ∧ Below w.heap.size w w' := by
  have hl := toL_size s
  refine enter (P := Try.prog) Try.func59 rfl rfl ?_
  have hs := Sep.init w
  refine c_rseq ?_
  refine l_v (r_assign (v := u32V 0) rfl) ?_
  refine l_nil (nrm_then ?_)
  refine c_rseq ?_
  refine l_alloc hs I117 ?_
  intro b3 w3 hs hB3 hlt3
  refine l_nil (nrm_then ?_)
  refine c_seq ?_
  refine c_rseq ?_
  refine l_v (by first | exact (r_assign (v := iV _) rfl) | exact (r_assign rfl)) ?_
  refine l_nil (nrm_then ?_)
  refine c_block ?_
  refine c_loopn [0, 2, 3] (fun m f' w' => ∃ k, k + m = 32 ∧ f' 4 = iV (k : Int) ∧ Sep w w' [blk b3 ((ones k).map bV) 117]) ?_ ?_
  · exact ⟨32, 0, rfl, rfl, hs⟩
  · rintro m g w_ ⟨k, hk, h4, hs⟩
    have hol := ones_length k
    refine OkC.env ?_ (fixH (L := [(4, _)]) ⟨h4, trivial⟩)
    clear h4
    refine c_seq ?_
    refine c_rseq ?_
    refine l_v (by first | exact (r_move (v := iV _) rfl) | exact (r_move rfl)) ?_
    refine l_v (r_lssi rfl rfl) ?_
    refine l_nil (nrm_then ?_)
    refine c_cond rfl (fun h => ?_) (fun h => ?_)
    · replace h := of_decide_eq_true h
      refine c_skip (nrm_then ?_)
      refine c_seq ?_
      refine c_block ?_
      refine c_region ?_
      refine l_v (by first | exact (r_move (v := iV _) rfl) | exact (r_move rfl)) ?_
      refine l_v (by first | exact (r_indexAddr_a0 Try.underlying117 I4 rfl rfl (by omega)) | exact (r_indexAddr_a Try.underlying117 I4 rfl rfl (by omega))) ?_
      refine l_store (i := 0) (v := bV true) hs rfl I4 rfl rfl (by rw [List.length_map, hol]; omega) ?_
      intro w_ hs
      refine l_nil (nrm_block (nrm_then ?_))
      refine c_region ?_
      refine l_v (by first | exact (r_move (v := iV _) rfl) | exact (r_move rfl)) ?_
      refine l_v (r_addi rfl rfl (by omega)) ?_
      refine l_v (by first | exact (r_assign (v := iV _) rfl) | exact (r_assign rfl)) ?_
      refine l_nil (nrm_then ?_)
      refine And.intro (by refine ⟨?_, ?_, ?_, trivial⟩ <;> ((conv => lhs; whnf); (try conv => rhs; whnf))) ?_
      exact ⟨31 - k, by omega, k + 1, by omega, rfl, by rw [show ones (k + 1) = (ones k).set k true from rfl, List.map_set]; exact hs⟩
    · replace h := of_decide_eq_false h
      refine c_exit (ex_then (ex_then (ex_hit (nrm_then ?_))))
      refine c_seq ?_
      refine c_rseq ?_
      refine l_v (by first | exact (r_assign (v := iV _) rfl) | exact (r_assign rfl)) ?_
      refine l_nil (nrm_then ?_)
      refine c_block ?_
      obtain rfl : k = 32 := by omega
      refine c_loopn [0, 2, 3] (fun m f' w' => ∃ i, i + m = s.size ∧ f' 5 = iV (i : Int) ∧ Sep w w' [blk b3 ((refRun (toL s) i).map bV) 117]) ?_ ?_
      · exact ⟨s.size, 0, by omega, rfl, hs⟩
      · rintro m g w_ ⟨i, hi, h5, hs⟩
        refine OkC.env ?_ (fixH (L := [(5, _)]) ⟨h5, trivial⟩)
        clear h5
        refine c_seq ?_
        refine c_rseq ?_
        refine l_v (by first | exact (r_move (v := iV _) rfl) | exact (r_move rfl)) ?_
        refine l_v (by first | exact (r_move (v := sV _) rfl) | exact (r_move rfl)) ?_
        refine l_v (r_len_s Try.underlying9 rfl) ?_
        refine l_v (r_lssi rfl rfl) ?_
        refine l_nil (nrm_then ?_)
        refine c_cond rfl (fun h2 => ?_) (fun h2 => ?_)
        · have his : i < s.size := by have := of_decide_eq_true h2; omega
          replace h2 := of_decide_eq_true h2
          refine c_skip (nrm_then ?_)
          refine c_seq ?_
          refine c_block ?_
          refine c_rseq ?_
          refine l_v (by first | exact (r_assign (v := iV _) rfl) | exact (r_assign rfl)) ?_
          refine l_nil (nrm_then ?_)
          refine c_block ?_
          refine c_loopn [0, 2, 3, 5] (fun m f' w' => ∃ k, k + m = 8 ∧ f' 6 = iV (k : Int) ∧ Sep w w' [blk b3 ((it (refBit (at8 s i)) k (refRun (toL s) i)).map bV) 117]) ?_ ?_
          · exact ⟨8, 0, rfl, rfl, hs⟩
          · rintro m g w_ ⟨k, hk, h6, hs⟩
            have hRl : (it (refBit (at8 s i)) k (refRun (toL s) i)).length = 32 := by rw [it_length (fun i l => refBit_length _ i l), refRun_length]
            have hnx : it (refBit (at8 s i)) (k + 1) (refRun (toL s) i) = refBit (at8 s i) k (it (refBit (at8 s i)) k (refRun (toL s) i)) := rfl
            generalize hQ : it (refBit (at8 s i)) k (refRun (toL s) i) = Q at *
            refine OkC.env ?_ (fixH (L := [(6, _)]) ⟨h6, trivial⟩)
            clear h6
            refine c_seq ?_
            refine c_rseq ?_
            refine l_v (by first | exact (r_move (v := iV _) rfl) | exact (r_move rfl)) ?_
            refine l_v (r_lssi rfl rfl) ?_
            refine l_nil (nrm_then ?_)
            refine c_cond rfl (fun h3 => ?_) (fun h3 => ?_)
            · have hk8 : k < 8 := by have := of_decide_eq_true h3; omega
              have hp8 := pow8 k hk8
              have hb8 := bit8 (at8 s i) k hk8
              have hg0 := getDb Q 0 (by omega)
              replace h3 := of_decide_eq_true h3
              refine c_skip (nrm_then ?_)
              refine c_seq ?_
              refine c_block ?_
              refine c_seq ?_
              refine c_float [] 5 (by kernel_rfl) (by kernel_rfl) ?_
              intro hbF
              show OkF _ _ _ _ _ _ (_ :: _) 0 _ _
              refine f_v (fun wl hbl => by have hs := hs.below_ hbl; first | exact (r_move (v := sV _) rfl) | exact (r_move rfl)) ?_
              refine f_v (fun wl hbl => by have hs := hs.below_ hbl; first | exact (r_move (v := iV _) rfl) | exact (r_move rfl)) ?_
              refine f_v (fun wl hbl => by have hs := hs.below_ hbl; first | exact (r_index_s Try.underlying9 rfl rfl (by omega)) | exact (r_index_si Try.underlying9 rfl rfl (by omega))) ?_
              refine f_v (fun wl hbl => by have hs := hs.below_ hbl; first | exact (r_move (v := iV _) rfl) | exact (r_move rfl)) ?_
              refine f_v (fun wl hbl => by have hs := hs.below_ hbl; exact (r_shl8 (a := 1) (b := k) rfl rfl (by omega))) ?_
              refine f_nil ?_
              have hs := hs.below_ hbF
              show OkL _ _ _ _ (_ :: _) _ _
              refine l_v (r_quo8 rfl rfl (by rw [hp8]; exact Nat.pow_pos (by decide))) ?_
              refine l_v (r_rem8 (b := 2) rfl rfl (by first | decide | omega)) ?_
              refine l_v (r_eql8 (b := 1) rfl rfl) ?_
              refine l_v (by first | exact (r_assign (v := bV _) rfl) | exact (r_assign rfl)) ?_
              refine l_nil (nrm_then ?_)
              refine c_rseq ?_
              refine l_v (by first | exact (r_indexAddr_a0 (k := 0) Try.underlying117 I4 rfl rfl (by decide)) | exact (r_indexAddr_a (k := 0) Try.underlying117 I4 rfl rfl (by decide))) ?_
              refine l_v (r_load_at (i := 0) hs rfl Try.underlying4 rfl hg0) ?_
              refine l_v (by first | exact (r_move (v := bV _) rfl) | exact (r_move rfl)) ?_
              refine l_v (r_neqb Try.underlying4 rfl rfl) ?_
              refine l_v (by first | exact (r_assign (v := bV _) rfl) | exact (r_assign rfl)) ?_
              refine l_nil (nrm_then ?_)
              refine c_seq ?_
              refine c_rseq ?_
              refine l_v (by first | exact (r_assign (v := iV _) rfl) | exact (r_assign rfl)) ?_
              refine l_nil (nrm_then ?_)
              refine c_block ?_
              rw [hb8]
              refine c_loopn [0, 2, 3, 5, 6, 8] (fun m f' w' => ∃ j, j + m = 31 ∧ f' 9 = iV (j : Int) ∧ Sep w w' [blk b3 ((shifted j Q).map bV) 117]) ?_ ?_
              · exact ⟨31, 0, rfl, rfl, hs⟩
              · rintro m g w_ ⟨j, hj, h9, hs⟩
                have hSl : (shifted j Q).length = 32 := by rw [shifted_length, hRl]
                refine OkC.env ?_ (fixH (L := [(9, _)]) ⟨h9, trivial⟩)
                clear h9
                refine c_seq ?_
                refine c_rseq ?_
                refine l_v (by first | exact (r_move (v := iV _) rfl) | exact (r_move rfl)) ?_
                refine l_v (r_lssi rfl rfl) ?_
                refine l_nil (nrm_then ?_)
                refine c_cond rfl (fun h10 => ?_) (fun h10 => ?_)
                · have hj31 : j < 31 := by have := of_decide_eq_true h10; omega
                  have hg := getDb (shifted j Q) (j + 1) (by omega)
                  replace h10 := of_decide_eq_true h10
                  refine c_skip (nrm_then ?_)
                  refine c_seq ?_
                  refine c_block ?_
                  refine c_region ?_
                  refine l_v (by first | exact (r_move (v := iV _) rfl) | exact (r_move rfl)) ?_
                  refine l_v (by first | exact (r_move (v := iV _) rfl) | exact (r_move rfl)) ?_
                  refine l_v (r_addi rfl rfl (by omega)) ?_
                  refine l_v (r_indexAddr_a0 (k := j + 1) Try.underlying117 I4 rfl (ivn (by omega)) (by omega)) ?_
                  refine l_v (r_load_at (i := 0) hs rfl Try.underlying4 rfl hg) ?_
                  refine l_v (by first | exact (r_indexAddr_a0 Try.underlying117 I4 rfl rfl (by omega)) | exact (r_indexAddr_a Try.underlying117 I4 rfl rfl (by omega))) ?_
                  refine l_store (i := 0) (v := bV _) hs rfl I4 rfl rfl (by rw [List.length_map]; omega) ?_
                  intro w_ hs
                  refine l_nil (nrm_block (nrm_then ?_))
                  refine c_region ?_
                  refine l_v (by first | exact (r_move (v := iV _) rfl) | exact (r_move rfl)) ?_
                  refine l_v (r_addi rfl rfl (by omega)) ?_
                  refine l_v (by first | exact (r_assign (v := iV _) rfl) | exact (r_assign rfl)) ?_
                  refine l_nil (nrm_then ?_)
                  refine And.intro (by refine ⟨?_, ?_, ?_, ?_, ?_, ?_, trivial⟩ <;> ((conv => lhs; whnf); (try conv => rhs; whnf))) ?_
                  exact ⟨30 - j, by omega, j + 1, by omega, rfl, by rw [show shifted (j + 1) Q = (shifted j Q).set j ((shifted j Q).getD (j + 1) false) from rfl, List.map_set]; exact hs⟩
                · replace h10 := of_decide_eq_false h10
                  refine c_exit (ex_then (ex_then (ex_hit (nrm_then ?_))))
                  refine c_rseq ?_
                  refine l_v (by first | exact (r_indexAddr_a0 (k := 31) Try.underlying117 I4 rfl rfl (by decide)) | exact (r_indexAddr_a (k := 31) Try.underlying117 I4 rfl rfl (by decide))) ?_
                  obtain rfl : j = 31 := by omega
                  refine l_store (i := 0) (v := bV false) hs rfl I4 rfl rfl (by rw [List.length_map]; omega) ?_
                  intro w_ hs
                  refine l_nil (nrm_then ?_)
                  refine c_rseq ?_
                  refine l_v (by first | exact (r_assign (v := iV _) rfl) | exact (r_assign rfl)) ?_
                  refine l_nil (nrm_then ?_)
                  refine c_block ?_
                  have hs : Sep w w_ [blk b3 (((shifted 31 Q).set 31 false).map bV) 117] := by rw [List.map_set]; exact hs
                  have hTl : ((shifted 31 Q).set 31 false).length = 32 := by rw [List.length_set]; omega
                  have hrb : refBit (at8 s i) k Q = if (Q.getD 0 false != bitOf (at8 s i) k) then turned 32 ((shifted 31 Q).set 31 false) else (shifted 31 Q).set 31 false := rfl
                  generalize (shifted 31 Q).set 31 false = T at *
                  generalize hout : (Q.getD 0 false != bitOf (at8 s i) k) = out at *
                  refine c_loopn [0, 2, 3, 5, 6, 8] (fun m f' w' => ∃ j, j + m = 32 ∧ f' 10 = iV (j : Int) ∧ (out = false → j = 0) ∧ Sep w w' [blk b3 ((turned j T).map bV) 117]) ?_ ?_
                  · exact ⟨32, 0, rfl, rfl, fun _ => rfl, hs⟩
                  · rintro m g w_ ⟨j, hj, h10, ho, hs⟩
                    have hUl : (turned j T).length = 32 := by rw [turned_length, hTl]
                    refine OkC.env ?_ (fixH (L := [(10, _)]) ⟨h10, trivial⟩)
                    clear h10
                    refine c_seq ?_
                    refine c_rseq ?_
                    refine l_v (by first | exact (r_move (v := iV _) rfl) | exact (r_move rfl)) ?_
                    refine l_v (r_lssi rfl rfl) ?_
                    by_cases hj32 : (j : Int) < 32
                    · have f1 : decide ((j : Int) < 32) = true := decide_eq_true hj32
                      refine l_v (by first | exact (r_move (v := bV _) rfl) | exact (r_move rfl)) ?_
                      refine l_vg (by first | exact (r_move (v := bV _) rfl) | exact (r_move rfl)) rfl (f1) ?_
                      refine l_v (r_pick_t rfl f1 rfl) ?_
                      refine l_nil (nrm_then ?_)
                      refine c_cond rfl (fun h11 => ?_) (fun h11 => ?_)
                      · have hp32 := pow32 j (by omega)
                        have hb32 := bit32 j (by omega)
                        have hg := getDb (turned j T) j (by omega)
                        have htn : turned (j + 1) T = if polyBit j then (turned j T).set j (!(turned j T).getD j false) else turned j T := rfl
                        refine c_skip (nrm_then ?_)
                        refine c_seq ?_
                        refine c_block ?_
                        refine c_rseq ?_
                        refine l_v (by first | exact (r_move (v := iV _) rfl) | exact (r_move rfl)) ?_
                        refine l_v (r_shl32 (a := 1) (b := j) rfl rfl) ?_
                        refine l_v (r_quo32 (a := 2197175160) rfl rfl (by rw [hp32]; exact Nat.pow_pos (by decide))) ?_
                        refine l_v (r_rem32 (b := 2) rfl rfl (by first | decide | omega)) ?_
                        refine l_v (r_eql32 (b := 1) rfl rfl) ?_
                        refine l_nil (nrm_then ?_)
                        rw [hb32]
                        refine c_cond rfl (fun h12 => ?_) (fun h12 => ?_)
                        · refine c_region ?_
                          refine l_v (by first | exact (r_move (v := iV _) rfl) | exact (r_move rfl)) ?_
                          refine l_v (by first | exact (r_move (v := iV _) rfl) | exact (r_move rfl)) ?_
                          refine l_v (by first | exact (r_indexAddr_a0 Try.underlying117 I4 rfl rfl (by omega)) | exact (r_indexAddr_a Try.underlying117 I4 rfl rfl (by omega))) ?_
                          refine l_v (r_load_at (i := 0) hs rfl Try.underlying4 rfl hg) ?_
                          refine l_v (r_not rfl) ?_
                          refine l_v (by first | exact (r_indexAddr_a0 Try.underlying117 I4 rfl rfl (by omega)) | exact (r_indexAddr_a Try.underlying117 I4 rfl rfl (by omega))) ?_
                          refine l_store (i := 0) (v := bV _) hs rfl I4 rfl rfl (by rw [List.length_map]; omega) ?_
                          intro w_ hs
                          refine l_nil (nrm_block (nrm_then ?_))
                          refine c_region ?_
                          refine l_v (by first | exact (r_move (v := iV _) rfl) | exact (r_move rfl)) ?_
                          refine l_v (r_addi rfl rfl (by omega)) ?_
                          refine l_v (by first | exact (r_assign (v := iV _) rfl) | exact (r_assign rfl)) ?_
                          refine l_nil (nrm_then ?_)
                          refine And.intro (by refine ⟨?_, ?_, ?_, ?_, ?_, ?_, trivial⟩ <;> ((conv => lhs; whnf); (try conv => rhs; whnf))) ?_
                          exact ⟨31 - j, by omega, j + 1, by omega, rfl, (fun h => absurd (h11.symm.trans h) (by decide)), by rw [htn, if_pos h12, List.map_set]; exact hs⟩
                        · refine c_skip (nrm_block (nrm_then ?_))
                          refine c_region ?_
                          refine l_v (by first | exact (r_move (v := iV _) rfl) | exact (r_move rfl)) ?_
                          refine l_v (r_addi rfl rfl (by omega)) ?_
                          refine l_v (by first | exact (r_assign (v := iV _) rfl) | exact (r_assign rfl)) ?_
                          refine l_nil (nrm_then ?_)
                          refine And.intro (by refine ⟨?_, ?_, ?_, ?_, ?_, ?_, trivial⟩ <;> ((conv => lhs; whnf); (try conv => rhs; whnf))) ?_
                          exact ⟨31 - j, by omega, j + 1, by omega, rfl, (fun h => absurd (h11.symm.trans h) (by decide)), by rw [htn, if_neg (by rw [h12]; decide)]; exact hs⟩
                      · refine c_exit (ex_then (ex_then (ex_hit (nrm_block (nrm_then ?_)))))
                        refine c_region ?_
                        refine l_v (by first | exact (r_move (v := iV _) rfl) | exact (r_move rfl)) ?_
                        refine l_v (r_addi rfl rfl (by omega)) ?_
                        refine l_v (by first | exact (r_assign (v := iV _) rfl) | exact (r_assign rfl)) ?_
                        refine l_nil (nrm_then ?_)
                        refine And.intro (by refine ⟨?_, ?_, ?_, ?_, trivial⟩ <;> ((conv => lhs; whnf); (try conv => rhs; whnf))) ?_
                        have hj0 := ho h11
                        subst hj0
                        refine ⟨8 - (k + 1), by omega, k + 1, by omega, rfl, ?_⟩
                        rw [hnx, hrb, if_neg (by rw [h11]; decide)]
                        exact hs
                    · have f1 : decide ((j : Int) < 32) = false := decide_eq_false hj32
                      refine l_v (by first | exact (r_move (v := bV _) rfl) | exact (r_move rfl)) ?_
                      refine l_no rfl (f1) ?_
                      refine l_v (r_pick_f rfl f1 rfl) ?_
                      refine l_nil (nrm_then ?_)
                      refine c_false rfl (rfl) ?_
                      refine c_exit (ex_then (ex_then (ex_hit (nrm_block (nrm_then ?_)))))
                      refine c_region ?_
                      refine l_v (by first | exact (r_move (v := iV _) rfl) | exact (r_move rfl)) ?_
                      refine l_v (r_addi rfl rfl (by omega)) ?_
                      refine l_v (by first | exact (r_assign (v := iV _) rfl) | exact (r_assign rfl)) ?_
                      refine l_nil (nrm_then ?_)
                      refine And.intro (by refine ⟨?_, ?_, ?_, ?_, trivial⟩ <;> ((conv => lhs; whnf); (try conv => rhs; whnf))) ?_
                      obtain rfl : j = 32 := by omega
                      have ho' : out = true := by cases out with | true => rfl | false => have := ho rfl; omega
                      refine ⟨8 - (k + 1), by omega, k + 1, by omega, rfl, ?_⟩
                      rw [hnx, hrb, if_pos ho']
                      exact hs
            · replace h3 := of_decide_eq_false h3
              refine c_exit (ex_then (ex_then (ex_hit (nrm_block (nrm_then ?_)))))
              refine c_region ?_
              refine l_v (by first | exact (r_move (v := iV _) rfl) | exact (r_move rfl)) ?_
              refine l_v (r_addi rfl rfl (by omega)) ?_
              refine l_v (by first | exact (r_assign (v := iV _) rfl) | exact (r_assign rfl)) ?_
              refine l_nil (nrm_then ?_)
              obtain rfl : k = 8 := by omega
              refine And.intro (by refine ⟨?_, ?_, ?_, trivial⟩ <;> ((conv => lhs; whnf); (try conv => rhs; whnf))) ?_
              refine ⟨s.size - (i + 1), by omega, i + 1, by omega, rfl, ?_⟩
              rw [show refRun (toL s) (i + 1) = it (refBit (at8 s i)) 8 (refRun (toL s) i) from rfl, hQ]
              exact hs
        · replace h2 := of_decide_eq_false h2
          refine c_exit (ex_then (ex_then (ex_hit (nrm_then ?_))))
          refine c_rseq ?_
          refine l_v (r_assign (v := u32V 0) rfl) ?_
          refine l_nil (nrm_then ?_)
          refine c_seq ?_
          refine c_rseq ?_
          refine l_v (by first | exact (r_assign (v := iV _) rfl) | exact (r_assign rfl)) ?_
          refine l_nil (nrm_then ?_)
          refine c_block ?_
          obtain rfl : i = s.size := by omega
          have hRl := refRun_length (toL s) s.size
          have hfin := refSum_eq (toL s)
          rw [hl] at hfin
          generalize refRun (toL s) s.size = Q at *
          refine c_loopn [2, 3] (fun m f' w' => ∃ k, k + m = 32 ∧ f' 12 = iV (31 - (k : Int)) ∧ f' 11 = u32V (BitVec.ofNat 32 (refVal k Q)) ∧ Sep w w' [blk b3 (Q.map bV) 117]) ?_ ?_
          · exact ⟨32, 0, rfl, rfl, rfl, hs⟩
          · rintro m g w_ ⟨k, hk, h12, h11, hs⟩
            refine OkC.env ?_ (fixH (L := [(12, _), (11, _)]) ⟨h12, h11, trivial⟩)
            clear h12 h11
            refine c_seq ?_
            refine c_rseq ?_
            refine l_v (by first | exact (r_move (v := iV _) rfl) | exact (r_move rfl)) ?_
            refine l_v (r_geqi rfl rfl) ?_
            refine l_nil (nrm_then ?_)
            refine c_cond rfl (fun h13 => ?_) (fun h13 => ?_)
            · have hk32 : k < 32 := by have := of_decide_eq_true h13; omega
              have hg := getDb Q (31 - k) (by omega)
              replace h13 := of_decide_eq_true h13
              refine c_skip (nrm_then ?_)
              refine c_seq ?_
              refine c_block ?_
              refine c_rseq ?_
              refine l_v (by first | exact (r_move (v := u32V _) rfl) | exact (r_move rfl)) ?_
              refine l_v (r_mul32 (a := 2) rfl rfl) ?_
              refine l_v (by first | exact (r_assign (v := u32V _) rfl) | exact (r_assign rfl)) ?_
              refine l_nil (nrm_then ?_)
              refine c_rseq ?_
              refine l_v (by first | exact (r_move (v := iV _) rfl) | exact (r_move rfl)) ?_
              refine l_v (r_indexAddr_a0 (k := 31 - k) Try.underlying117 I4 rfl (ivn (by omega)) (by omega)) ?_
              refine l_v (r_load_at (i := 0) hs rfl Try.underlying4 rfl hg) ?_
              refine l_v (r_not rfl) ?_
              refine l_nil (nrm_then ?_)
              have hx2 : (2 : BitVec 32) * BitVec.ofNat 32 (refVal k Q) = BitVec.ofNat 32 (2 * refVal k Q) := by
                apply BitVec.eq_of_toNat_eq
                rw [BitVec.toNat_mul, BitVec.toNat_ofNat, BitVec.toNat_ofNat]
                show 2 * (refVal k Q % 2 ^ 32) % 2 ^ 32 = _
                omega
              have hrv : refVal (k + 1) Q = 2 * refVal k Q + (if Q.getD (31 - k) false then 0 else 1) := rfl
              rw [hx2]
              refine c_cond rfl (fun h14 => ?_) (fun h14 => ?_)
              · refine c_region ?_
                refine l_v (by first | exact (r_move (v := u32V _) rfl) | exact (r_move rfl)) ?_
                refine l_v (r_add32 (b := 1) rfl rfl) ?_
                refine l_v (by first | exact (r_assign (v := u32V _) rfl) | exact (r_assign rfl)) ?_
                refine l_nil (nrm_block (nrm_then ?_))
                refine c_region ?_
                refine l_v (by first | exact (r_move (v := iV _) rfl) | exact (r_move rfl)) ?_
                refine l_v (r_subi rfl rfl (by omega)) ?_
                refine l_v (by first | exact (r_assign (v := iV _) rfl) | exact (r_assign rfl)) ?_
                refine l_nil (nrm_then ?_)
                refine And.intro (by refine ⟨?_, ?_, trivial⟩ <;> ((conv => lhs; whnf); (try conv => rhs; whnf))) ?_
                refine ⟨31 - k, by omega, k + 1, by omega, congrArg iV (by omega), ?_, hs⟩
                show u32V _ = u32V _
                rw [hrv, if_neg (by intro h; rw [h] at h14; cases h14), BitVec.ofNat_add]; rfl
              · refine c_skip (nrm_block (nrm_then ?_))
                refine c_region ?_
                refine l_v (by first | exact (r_move (v := iV _) rfl) | exact (r_move rfl)) ?_
                refine l_v (r_subi rfl rfl (by omega)) ?_
                refine l_v (by first | exact (r_assign (v := iV _) rfl) | exact (r_assign rfl)) ?_
                refine l_nil (nrm_then ?_)
                refine And.intro (by refine ⟨?_, ?_, trivial⟩ <;> ((conv => lhs; whnf); (try conv => rhs; whnf))) ?_
                refine ⟨31 - k, by omega, k + 1, by omega, congrArg iV (by omega), ?_, hs⟩
                show u32V _ = u32V _
                rw [hrv, if_pos (by cases hq : Q.getD (31 - k) false with | true => rfl | false => rw [hq] at h14; cases h14), Nat.add_zero]
            · replace h13 := of_decide_eq_false h13
              refine c_exit (ex_then (ex_then (ex_hit (nrm_then ?_))))
              refine c_rseq ?_
              refine l_v (by first | exact (r_move (v := u32V _) rfl) | exact (r_move rfl)) ?_
              refine l_v (by first | exact (r_assign (v := u32V _) rfl) | exact (r_assign rfl)) ?_
              refine l_nil (nrm_then ?_)
              obtain rfl : k = 32 := by omega
              refine c_ret ?_
              show Fin _ _ _ _ _
              refine fin1 rfl ?_
              have e : BitVec.ofNat 32 (refVal 32 Q) = crc (toL s) := by rw [hfin]; exact BitVec.ofNat_toNat ..
              exact ⟨congrArg (fun x => Ending.returned (u32V x)) e, hs.below⟩
theorem quo_byte (x : BitVec 32) (d n : Nat) (hd : (BitVec.ofNat 32 d).toNat = d) (h : x.toNat / d = n) : (x / BitVec.ofNat 32 d).toNat = n := by rw [BitVec.toNat_udiv, hd, h]
set_option maxHeartbeats 1000000 in
theorem four_c (x : BitVec 32) (w : World) :
    Calls Try.prog 58 #[u32V x] w fun e w' => e = .returned (sV (ofL (four x))) ∧ Below w.heap.size w w' := by
  refine enter (P := Try.prog) Try.func58 rfl rfl ?_
  have hs := Sep.init w
  refine c_rseq ?_
  refine l_v (by first | exact (r_assign (v := sV _) rfl) | exact (r_assign rfl)) ?_
  refine l_nil (nrm_then ?_)
  refine c_rseq ?_
  refine l_v (by first | exact (r_move (v := u32V _) rfl) | exact (r_move rfl)) ?_
  refine l_v (r_quo32 (b := 16777216) rfl rfl (by first | decide | omega)) ?_
  refine l_v (r_cv_328 Try.underlying101 Try.underlying5 rfl) ?_
  refine l_v (by first | exact (r_move (v := u32V _) rfl) | exact (r_move rfl)) ?_
  refine l_v (r_quo32 (b := 65536) rfl rfl (by first | decide | omega)) ?_
  refine l_v (r_rem32 (b := 256) rfl rfl (by first | decide | omega)) ?_
  refine l_v (r_cv_328 Try.underlying101 Try.underlying5 rfl) ?_
  refine l_v (by first | exact (r_move (v := u32V _) rfl) | exact (r_move rfl)) ?_
  refine l_v (r_quo32 (b := 256) rfl rfl (by first | decide | omega)) ?_
  refine l_v (r_rem32 (b := 256) rfl rfl (by first | decide | omega)) ?_
  refine l_v (r_cv_328 Try.underlying101 Try.underlying5 rfl) ?_
  refine l_v (by first | exact (r_move (v := u32V _) rfl) | exact (r_move rfl)) ?_
  refine l_v (r_rem32 (b := 256) rfl rfl (by first | decide | omega)) ?_
  refine l_v (r_cv_328 Try.underlying101 Try.underlying5 rfl) ?_
  refine l_lit1 [u8V _, u8V _, u8V _, u8V _] hs Try.underlying34 I5 rfl (by simp [Value.oneCell']) rfl (by decide) (by decide) ?_
  intro b17 w17 hs hB17 hlt17
  have hx := x.isLt
  have e1 : (x / 16777216).toNat = x.toNat / 16777216 := by rw [BitVec.toNat_udiv]; rfl
  have e2 : (x / 65536 % 256).toNat = x.toNat / 65536 % 256 := by rw [BitVec.toNat_umod, BitVec.toNat_udiv]; rfl
  have e3 : (x / 256 % 256).toNat = x.toNat / 256 % 256 := by rw [BitVec.toNat_umod, BitVec.toNat_udiv]; rfl
  have e4 : (x % 256).toNat = x.toNat % 256 := by rw [BitVec.toNat_umod]; rfl
  have ef : [UInt8.ofNat (x / 16777216).toNat, UInt8.ofNat (x / 65536 % 256).toNat, UInt8.ofNat (x / 256 % 256).toNat, UInt8.ofNat (x % 256).toNat] = four x := by
    rw [e1, e2, e3, e4]; rfl
  refine l_v (r_cv_bs (l := [UInt8.ofNat (x / 16777216).toNat, UInt8.ofNat (x / 65536 % 256).toNat, UInt8.ofNat (x / 256 % 256).toNat, UInt8.ofNat (x % 256).toNat]) Try.underlying34 Try.underlying5 Try.underlying9 rfl (rd_blk (hs.at_ 0).1 rfl (by decide))) ?_
  refine l_v (by first | exact (r_assign (v := sV _) rfl) | exact (r_assign rfl)) ?_
  refine l_nil (nrm_then ?_)
  refine c_ret ?_
  show Fin _ _ _ _ _
  refine fin1 rfl ?_
  rw [ef]
  exact ⟨rfl, hs.below⟩
set_option maxHeartbeats 1000000 in
theorem put_c (s : ByteArray) (hz : s.size ≤ 9223372036854775800) (w : World) :
    Calls Try.prog 46 #[sV s] w fun e w' => e = .returned (sV (ofL (put (toL s)))) ∧ Below w.heap.size w w' := by
  refine enter (P := Try.prog) Try.func46 rfl rfl ?_
  have hs := Sep.init w
  refine c_rseq ?_
  refine l_v (by first | exact (r_assign (v := sV _) rfl) | exact (r_assign rfl)) ?_
  refine l_nil (nrm_then ?_)
  refine c_rseq ?_
  refine l_v (by first | exact (r_move (v := sV _) rfl) | exact (r_move rfl)) ?_
  refine l_v (by first | exact (r_move (v := sV _) rfl) | exact (r_move rfl)) ?_
  refine l_call (r_call Try.func59 rfl rfl) ?_
  refine Calls.mono (sum_c s (by omega) _) ?_
  rintro e w_ ⟨rfl, hb⟩
  refine ⟨_, rfl, ?_⟩
  have hs := hs.below_ hb
  refine l_call (r_call Try.func58 rfl rfl) ?_
  refine Calls.mono (four_c (crc (toL s)) _) ?_
  rintro e w_ ⟨rfl, hb⟩
  refine ⟨_, rfl, ?_⟩
  have hs := hs.below_ hb
  refine l_v (r_adds rfl rfl (by show s.size + 4 ≤ _; omega)) ?_
  refine l_v (by first | exact (r_assign (v := sV _) rfl) | exact (r_assign rfl)) ?_
  refine l_nil (nrm_then ?_)
  refine c_ret ?_
  show Fin _ _ _ _ _
  refine fin1 rfl ?_
  refine ⟨congrArg Ending.returned (congrArg Value.string (toL_inj ?_)), hs.below⟩
  rw [toL_append]; rfl
end Go.Proofs.Ytlkljeghhahedaa.RefCrc
