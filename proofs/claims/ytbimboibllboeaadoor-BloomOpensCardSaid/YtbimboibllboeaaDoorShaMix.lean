/- The walks of RotateLeft32, turn, mixed. -/
import Derived.Test.YtbimboibllboeaaDoorTab
import Derived.Test.YtbimboibllboeaaDoorFloat
import Derived.Test.YtbimboibllboeaaDoorShaFn
namespace Go.Proofs.YtbimboibllboeaaDoor.Sha
open Go Go.RowKit Go.Proofs.YtbimboibllboeaaDoor.Eng
set_option linter.unusedVariables false
set_option maxRecDepth 100000
set_option maxHeartbeats 1000000 in
theorem rot_c (x : W) (k : Int) (n : Nat) (w : World) (h1 : (BitVec.ofInt 64 k &&& 31).toNat = 32 - n) (h2 : (32 - (BitVec.ofInt 64 k &&& 31)).toNat = n) :
    Calls Tryd.prog 51 #[u32V x, iV k] w fun e w' => e = .returned (u32V (rotr x n)) ∧ w' = w := by
  refine enter (P := Tryd.prog) Tryd.func51 rfl rfl ?_
  refine c_rseq ?_
  refine l_v (r_assign (v := u32V 0) rfl) ?_
  refine l_nil (nrm_then ?_)
  refine c_rseq ?_
  refine l_v (by first | exact (r_move (v := iV _) rfl) | exact (r_move rfl)) ?_
  refine l_v (r_cv_i64 Tryd.underlying3 Tryd.underlying89 rfl) ?_
  refine l_v (r_and64 (b := 31) rfl rfl) ?_
  refine l_v (by first | exact (r_assign (v := u64V _) rfl) | exact (r_assign rfl)) ?_
  refine l_nil (nrm_then ?_)
  refine c_rseq ?_
  refine l_v (by first | exact (r_move (v := u32V _) rfl) | exact (r_move rfl)) ?_
  refine l_v (by first | exact (r_move (v := u64V _) rfl) | exact (r_move rfl)) ?_
  refine l_v (r_shl32 rfl rfl) ?_
  refine l_v (by first | exact (r_move (v := u32V _) rfl) | exact (r_move rfl)) ?_
  refine l_v (by first | exact (r_move (v := u64V _) rfl) | exact (r_move rfl)) ?_
  refine l_v (r_sub64 (a := 32) rfl rfl) ?_
  refine l_v (r_shr32 rfl rfl) ?_
  refine l_v (r_or32 rfl rfl) ?_
  refine l_v (by first | exact (r_assign (v := u32V _) rfl) | exact (r_assign rfl)) ?_
  refine l_nil (nrm_then ?_)
  refine c_ret ?_
  show Fin _ _ _ _ _
  refine fin1 rfl ?_
  refine ⟨congrArg Ending.returned (congrArg u32V ?_), rfl⟩
  rw [h1, h2]
  rfl
set_option maxHeartbeats 1000000 in
theorem turn_c (x : W) (n : Nat) (w : World) (hn : n ≤ 1000) :
    Calls Tryd.prog 49 #[u32V x, iV (n : Int)] w fun e w' => e = .returned (u32V (turnN n x)) ∧ w' = w := by
  refine enter (P := Tryd.prog) Tryd.func49 rfl rfl ?_
  refine c_rseq ?_
  refine l_v (r_assign (v := u32V 0) rfl) ?_
  refine l_nil (nrm_then ?_)
  refine c_seq ?_
  refine c_rseq ?_
  refine l_v (by first | exact (r_assign (v := iV _) rfl) | exact (r_assign rfl)) ?_
  refine l_nil (nrm_then ?_)
  refine c_block ?_
  refine c_loopn [1, 4] (fun m f' w' => w' = w ∧ ∃ k, k + m = n ∧ f' 5 = iV (k : Int) ∧ f' 0 = u32V (turnN k x)) ?_ ?_
  · exact ⟨n, rfl, 0, by omega, rfl, rfl⟩
  · rintro m g w_ ⟨rfl, k, hk, h5, h0⟩
    refine OkC.env ?_ (fixH (L := [(5, _), (0, _)]) ⟨h5, h0, trivial⟩)
    clear h5 h0
    refine c_seq ?_
    refine c_rseq ?_
    refine l_v (by first | exact (r_move (v := iV _) rfl) | exact (r_move rfl)) ?_
    refine l_v (by first | exact (r_move (v := iV _) rfl) | exact (r_move rfl)) ?_
    refine l_v (r_lssi rfl rfl) ?_
    refine l_nil (nrm_then ?_)
    refine c_cond rfl (fun h => ?_) (fun h => ?_)
    · replace h := of_decide_eq_true h
      refine c_skip (nrm_then ?_)
      refine c_seq ?_
      refine c_block ?_
      refine c_region ?_
      refine l_v (by first | exact (r_move (v := u32V _) rfl) | exact (r_move rfl)) ?_
      refine l_v (r_quo32 (b := 2) rfl rfl (by first | decide | omega)) ?_
      refine l_v (by first | exact (r_move (v := u32V _) rfl) | exact (r_move rfl)) ?_
      refine l_v (r_rem32 (b := 2) rfl rfl (by first | decide | omega)) ?_
      refine l_v (r_mul32 (b := 2147483648) rfl rfl) ?_
      refine l_v (r_add32 rfl rfl) ?_
      refine l_v (by first | exact (r_assign (v := u32V _) rfl) | exact (r_assign rfl)) ?_
      refine l_nil (nrm_block (nrm_then ?_))
      refine c_region ?_
      refine l_v (by first | exact (r_move (v := iV _) rfl) | exact (r_move rfl)) ?_
      refine l_v (r_addi rfl rfl (by omega)) ?_
      refine l_v (by first | exact (r_assign (v := iV _) rfl) | exact (r_assign rfl)) ?_
      refine l_nil (nrm_then ?_)
      refine And.intro (by refine ⟨?_, ?_, trivial⟩ <;> ((conv => lhs; whnf); (try conv => rhs; whnf))) ?_
      exact ⟨n - (k + 1), by omega, rfl, k + 1, by omega, rfl, rfl⟩
    · replace h := of_decide_eq_false h
      refine c_exit (ex_then (ex_then (ex_hit (nrm_then ?_))))
      refine c_rseq ?_
      refine l_v (by first | exact (r_move (v := u32V _) rfl) | exact (r_move rfl)) ?_
      refine l_v (by first | exact (r_assign (v := u32V _) rfl) | exact (r_assign rfl)) ?_
      refine l_nil (nrm_then ?_)
      obtain rfl : k = n := by omega
      refine c_ret ?_
      show Fin _ _ _ _ _
      refine fin1 rfl ?_
      exact ⟨rfl, rfl⟩
/-- The words so far, the one in the making, room. -/
def wc (b : List UInt8) (k : Nat) (x : W) : List Value := (wl b k).map u32V ++ u32V x :: List.replicate (63 - k) (Value.int .u32 0)
theorem wc_at (b : List UInt8) (k : Nat) (x : W) : (wc b k x)[k]? = some (u32V x) := by
  unfold wc
  rw [List.getElem?_append_right (by simp [wl_length])]
  simp [wl_length]
theorem wc_old (b : List UInt8) (k : Nat) (x : W) (i : Nat) (h : i < k) : (wc b k x)[i]? = some (u32V ((wl b k).getD i 0)) := by
  have hl := wl_length b k
  unfold wc
  rw [List.getElem?_append_left (by simp [hl, h]), List.getElem?_map, List.getD_eq_getElem?_getD, List.getElem?_eq_getElem (by omega : i < (wl b k).length)]
  rfl
theorem wc_set (b : List UInt8) (k : Nat) (x y : W) : (wc b k x).set k (u32V y) = wc b k y := by
  unfold wc
  rw [List.set_append_right _ _ (by simp [wl_length])]
  simp [wl_length]
theorem wc_len (b : List UInt8) (k : Nat) (x : W) (h : k < 64) : (wc b k x).length = 64 := by
  unfold wc
  simp [wl_length]
  omega
theorem wc_next (b : List UInt8) (k : Nat) (h : k < 63) : wc b k (nextW b (wl b k)) = wc b (k + 1) 0 := by
  have e : wl b (k + 1) = wl b k ++ [nextW b (wl b k)] := rfl
  unfold wc
  rw [e, List.map_append, List.append_assoc]
  obtain ⟨r, hr⟩ : ∃ r, 63 - k = r + 1 := ⟨62 - k, by omega⟩
  rw [hr, List.replicate_succ, show 63 - (k + 1) = r by omega]
  rfl
theorem wc_last (b : List UInt8) : wc b 63 (nextW b (wl b 63)) = (wl b 64).map u32V := by
  have e : wl b 64 = wl b 63 ++ [nextW b (wl b 63)] := rfl
  rw [e, List.map_append, wc, Nat.sub_self]
  generalize wl b 63 = l
  rfl
def wcs (b : List UInt8) (k : Nat) : List Value := if k < 64 then wc b k 0 else (wl b 64).map u32V
theorem wcs_next (b : List UInt8) (k : Nat) (h : k < 64) : wc b k (nextW b (wl b k)) = wcs b (k + 1) := by
  unfold wcs
  by_cases hk : k + 1 < 64
  · rw [if_pos hk]; exact wc_next b k (by omega)
  · obtain rfl : k = 63 := by omega
    rw [if_neg hk]; exact wc_last b
theorem getD_map8 (b : List UInt8) (i : Nat) (h : i < b.length) : (b.map u8V)[i]? = some (u8V (b.getD i 0)) := by
  rw [List.getElem?_map, List.getD_eq_getElem?_getD, List.getElem?_eq_getElem h]; rfl
theorem getD_map32 (b : List W) (i : Nat) (h : i < b.length) : (b.map u32V)[i]? = some (u32V (b.getD i 0)) := by
  rw [List.getElem?_map, List.getD_eq_getElem?_getD, List.getElem?_eq_getElem h]; rfl
def upto (A B : List W) (k : Nat) : List Value := ((List.zipWith (· + ·) A B).take k ++ A.drop k).map u32V
theorem upto_at (A B : List W) (k : Nat) (hl : A.length = B.length) (h : k < A.length) : (upto A B k)[k]? = some (u32V (A.getD k 0)) ∧ (upto A B k).set k (u32V (A.getD k 0 + B.getD k 0)) = upto A B (k + 1) ∧ (upto A B k).length = A.length := by
  have hz : (List.zipWith (· + ·) A B).length = A.length := by rw [List.length_zipWith]; omega
  have ht : ((List.zipWith (· + ·) A B).take k).length = k := by rw [List.length_take]; omega
  have hd : A.drop k = A.getD k 0 :: A.drop (k + 1) := by
    rw [List.getD_eq_getElem?_getD, List.getElem?_eq_getElem h]; exact (List.drop_eq_getElem_cons h)
  have hs : (List.zipWith (· + ·) A B).take (k + 1) = (List.zipWith (· + ·) A B).take k ++ [A.getD k 0 + B.getD k 0] := by
    rw [List.take_succ_eq_append_getElem (by omega), List.getElem_zipWith, List.getD_eq_getElem?_getD, List.getD_eq_getElem?_getD, List.getElem?_eq_getElem h, List.getElem?_eq_getElem (by omega)]
    rfl
  unfold upto
  refine ⟨?_, ?_, ?_⟩
  · rw [List.getElem?_map, List.getElem?_append_right (by omega), ht, hd]; simp
  · rw [List.map_append, List.set_append_right _ _ (by rw [List.length_map]; omega), List.length_map, ht, hd, hs]
    simp
  · simp only [List.length_map, List.length_append, ht, List.length_drop]; omega
theorem St_len (s : St) : s.list.length = 8 := rfl
theorem upto_0 (A B : List W) : upto A B 0 = A.map u32V := by simp [upto]
theorem upto_8 (s R : St) : upto s.list R.list 8 = (s.add R).list.map u32V := rfl
theorem one_u32 (l : List W) : ∀ v ∈ l.map u32V, v.oneCell' = true := by
  intro v hv
  obtain ⟨x, _, rfl⟩ := List.mem_map.1 hv
  rfl
set_option maxHeartbeats 4000000 in
theorem mixed_c (s : St) (b : List UInt8) (hb : b.length = 64) (w : World) (hg : ∃ T, w.heap[0]? = some (.cells (K.map u32V).toArray T (0, 0))) :
    Calls Tryd.prog 46 #[.agg (s.list.map u32V).toArray, .agg (b.map u8V).toArray] w fun e w' => e = .returned (.agg ((mix s b).list.map u32V).toArray) ∧ Below w.heap.size w w' := by
  obtain ⟨TK, hg⟩ := hg
  have hw0 : 0 < w.heap.size := heap_lt hg
  refine enter (P := Tryd.prog) Tryd.func46 rfl rfl ?_
  have hs := Sep.init w
  refine c_rseq ?_
  refine l_box hs rfl ?_
  intro b2 w2 hs hB2 hlt2
  refine l_box hs rfl ?_
  intro b3 w3 hs hB3 hlt3
  refine l_alloc hs I85 ?_
  intro b4 w4 hs hB4 hlt4
  refine l_nil (nrm_then ?_)
  refine c_rseq ?_
  refine l_alloc hs I94 ?_
  intro b5 w5 hs hB5 hlt5
  refine l_nil (nrm_then ?_)
  refine c_seq ?_
  refine c_rseq ?_
  refine l_v (by first | exact (r_move (v := iV _) rfl) | exact (r_move rfl)) ?_
  refine l_nil (nrm_then ?_)
  refine c_block ?_
  refine c_loopn [2, 3, 4, 5] (fun m f' w' => ∃ k, k + m = 64 ∧ f' 18 = iV (k : Int) ∧ Sep w w' [blk b5 (wcs b k) 94, blk b4 (List.replicate 8 (Value.int .u32 0)) 85, blk b3 (b.map u8V) 86, blk b2 (s.list.map u32V) 85]) ?_ ?_
  · exact ⟨64, 0, rfl, rfl, hs⟩
  · rintro m g w_ ⟨k, hk, h18, hs⟩
    refine OkC.env ?_ (fixH (L := [(18, _)]) ⟨h18, trivial⟩)
    clear h18
    refine c_rseq ?_
    refine l_v (r_lssi rfl rfl) ?_
    refine l_nil (nrm_then ?_)
    refine c_seq ?_
    refine c_cond rfl (fun h => ?_) (fun h => ?_)
    · replace h := of_decide_eq_true h
      refine c_skip (nrm_then ?_)
      refine c_seq ?_
      refine c_block ?_
      refine c_rseq ?_
      refine l_v (by first | exact (r_move (v := iV _) rfl) | exact (r_move rfl)) ?_
      refine l_v (by first | exact (r_assign (v := iV _) rfl) | exact (r_assign rfl)) ?_
      refine l_nil (nrm_then ?_)
      refine c_seq ?_
      refine c_rseq ?_
      refine l_v (by first | exact (r_move (v := iV _) rfl) | exact (r_move rfl)) ?_
      refine l_v (r_lssi rfl rfl) ?_
      refine l_nil (nrm_then ?_)
      have hk64 : k < 64 := by omega
      have e0 : wcs b k = wc b k 0 := if_pos hk64
      rw [e0] at hs
      refine c_cond rfl (fun h16 => ?_) (fun h16 => ?_)
      · replace h16 := of_decide_eq_true h16
        refine c_seq ?_
        refine c_rseq ?_
        refine l_v (by first | exact (r_move (v := iV _) rfl) | exact (r_move rfl)) ?_
        refine l_nil (nrm_then ?_)
        refine c_block ?_
        refine c_loopn [2, 3, 4, 5, 6, 18] (fun m f' w' => ∃ j, j + m = 4 ∧ f' 23 = iV (j : Int) ∧ Sep w w' [blk b5 (wc b k (word b k j)) 94, blk b4 (List.replicate 8 (Value.int .u32 0)) 85, blk b3 (b.map u8V) 86, blk b2 (s.list.map u32V) 85]) ?_ ?_
        · exact ⟨4, 0, rfl, rfl, hs⟩
        · rintro m g w_ ⟨j, hj, h23, hs⟩
          refine OkC.env ?_ (fixH (L := [(23, _)]) ⟨h23, trivial⟩)
          clear h23
          refine c_rseq ?_
          refine l_v (r_lssi rfl rfl) ?_
          refine l_nil (nrm_then ?_)
          refine c_seq ?_
          refine c_cond rfl (fun h4 => ?_) (fun h4 => ?_)
          · replace h4 := of_decide_eq_true h4
            refine c_skip (nrm_then ?_)
            refine c_seq ?_
            refine c_block ?_
            refine c_rseq ?_
            refine l_v (by first | exact (r_move (v := iV _) rfl) | exact (r_move rfl)) ?_
            refine l_v (by first | exact (r_assign (v := iV _) rfl) | exact (r_assign rfl)) ?_
            refine l_nil (nrm_then ?_)
            have hv2 := getD_map8 b (4 * k + j) (by omega)
            refine c_float [] 13 (by kernel_rfl) (by kernel_rfl) ?_
            intro hbF
            show OkF _ _ _ _ _ _ (_ :: _) 0 _ _
            refine f_v (fun wl hbl => by have hs := hs.below_ hbl; first | exact (r_move (v := iV _) rfl) | exact (r_move rfl)) ?_
            refine f_v (fun wl hbl => by have hs := hs.below_ hbl; first | exact (r_move (v := iV _) rfl) | exact (r_move rfl)) ?_
            refine f_v (fun wl hbl => by have hs := hs.below_ hbl; first | exact (r_indexAddr_a0 Tryd.underlying94 I71 rfl rfl (by omega)) | exact (r_indexAddr_a Tryd.underlying94 I71 rfl rfl (by omega))) ?_
            refine f_v (fun wl hbl => by have hs := hs.below_ hbl; exact (r_load_at (i := 0) hs rfl Tryd.underlying71 rfl (wc_at b k _))) ?_
            refine f_v (fun wl hbl => by have hs := hs.below_ hbl; exact (r_shl32 (b := 8) rfl rfl)) ?_
            refine f_v (fun wl hbl => by have hs := hs.below_ hbl; first | exact (r_move (v := iV _) rfl) | exact (r_move rfl)) ?_
            refine f_v (fun wl hbl => by have hs := hs.below_ hbl; exact (r_muli rfl rfl (by omega))) ?_
            refine f_v (fun wl hbl => by have hs := hs.below_ hbl; first | exact (r_move (v := iV _) rfl) | exact (r_move rfl)) ?_
            refine f_v (fun wl hbl => by have hs := hs.below_ hbl; exact (r_addi rfl rfl (by omega))) ?_
            refine f_v (fun wl hbl => by have hs := hs.below_ hbl; exact (r_indexAddr_a0 (k := 4 * k + j) Tryd.underlying86 I5 rfl rfl (by omega))) ?_
            refine f_v (fun wl hbl => by have hs := hs.below_ hbl; exact (r_load_at (i := 2) hs rfl Tryd.underlying5 rfl hv2)) ?_
            refine f_v (fun wl hbl => by have hs := hs.below_ hbl; exact (r_cv_832 Tryd.underlying5 Tryd.underlying71 rfl)) ?_
            refine f_v (fun wl hbl => by have hs := hs.below_ hbl; exact (r_or32 rfl rfl)) ?_
            refine f_nil ?_
            have hs := hs.below_ hbF
            show OkL _ _ _ _ (_ :: _) _ _
            refine l_v (by first | exact (r_indexAddr_a0 Tryd.underlying94 I71 rfl rfl (by omega)) | exact (r_indexAddr_a Tryd.underlying94 I71 rfl rfl (by omega))) ?_
            refine l_store (i := 0) (v := u32V _) hs rfl I71 rfl rfl (by rw [wc_len _ _ _ hk64]; exact hk64) ?_
            intro w9 hs
            refine l_nil (nrm_block (nrm_then ?_))
            refine c_region ?_
            refine l_v (r_addi rfl rfl (by omega)) ?_
            refine l_v (by first | exact (r_move (v := iV _) rfl) | exact (r_move rfl)) ?_
            refine l_nil (nrm_then ?_)
            refine And.intro (by refine ⟨?_, ?_, ?_, ?_, ?_, ?_, trivial⟩ <;> ((conv => lhs; whnf); (try conv => rhs; whnf))) ?_
            refine ⟨3 - j, by omega, j + 1, by omega, rfl, ?_⟩
            have e2 := wc_set b k (word b k j) (word b k (j + 1))
            rw [← e2]
            exact hs
          · replace h4 := of_decide_eq_false h4
            refine c_exit (ex_then (ex_then (ex_hit (nrm_then ?_))))
            refine c_exit (ex_then (ex_hit (nrm_then ?_)))
            refine c_region ?_
            refine l_v (r_addi rfl rfl (by omega)) ?_
            refine l_v (by first | exact (r_move (v := iV _) rfl) | exact (r_move rfl)) ?_
            refine l_nil (nrm_then ?_)
            obtain rfl : j = 4 := by omega
            refine And.intro (by refine ⟨?_, ?_, ?_, ?_, trivial⟩ <;> ((conv => lhs; whnf); (try conv => rhs; whnf))) ?_
            refine ⟨63 - k, by omega, k + 1, by omega, rfl, ?_⟩
            have e1 : nextW b (wl b k) = word b k 4 := by unfold nextW; rw [wl_length, if_pos (by omega)]
            rw [← wcs_next b k hk64, e1]
            exact hs
      · replace h16 := of_decide_eq_false h16
        refine c_skip (nrm_then ?_)
        refine c_seq ?_
        have hn : nextW b (wl b k) = (wl b k).getD (k - 16) 0 + s0 ((wl b k).getD (k - 15) 0) + (wl b k).getD (k - 7) 0 + s1 ((wl b k).getD (k - 2) 0) := by
          unfold nextW; rw [wl_length, if_neg (by omega)]
        refine c_float [] 9 (by kernel_rfl) (by kernel_rfl) ?_
        intro hbF
        show OkF _ _ _ _ _ _ (_ :: _) 0 _ _
        refine f_v (fun wl hbl => by have hs := hs.below_ hbl; first | exact (r_move (v := iV _) rfl) | exact (r_move rfl)) ?_
        refine f_v (fun wl hbl => by have hs := hs.below_ hbl; exact (r_subi rfl rfl (by omega))) ?_
        refine f_v (fun wl hbl => by have hs := hs.below_ hbl; exact (r_indexAddr_a0 (k := k - 15) Tryd.underlying94 I71 rfl (ivn (by omega)) (by omega))) ?_
        refine f_v (fun wl hbl => by have hs := hs.below_ hbl; exact (r_load_at (i := 0) hs rfl Tryd.underlying71 rfl (wc_old b k 0 (k - 15) (by omega)))) ?_
        refine f_v (fun wl hbl => by have hs := hs.below_ hbl; first | exact (r_move (v := iV _) rfl) | exact (r_move rfl)) ?_
        refine f_v (fun wl hbl => by have hs := hs.below_ hbl; exact (r_subi rfl rfl (by omega))) ?_
        refine f_v (fun wl hbl => by have hs := hs.below_ hbl; exact (r_indexAddr_a0 (k := k - 2) Tryd.underlying94 I71 rfl (ivn (by omega)) (by omega))) ?_
        refine f_v (fun wl hbl => by have hs := hs.below_ hbl; exact (r_load_at (i := 0) hs rfl Tryd.underlying71 rfl (wc_old b k 0 (k - 2) (by omega)))) ?_
        refine f_v (fun wl hbl => by have hs := hs.below_ hbl; first | exact (r_assign (v := u32V _) rfl) | exact (r_assign rfl)) ?_
        refine f_nil ?_
        have hs := hs.below_ hbF
        show OkL _ _ _ _ (_ :: _) _ _
        refine l_v (by first | exact (r_assign (v := u32V _) rfl) | exact (r_assign rfl)) ?_
        refine l_nil (nrm_then ?_)
        refine c_rseq ?_
        refine l_v (by first | exact (r_move (v := u32V _) rfl) | exact (r_move rfl)) ?_
        refine l_call (r_call Tryd.func51 rfl rfl) ?_
        refine Calls.mono (rot_c _ (-7) 7 _ (by decide) (by decide)) ?_
        rintro e w_ ⟨rfl, rfl⟩
        refine ⟨_, rfl, ?_⟩
        refine l_v (by first | exact (r_move (v := u32V _) rfl) | exact (r_move rfl)) ?_
        refine l_call (r_call Tryd.func51 rfl rfl) ?_
        refine Calls.mono (rot_c _ (-18) 18 _ (by decide) (by decide)) ?_
        rintro e w_ ⟨rfl, rfl⟩
        refine ⟨_, rfl, ?_⟩
        refine l_v (r_xor32 rfl rfl) ?_
        refine l_v (by first | exact (r_move (v := u32V _) rfl) | exact (r_move rfl)) ?_
        refine l_v (r_shr32 (b := 3) rfl rfl) ?_
        refine l_v (r_xor32 rfl rfl) ?_
        refine l_v (by first | exact (r_assign (v := u32V _) rfl) | exact (r_assign rfl)) ?_
        refine l_nil (nrm_then ?_)
        refine c_rseq ?_
        refine l_v (by first | exact (r_move (v := u32V _) rfl) | exact (r_move rfl)) ?_
        refine l_call (r_call Tryd.func51 rfl rfl) ?_
        refine Calls.mono (rot_c _ (-17) 17 _ (by decide) (by decide)) ?_
        rintro e w_ ⟨rfl, rfl⟩
        refine ⟨_, rfl, ?_⟩
        refine l_v (by first | exact (r_move (v := u32V _) rfl) | exact (r_move rfl)) ?_
        refine l_call (r_call Tryd.func51 rfl rfl) ?_
        refine Calls.mono (rot_c _ (-19) 19 _ (by decide) (by decide)) ?_
        rintro e w_ ⟨rfl, rfl⟩
        refine ⟨_, rfl, ?_⟩
        refine l_v (r_xor32 rfl rfl) ?_
        refine l_v (by first | exact (r_move (v := u32V _) rfl) | exact (r_move rfl)) ?_
        refine l_v (r_shr32 (b := 10) rfl rfl) ?_
        refine l_v (r_xor32 rfl rfl) ?_
        refine l_v (by first | exact (r_assign (v := u32V _) rfl) | exact (r_assign rfl)) ?_
        refine l_nil (nrm_then ?_)
        refine c_float [] 14 (by kernel_rfl) (by kernel_rfl) ?_
        intro hbF
        show OkF _ _ _ _ _ _ (_ :: _) 0 _ _
        refine f_v (fun wl hbl => by have hs := hs.below_ hbl; first | exact (r_move (v := iV _) rfl) | exact (r_move rfl)) ?_
        refine f_v (fun wl hbl => by have hs := hs.below_ hbl; first | exact (r_move (v := iV _) rfl) | exact (r_move rfl)) ?_
        refine f_v (fun wl hbl => by have hs := hs.below_ hbl; exact (r_subi rfl rfl (by omega))) ?_
        refine f_v (fun wl hbl => by have hs := hs.below_ hbl; exact (r_indexAddr_a0 (k := k - 16) Tryd.underlying94 I71 rfl (ivn (by omega)) (by omega))) ?_
        refine f_v (fun wl hbl => by have hs := hs.below_ hbl; exact (r_load_at (i := 0) hs rfl Tryd.underlying71 rfl (wc_old b k 0 (k - 16) (by omega)))) ?_
        refine f_v (fun wl hbl => by have hs := hs.below_ hbl; first | exact (r_move (v := u32V _) rfl) | exact (r_move rfl)) ?_
        refine f_v (fun wl hbl => by have hs := hs.below_ hbl; exact (r_add32 rfl rfl)) ?_
        refine f_v (fun wl hbl => by have hs := hs.below_ hbl; first | exact (r_move (v := iV _) rfl) | exact (r_move rfl)) ?_
        refine f_v (fun wl hbl => by have hs := hs.below_ hbl; exact (r_subi rfl rfl (by omega))) ?_
        refine f_v (fun wl hbl => by have hs := hs.below_ hbl; exact (r_indexAddr_a0 (k := k - 7) Tryd.underlying94 I71 rfl (ivn (by omega)) (by omega))) ?_
        refine f_v (fun wl hbl => by have hs := hs.below_ hbl; exact (r_load_at (i := 0) hs rfl Tryd.underlying71 rfl (wc_old b k 0 (k - 7) (by omega)))) ?_
        refine f_v (fun wl hbl => by have hs := hs.below_ hbl; exact (r_add32 rfl rfl)) ?_
        refine f_v (fun wl hbl => by have hs := hs.below_ hbl; first | exact (r_move (v := u32V _) rfl) | exact (r_move rfl)) ?_
        refine f_v (fun wl hbl => by have hs := hs.below_ hbl; exact (r_add32 rfl rfl)) ?_
        refine f_nil ?_
        have hs := hs.below_ hbF
        show OkL _ _ _ _ (_ :: _) _ _
        refine l_v (by first | exact (r_indexAddr_a0 Tryd.underlying94 I71 rfl rfl (by omega)) | exact (r_indexAddr_a Tryd.underlying94 I71 rfl rfl (by omega))) ?_
        refine l_store (i := 0) (v := u32V _) hs rfl I71 rfl rfl (by rw [wc_len _ _ _ hk64]; exact hk64) ?_
        intro w9 hs
        refine l_nil (nrm_block (nrm_then ?_))
        refine c_region ?_
        refine l_v (r_addi rfl rfl (by omega)) ?_
        refine l_v (by first | exact (r_move (v := iV _) rfl) | exact (r_move rfl)) ?_
        refine l_nil (nrm_then ?_)
        refine And.intro (by refine ⟨?_, ?_, ?_, ?_, trivial⟩ <;> ((conv => lhs; whnf); (try conv => rhs; whnf))) ?_
        refine ⟨63 - k, by omega, k + 1, by omega, rfl, ?_⟩
        rw [← wcs_next b k hk64, hn, ← wc_set b k 0]
        exact hs
    · replace h := of_decide_eq_false h
      refine c_exit (ex_then (ex_then (ex_hit (nrm_then ?_))))
      refine c_rseq ?_
      obtain rfl : k = 64 := by omega
      have e0 : wcs b 64 = (wl b 64).map u32V := rfl
      rw [e0] at hs
      have hml : mix s b = s.add (rnds (wl b 64) s 64) := rfl
      have hwl : ((wl b 64).map u32V).length = 64 := by rw [List.length_map, wl_length]
      have hwl0 : (wl b 64).length = 64 := wl_length b 64
      clear e0
      generalize wl b 64 = WL at *
      have hsl : (s.list.map u32V).length = 8 := (List.length_map u32V).trans (St_len s)
      refine l_v (by first | exact (r_load_whole (i := 0) hs rfl Tryd.underlying85 I85 rfl (by first | assumption | (simp; done))) | exact (r_load_whole (i := 1) hs rfl Tryd.underlying85 I85 rfl (by first | assumption | (simp; done))) | exact (r_load_whole (i := 2) hs rfl Tryd.underlying85 I85 rfl (by first | assumption | (simp; done))) | exact (r_load_whole (i := 3) hs rfl Tryd.underlying85 I85 rfl (by first | assumption | (simp; done))) | exact (r_load_whole (i := 4) hs rfl Tryd.underlying85 I85 rfl (by first | assumption | (simp; done))) | exact (r_load_whole (i := 5) hs rfl Tryd.underlying85 I85 rfl (by first | assumption | (simp; done))) | exact (r_load_whole (i := 6) hs rfl Tryd.underlying85 I85 rfl (by first | assumption | (simp; done)))) ?_
      refine l_alloc hs I85 ?_
      intro b10 w10 hs hB10 hlt10
      first | refine l_store_whole (i := 0) hs rfl I85 rfl rfl (by first | assumption | (simp; done)) (by first | assumption | (simp; done)) (by first | assumption | simp [Value.oneCell']) ?_ | refine l_store_whole (i := 1) hs rfl I85 rfl rfl (by first | assumption | (simp; done)) (by first | assumption | (simp; done)) (by first | assumption | simp [Value.oneCell']) ?_ | refine l_store_whole (i := 2) hs rfl I85 rfl rfl (by first | assumption | (simp; done)) (by first | assumption | (simp; done)) (by first | assumption | simp [Value.oneCell']) ?_ | refine l_store_whole (i := 3) hs rfl I85 rfl rfl (by first | assumption | (simp; done)) (by first | assumption | (simp; done)) (by first | assumption | simp [Value.oneCell']) ?_ | refine l_store_whole (i := 4) hs rfl I85 rfl rfl (by first | assumption | (simp; done)) (by first | assumption | (simp; done)) (by first | assumption | simp [Value.oneCell']) ?_ | refine l_store_whole (i := 5) hs rfl I85 rfl rfl (by first | assumption | (simp; done)) (by first | assumption | (simp; done)) (by first | assumption | simp [Value.oneCell']) ?_ | refine l_store_whole (i := 6) hs rfl I85 rfl rfl (by first | assumption | (simp; done)) (by first | assumption | (simp; done)) (by first | assumption | simp [Value.oneCell']) ?_
      intro w_ hs
      refine l_nil (nrm_then ?_)
      refine c_seq ?_
      refine c_rseq ?_
      refine l_v (r_load_whole (i := 1) hs rfl Tryd.underlying94 I94 rfl hwl) ?_
      refine l_v (by first | exact (r_move (v := iV _) rfl) | exact (r_move rfl)) ?_
      refine l_nil (nrm_then ?_)
      refine c_block ?_
      refine c_loopn [2, 4, 10, 82] (fun m f' w' => ∃ k, k + m = 64 ∧ f' 83 = iV (k : Int) ∧ Sep w w' [blk b10 ((rnds (WL) s k).list.map u32V) 85, blk b5 ((WL).map u32V) 94, blk b4 (List.replicate 8 (Value.int .u32 0)) 85, blk b3 (b.map u8V) 86, blk b2 (s.list.map u32V) 85]) ?_ ?_
      · exact ⟨64, 0, rfl, rfl, hs⟩
      · rintro m g w_ ⟨k, hk, h83, hs⟩
        refine OkC.env ?_ (fixH (L := [(83, _)]) ⟨h83, trivial⟩)
        clear h83
        refine c_rseq ?_
        refine l_v (r_lssi rfl rfl) ?_
        refine l_nil (nrm_then ?_)
        refine c_seq ?_
        refine c_cond rfl (fun h => ?_) (fun h => ?_)
        · replace h := of_decide_eq_true h
          refine c_skip (nrm_then ?_)
          refine c_seq ?_
          refine c_block ?_
          refine c_rseq ?_
          refine l_v (by first | exact (r_move (v := iV _) rfl) | exact (r_move rfl)) ?_
          generalize hS : rnds (WL) s k = S at *
          have hW : ((WL).map u32V)[k]? = some (u32V ((WL).getD k 0)) := getD_map32 _ _ (by omega)
          refine l_v (r_index_a Tryd.underlying94 I71 Tryd.underlying71 rfl rfl (by omega) hW) ?_
          refine l_v (by first | exact (r_assign (v := iV _) rfl) | exact (r_assign rfl)) ?_
          refine l_v (by first | exact (r_assign (v := u32V _) rfl) | exact (r_assign rfl)) ?_
          refine l_nil (nrm_then ?_)
          refine c_seq ?_
          refine c_float [] 5 (by kernel_rfl) (by kernel_rfl) ?_
          intro hbF
          show OkF _ _ _ _ _ _ (_ :: _) 0 _ _
          refine f_v (fun wl hbl => by have hs := hs.below_ hbl; first | exact (r_indexAddr_a0 (k := 4) Tryd.underlying85 I71 rfl rfl (by decide)) | exact (r_indexAddr_a (k := 4) Tryd.underlying85 I71 rfl rfl (by decide))) ?_
          refine f_v (fun wl hbl => by have hs := hs.below_ hbl; first | exact (r_load_at (i := 0) hs rfl Tryd.underlying71 rfl rfl) | exact (r_load_at (i := 1) hs rfl Tryd.underlying71 rfl rfl) | exact (r_load_at (i := 2) hs rfl Tryd.underlying71 rfl rfl) | exact (r_load_at (i := 3) hs rfl Tryd.underlying71 rfl rfl) | exact (r_load_at (i := 4) hs rfl Tryd.underlying71 rfl rfl) | exact (r_load_at (i := 5) hs rfl Tryd.underlying71 rfl rfl) | exact (r_load_at (i := 6) hs rfl Tryd.underlying71 rfl rfl)) ?_
          refine f_v (fun wl hbl => by have hs := hs.below_ hbl; first | exact (r_indexAddr_a0 (k := 0) Tryd.underlying85 I71 rfl rfl (by decide)) | exact (r_indexAddr_a (k := 0) Tryd.underlying85 I71 rfl rfl (by decide))) ?_
          refine f_v (fun wl hbl => by have hs := hs.below_ hbl; first | exact (r_load_at (i := 0) hs rfl Tryd.underlying71 rfl rfl) | exact (r_load_at (i := 1) hs rfl Tryd.underlying71 rfl rfl) | exact (r_load_at (i := 2) hs rfl Tryd.underlying71 rfl rfl) | exact (r_load_at (i := 3) hs rfl Tryd.underlying71 rfl rfl) | exact (r_load_at (i := 4) hs rfl Tryd.underlying71 rfl rfl) | exact (r_load_at (i := 5) hs rfl Tryd.underlying71 rfl rfl) | exact (r_load_at (i := 6) hs rfl Tryd.underlying71 rfl rfl)) ?_
          refine f_v (fun wl hbl => by have hs := hs.below_ hbl; first | exact (r_assign (v := u32V _) rfl) | exact (r_assign rfl)) ?_
          refine f_nil ?_
          have hs := hs.below_ hbF
          show OkL _ _ _ _ (_ :: _) _ _
          refine l_v (by first | exact (r_assign (v := u32V _) rfl) | exact (r_assign rfl)) ?_
          refine l_nil (nrm_then ?_)
          refine c_seq ?_
          have hgw : w_.heap[0]? = some (.cells (K.map u32V).toArray TK (0, 0)) := (hs.below.block 0 hw0).trans hg
          have hw1 : 0 < w_.heap.size := heap_lt hgw
          have hK : (K.map u32V)[k]? = some (u32V (K.getD k 0)) := getD_map32 _ _ (by show k < 64; omega)
          refine c_float [8, 5, 3] 27 (by kernel_rfl) (by kernel_rfl) ?_
          intro hbF
          show OkF _ _ _ _ _ _ (_ :: _) 0 _ _
          refine f_v (fun wl hbl => by have hs := hs.below_ hbl; first | exact (r_indexAddr_a0 (k := 7) Tryd.underlying85 I71 rfl rfl (by decide)) | exact (r_indexAddr_a (k := 7) Tryd.underlying85 I71 rfl rfl (by decide))) ?_
          refine f_v (fun wl hbl => by have hs := hs.below_ hbl; first | exact (r_load_at (i := 0) hs rfl Tryd.underlying71 rfl rfl) | exact (r_load_at (i := 1) hs rfl Tryd.underlying71 rfl rfl) | exact (r_load_at (i := 2) hs rfl Tryd.underlying71 rfl rfl) | exact (r_load_at (i := 3) hs rfl Tryd.underlying71 rfl rfl) | exact (r_load_at (i := 4) hs rfl Tryd.underlying71 rfl rfl) | exact (r_load_at (i := 5) hs rfl Tryd.underlying71 rfl rfl) | exact (r_load_at (i := 6) hs rfl Tryd.underlying71 rfl rfl)) ?_
          refine f_v (fun wl hbl => by have hs := hs.below_ hbl; first | exact (r_move (v := u32V _) rfl) | exact (r_move rfl)) ?_
          refine f_call (r_call Tryd.func51 rfl rfl) ?_
          refine Calls.mono (rot_c _ (-6) 6 _ (by decide) (by decide)) ?_
          rintro e w_ ⟨rfl, rfl⟩
          refine ⟨_, rfl, Below.refl _ _, ?_⟩
          refine f_v (fun wl hbl => by have hs := hs.below_ hbl; first | exact (r_move (v := u32V _) rfl) | exact (r_move rfl)) ?_
          refine f_call (r_call Tryd.func51 rfl rfl) ?_
          refine Calls.mono (rot_c _ (-11) 11 _ (by decide) (by decide)) ?_
          rintro e w_ ⟨rfl, rfl⟩
          refine ⟨_, rfl, Below.refl _ _, ?_⟩
          refine f_v (fun wl hbl => by have hs := hs.below_ hbl; exact (r_xor32 rfl rfl)) ?_
          refine f_v (fun wl hbl => by have hs := hs.below_ hbl; first | exact (r_move (v := u32V _) rfl) | exact (r_move rfl)) ?_
          refine f_call (r_call Tryd.func51 rfl rfl) ?_
          refine Calls.mono (rot_c _ (-25) 25 _ (by decide) (by decide)) ?_
          rintro e w_ ⟨rfl, rfl⟩
          refine ⟨_, rfl, Below.refl _ _, ?_⟩
          refine f_v (fun wl hbl => by have hs := hs.below_ hbl; exact (r_xor32 rfl rfl)) ?_
          refine f_v (fun wl hbl => by have hs := hs.below_ hbl; exact (r_add32 rfl rfl)) ?_
          refine f_v (fun wl hbl => by have hs := hs.below_ hbl; first | exact (r_move (v := u32V _) rfl) | exact (r_move rfl)) ?_
          refine f_v (fun wl hbl => by have hs := hs.below_ hbl; first | exact (r_indexAddr_a0 (k := 5) Tryd.underlying85 I71 rfl rfl (by decide)) | exact (r_indexAddr_a (k := 5) Tryd.underlying85 I71 rfl rfl (by decide))) ?_
          refine f_v (fun wl hbl => by have hs := hs.below_ hbl; first | exact (r_load_at (i := 0) hs rfl Tryd.underlying71 rfl rfl) | exact (r_load_at (i := 1) hs rfl Tryd.underlying71 rfl rfl) | exact (r_load_at (i := 2) hs rfl Tryd.underlying71 rfl rfl) | exact (r_load_at (i := 3) hs rfl Tryd.underlying71 rfl rfl) | exact (r_load_at (i := 4) hs rfl Tryd.underlying71 rfl rfl) | exact (r_load_at (i := 5) hs rfl Tryd.underlying71 rfl rfl) | exact (r_load_at (i := 6) hs rfl Tryd.underlying71 rfl rfl)) ?_
          refine f_v (fun wl hbl => by have hs := hs.below_ hbl; exact (r_and32 rfl rfl)) ?_
          refine f_v (fun wl hbl => by have hs := hs.below_ hbl; first | exact (r_move (v := u32V _) rfl) | exact (r_move rfl)) ?_
          refine f_v (fun wl hbl => by have hs := hs.below_ hbl; exact (r_not32 rfl)) ?_
          refine f_v (fun wl hbl => by have hs := hs.below_ hbl; first | exact (r_indexAddr_a0 (k := 6) Tryd.underlying85 I71 rfl rfl (by decide)) | exact (r_indexAddr_a (k := 6) Tryd.underlying85 I71 rfl rfl (by decide))) ?_
          refine f_v (fun wl hbl => by have hs := hs.below_ hbl; first | exact (r_load_at (i := 0) hs rfl Tryd.underlying71 rfl rfl) | exact (r_load_at (i := 1) hs rfl Tryd.underlying71 rfl rfl) | exact (r_load_at (i := 2) hs rfl Tryd.underlying71 rfl rfl) | exact (r_load_at (i := 3) hs rfl Tryd.underlying71 rfl rfl) | exact (r_load_at (i := 4) hs rfl Tryd.underlying71 rfl rfl) | exact (r_load_at (i := 5) hs rfl Tryd.underlying71 rfl rfl) | exact (r_load_at (i := 6) hs rfl Tryd.underlying71 rfl rfl)) ?_
          refine f_v (fun wl hbl => by have hs := hs.below_ hbl; exact (r_and32 rfl rfl)) ?_
          refine f_v (fun wl hbl => by have hs := hs.below_ hbl; exact (r_xor32 rfl rfl)) ?_
          refine f_v (fun wl hbl => by have hs := hs.below_ hbl; exact (r_add32 rfl rfl)) ?_
          refine f_v (fun wl hbl => by have hs := hs.below_ hbl; first | exact (r_move (v := iV _) rfl) | exact (r_move rfl)) ?_
          refine f_v (fun wl hbl => by have hs := hs.below_ hbl; first | exact (r_indexAddr_a0 Tryd.underlying94 I71 rfl rfl (by omega)) | exact (r_indexAddr_a Tryd.underlying94 I71 rfl rfl (by omega))) ?_
          refine f_v (fun wl hbl => by have hs := hs.below_ hbl; exact (r_load Tryd.underlying71 rfl ((cell_blk ((hbl.block 0 hw1).trans hgw)).trans hK))) ?_
          refine f_v (fun wl hbl => by have hs := hs.below_ hbl; exact (r_add32 rfl rfl)) ?_
          refine f_v (fun wl hbl => by have hs := hs.below_ hbl; first | exact (r_move (v := u32V _) rfl) | exact (r_move rfl)) ?_
          refine f_nil ?_
          have hs := hs.below_ hbF
          show OkL _ _ _ _ (_ :: _) _ _
          refine l_v (r_add32 rfl rfl) ?_
          refine l_v (by first | exact (r_assign (v := u32V _) rfl) | exact (r_assign rfl)) ?_
          refine l_nil (nrm_then ?_)
          refine c_seq ?_
          refine c_float [6, 3, 1] 23 (by kernel_rfl) (by kernel_rfl) ?_
          intro hbF
          show OkF _ _ _ _ _ _ (_ :: _) 0 _ _
          refine f_v (fun wl hbl => by have hs := hs.below_ hbl; first | exact (r_move (v := u32V _) rfl) | exact (r_move rfl)) ?_
          refine f_call (r_call Tryd.func51 rfl rfl) ?_
          refine Calls.mono (rot_c _ (-2) 2 _ (by decide) (by decide)) ?_
          rintro e w_ ⟨rfl, rfl⟩
          refine ⟨_, rfl, Below.refl _ _, ?_⟩
          refine f_v (fun wl hbl => by have hs := hs.below_ hbl; first | exact (r_move (v := u32V _) rfl) | exact (r_move rfl)) ?_
          refine f_call (r_call Tryd.func51 rfl rfl) ?_
          refine Calls.mono (rot_c _ (-13) 13 _ (by decide) (by decide)) ?_
          rintro e w_ ⟨rfl, rfl⟩
          refine ⟨_, rfl, Below.refl _ _, ?_⟩
          refine f_v (fun wl hbl => by have hs := hs.below_ hbl; exact (r_xor32 rfl rfl)) ?_
          refine f_v (fun wl hbl => by have hs := hs.below_ hbl; first | exact (r_move (v := u32V _) rfl) | exact (r_move rfl)) ?_
          refine f_call (r_call Tryd.func51 rfl rfl) ?_
          refine Calls.mono (rot_c _ (-22) 22 _ (by decide) (by decide)) ?_
          rintro e w_ ⟨rfl, rfl⟩
          refine ⟨_, rfl, Below.refl _ _, ?_⟩
          refine f_v (fun wl hbl => by have hs := hs.below_ hbl; exact (r_xor32 rfl rfl)) ?_
          refine f_v (fun wl hbl => by have hs := hs.below_ hbl; first | exact (r_move (v := u32V _) rfl) | exact (r_move rfl)) ?_
          refine f_v (fun wl hbl => by have hs := hs.below_ hbl; first | exact (r_indexAddr_a0 (k := 1) Tryd.underlying85 I71 rfl rfl (by decide)) | exact (r_indexAddr_a (k := 1) Tryd.underlying85 I71 rfl rfl (by decide))) ?_
          refine f_v (fun wl hbl => by have hs := hs.below_ hbl; first | exact (r_load_at (i := 0) hs rfl Tryd.underlying71 rfl rfl) | exact (r_load_at (i := 1) hs rfl Tryd.underlying71 rfl rfl) | exact (r_load_at (i := 2) hs rfl Tryd.underlying71 rfl rfl) | exact (r_load_at (i := 3) hs rfl Tryd.underlying71 rfl rfl) | exact (r_load_at (i := 4) hs rfl Tryd.underlying71 rfl rfl) | exact (r_load_at (i := 5) hs rfl Tryd.underlying71 rfl rfl) | exact (r_load_at (i := 6) hs rfl Tryd.underlying71 rfl rfl)) ?_
          refine f_v (fun wl hbl => by have hs := hs.below_ hbl; exact (r_and32 rfl rfl)) ?_
          refine f_v (fun wl hbl => by have hs := hs.below_ hbl; first | exact (r_move (v := u32V _) rfl) | exact (r_move rfl)) ?_
          refine f_v (fun wl hbl => by have hs := hs.below_ hbl; first | exact (r_indexAddr_a0 (k := 2) Tryd.underlying85 I71 rfl rfl (by decide)) | exact (r_indexAddr_a (k := 2) Tryd.underlying85 I71 rfl rfl (by decide))) ?_
          refine f_v (fun wl hbl => by have hs := hs.below_ hbl; first | exact (r_load_at (i := 0) hs rfl Tryd.underlying71 rfl rfl) | exact (r_load_at (i := 1) hs rfl Tryd.underlying71 rfl rfl) | exact (r_load_at (i := 2) hs rfl Tryd.underlying71 rfl rfl) | exact (r_load_at (i := 3) hs rfl Tryd.underlying71 rfl rfl) | exact (r_load_at (i := 4) hs rfl Tryd.underlying71 rfl rfl) | exact (r_load_at (i := 5) hs rfl Tryd.underlying71 rfl rfl) | exact (r_load_at (i := 6) hs rfl Tryd.underlying71 rfl rfl)) ?_
          refine f_v (fun wl hbl => by have hs := hs.below_ hbl; exact (r_and32 rfl rfl)) ?_
          refine f_v (fun wl hbl => by have hs := hs.below_ hbl; exact (r_xor32 rfl rfl)) ?_
          refine f_v (fun wl hbl => by have hs := hs.below_ hbl; first | exact (r_indexAddr_a0 (k := 1) Tryd.underlying85 I71 rfl rfl (by decide)) | exact (r_indexAddr_a (k := 1) Tryd.underlying85 I71 rfl rfl (by decide))) ?_
          refine f_v (fun wl hbl => by have hs := hs.below_ hbl; first | exact (r_load_at (i := 0) hs rfl Tryd.underlying71 rfl rfl) | exact (r_load_at (i := 1) hs rfl Tryd.underlying71 rfl rfl) | exact (r_load_at (i := 2) hs rfl Tryd.underlying71 rfl rfl) | exact (r_load_at (i := 3) hs rfl Tryd.underlying71 rfl rfl) | exact (r_load_at (i := 4) hs rfl Tryd.underlying71 rfl rfl) | exact (r_load_at (i := 5) hs rfl Tryd.underlying71 rfl rfl) | exact (r_load_at (i := 6) hs rfl Tryd.underlying71 rfl rfl)) ?_
          refine f_v (fun wl hbl => by have hs := hs.below_ hbl; first | exact (r_indexAddr_a0 (k := 2) Tryd.underlying85 I71 rfl rfl (by decide)) | exact (r_indexAddr_a (k := 2) Tryd.underlying85 I71 rfl rfl (by decide))) ?_
          refine f_v (fun wl hbl => by have hs := hs.below_ hbl; first | exact (r_load_at (i := 0) hs rfl Tryd.underlying71 rfl rfl) | exact (r_load_at (i := 1) hs rfl Tryd.underlying71 rfl rfl) | exact (r_load_at (i := 2) hs rfl Tryd.underlying71 rfl rfl) | exact (r_load_at (i := 3) hs rfl Tryd.underlying71 rfl rfl) | exact (r_load_at (i := 4) hs rfl Tryd.underlying71 rfl rfl) | exact (r_load_at (i := 5) hs rfl Tryd.underlying71 rfl rfl) | exact (r_load_at (i := 6) hs rfl Tryd.underlying71 rfl rfl)) ?_
          refine f_v (fun wl hbl => by have hs := hs.below_ hbl; exact (r_and32 rfl rfl)) ?_
          refine f_v (fun wl hbl => by have hs := hs.below_ hbl; exact (r_xor32 rfl rfl)) ?_
          refine f_nil ?_
          have hs := hs.below_ hbF
          show OkL _ _ _ _ (_ :: _) _ _
          refine l_v (r_add32 rfl rfl) ?_
          refine l_v (by first | exact (r_assign (v := u32V _) rfl) | exact (r_assign rfl)) ?_
          refine l_nil (nrm_then ?_)
          refine c_region ?_
          refine l_v (by first | exact (r_move (v := u32V _) rfl) | exact (r_move rfl)) ?_
          refine l_v (by first | exact (r_move (v := u32V _) rfl) | exact (r_move rfl)) ?_
          refine l_v (r_add32 rfl rfl) ?_
          refine l_v (by first | exact (r_move (v := u32V _) rfl) | exact (r_move rfl)) ?_
          refine l_v (by first | exact (r_indexAddr_a0 (k := 1) Tryd.underlying85 I71 rfl rfl (by decide)) | exact (r_indexAddr_a (k := 1) Tryd.underlying85 I71 rfl rfl (by decide))) ?_
          refine l_v (by first | exact (r_load_at (i := 0) hs rfl Tryd.underlying71 rfl rfl) | exact (r_load_at (i := 1) hs rfl Tryd.underlying71 rfl rfl) | exact (r_load_at (i := 2) hs rfl Tryd.underlying71 rfl rfl) | exact (r_load_at (i := 3) hs rfl Tryd.underlying71 rfl rfl) | exact (r_load_at (i := 4) hs rfl Tryd.underlying71 rfl rfl) | exact (r_load_at (i := 5) hs rfl Tryd.underlying71 rfl rfl) | exact (r_load_at (i := 6) hs rfl Tryd.underlying71 rfl rfl)) ?_
          refine l_v (by first | exact (r_indexAddr_a0 (k := 2) Tryd.underlying85 I71 rfl rfl (by decide)) | exact (r_indexAddr_a (k := 2) Tryd.underlying85 I71 rfl rfl (by decide))) ?_
          refine l_v (by first | exact (r_load_at (i := 0) hs rfl Tryd.underlying71 rfl rfl) | exact (r_load_at (i := 1) hs rfl Tryd.underlying71 rfl rfl) | exact (r_load_at (i := 2) hs rfl Tryd.underlying71 rfl rfl) | exact (r_load_at (i := 3) hs rfl Tryd.underlying71 rfl rfl) | exact (r_load_at (i := 4) hs rfl Tryd.underlying71 rfl rfl) | exact (r_load_at (i := 5) hs rfl Tryd.underlying71 rfl rfl) | exact (r_load_at (i := 6) hs rfl Tryd.underlying71 rfl rfl)) ?_
          refine l_v (by first | exact (r_indexAddr_a0 (k := 3) Tryd.underlying85 I71 rfl rfl (by decide)) | exact (r_indexAddr_a (k := 3) Tryd.underlying85 I71 rfl rfl (by decide))) ?_
          refine l_v (by first | exact (r_load_at (i := 0) hs rfl Tryd.underlying71 rfl rfl) | exact (r_load_at (i := 1) hs rfl Tryd.underlying71 rfl rfl) | exact (r_load_at (i := 2) hs rfl Tryd.underlying71 rfl rfl) | exact (r_load_at (i := 3) hs rfl Tryd.underlying71 rfl rfl) | exact (r_load_at (i := 4) hs rfl Tryd.underlying71 rfl rfl) | exact (r_load_at (i := 5) hs rfl Tryd.underlying71 rfl rfl) | exact (r_load_at (i := 6) hs rfl Tryd.underlying71 rfl rfl)) ?_
          refine l_v (by first | exact (r_move (v := u32V _) rfl) | exact (r_move rfl)) ?_
          refine l_v (r_add32 rfl rfl) ?_
          refine l_v (by first | exact (r_move (v := u32V _) rfl) | exact (r_move rfl)) ?_
          refine l_v (by first | exact (r_indexAddr_a0 (k := 5) Tryd.underlying85 I71 rfl rfl (by decide)) | exact (r_indexAddr_a (k := 5) Tryd.underlying85 I71 rfl rfl (by decide))) ?_
          refine l_v (by first | exact (r_load_at (i := 0) hs rfl Tryd.underlying71 rfl rfl) | exact (r_load_at (i := 1) hs rfl Tryd.underlying71 rfl rfl) | exact (r_load_at (i := 2) hs rfl Tryd.underlying71 rfl rfl) | exact (r_load_at (i := 3) hs rfl Tryd.underlying71 rfl rfl) | exact (r_load_at (i := 4) hs rfl Tryd.underlying71 rfl rfl) | exact (r_load_at (i := 5) hs rfl Tryd.underlying71 rfl rfl) | exact (r_load_at (i := 6) hs rfl Tryd.underlying71 rfl rfl)) ?_
          refine l_v (by first | exact (r_indexAddr_a0 (k := 6) Tryd.underlying85 I71 rfl rfl (by decide)) | exact (r_indexAddr_a (k := 6) Tryd.underlying85 I71 rfl rfl (by decide))) ?_
          refine l_v (by first | exact (r_load_at (i := 0) hs rfl Tryd.underlying71 rfl rfl) | exact (r_load_at (i := 1) hs rfl Tryd.underlying71 rfl rfl) | exact (r_load_at (i := 2) hs rfl Tryd.underlying71 rfl rfl) | exact (r_load_at (i := 3) hs rfl Tryd.underlying71 rfl rfl) | exact (r_load_at (i := 4) hs rfl Tryd.underlying71 rfl rfl) | exact (r_load_at (i := 5) hs rfl Tryd.underlying71 rfl rfl) | exact (r_load_at (i := 6) hs rfl Tryd.underlying71 rfl rfl)) ?_
          refine l_v (r_build_a1 [u32V _, u32V _, u32V _, u32V _, u32V _, u32V _, u32V _, u32V _] Tryd.underlying85 I71 I85 rfl (by simp [Value.oneCell']) rfl) ?_
          first | refine l_store_whole (i := 0) hs rfl I85 rfl rfl (by first | assumption | (simp; done)) (by first | assumption | (simp; done)) (by first | assumption | simp [Value.oneCell']) ?_ | refine l_store_whole (i := 1) hs rfl I85 rfl rfl (by first | assumption | (simp; done)) (by first | assumption | (simp; done)) (by first | assumption | simp [Value.oneCell']) ?_ | refine l_store_whole (i := 2) hs rfl I85 rfl rfl (by first | assumption | (simp; done)) (by first | assumption | (simp; done)) (by first | assumption | simp [Value.oneCell']) ?_ | refine l_store_whole (i := 3) hs rfl I85 rfl rfl (by first | assumption | (simp; done)) (by first | assumption | (simp; done)) (by first | assumption | simp [Value.oneCell']) ?_ | refine l_store_whole (i := 4) hs rfl I85 rfl rfl (by first | assumption | (simp; done)) (by first | assumption | (simp; done)) (by first | assumption | simp [Value.oneCell']) ?_ | refine l_store_whole (i := 5) hs rfl I85 rfl rfl (by first | assumption | (simp; done)) (by first | assumption | (simp; done)) (by first | assumption | simp [Value.oneCell']) ?_ | refine l_store_whole (i := 6) hs rfl I85 rfl rfl (by first | assumption | (simp; done)) (by first | assumption | (simp; done)) (by first | assumption | simp [Value.oneCell']) ?_
          intro w_ hs
          refine l_nil (nrm_block (nrm_then ?_))
          refine c_region ?_
          refine l_v (r_addi rfl rfl (by omega)) ?_
          refine l_v (by first | exact (r_move (v := iV _) rfl) | exact (r_move rfl)) ?_
          refine l_nil (nrm_then ?_)
          refine And.intro (by refine ⟨?_, ?_, ?_, ?_, trivial⟩ <;> ((conv => lhs; whnf); (try conv => rhs; whnf))) ?_
          refine ⟨63 - k, by omega, k + 1, by omega, rfl, ?_⟩
          rw [rnds, hS]
          exact hs
        · replace h := of_decide_eq_false h
          refine c_exit (ex_then (ex_then (ex_hit (nrm_then ?_))))
          refine c_seq ?_
          refine c_rseq ?_
          refine l_v (by first | exact (r_move (v := iV _) rfl) | exact (r_move rfl)) ?_
          refine l_nil (nrm_then ?_)
          refine c_block ?_
          obtain rfl : k = 64 := by omega
          generalize hR : rnds WL s 64 = R at *
          have hu0 := upto_0 s.list R.list
          have hls := St_len s
          have hlr := (St_len s).trans (St_len R).symm
          rw [← hu0] at hs
          refine c_loopn [2, 4, 10] (fun m f' w' => ∃ k, k + m = 8 ∧ f' 162 = iV (k : Int) ∧ Sep w w' [blk b10 (R.list.map u32V) 85, blk b5 (WL.map u32V) 94, blk b4 (List.replicate 8 (Value.int .u32 0)) 85, blk b3 (b.map u8V) 86, blk b2 (upto s.list R.list k) 85]) ?_ ?_
          · exact ⟨8, 0, rfl, rfl, hs⟩
          · rintro m g w_ ⟨k, hk, h162, hs⟩
            refine OkC.env ?_ (fixH (L := [(162, _)]) ⟨h162, trivial⟩)
            clear h162
            refine c_rseq ?_
            refine l_v (r_lssi rfl rfl) ?_
            refine l_nil (nrm_then ?_)
            refine c_seq ?_
            refine c_cond rfl (fun h8 => ?_) (fun h8 => ?_)
            · replace h8 := of_decide_eq_true h8
              refine c_skip (nrm_then ?_)
              refine c_seq ?_
              refine c_block ?_
              refine c_rseq ?_
              refine l_v (by first | exact (r_move (v := iV _) rfl) | exact (r_move rfl)) ?_
              refine l_v (by first | exact (r_assign (v := iV _) rfl) | exact (r_assign rfl)) ?_
              refine l_nil (nrm_then ?_)
              have hup := upto_at s.list R.list k hlr (by omega)
              refine c_float [] 6 (by kernel_rfl) (by kernel_rfl) ?_
              intro hbF
              show OkF _ _ _ _ _ _ (_ :: _) 0 _ _
              refine f_v (fun wl hbl => by have hs := hs.below_ hbl; first | exact (r_move (v := iV _) rfl) | exact (r_move rfl)) ?_
              refine f_v (fun wl hbl => by have hs := hs.below_ hbl; first | exact (r_indexAddr_a0 Tryd.underlying85 I71 rfl rfl (by omega)) | exact (r_indexAddr_a Tryd.underlying85 I71 rfl rfl (by omega))) ?_
              refine f_v (fun wl hbl => by have hs := hs.below_ hbl; exact (r_load_at (i := 4) hs rfl Tryd.underlying71 rfl hup.1)) ?_
              refine f_v (fun wl hbl => by have hs := hs.below_ hbl; first | exact (r_move (v := iV _) rfl) | exact (r_move rfl)) ?_
              refine f_v (fun wl hbl => by have hs := hs.below_ hbl; first | exact (r_indexAddr_a0 Tryd.underlying85 I71 rfl rfl (by omega)) | exact (r_indexAddr_a Tryd.underlying85 I71 rfl rfl (by omega))) ?_
              refine f_v (fun wl hbl => by have hs := hs.below_ hbl; exact (r_load_at (i := 0) hs rfl Tryd.underlying71 rfl (getD_map32 _ _ (by show k < 8; omega)))) ?_
              refine f_nil ?_
              have hs := hs.below_ hbF
              show OkL _ _ _ _ (_ :: _) _ _
              refine l_v (r_add32 rfl rfl) ?_
              refine l_v (by first | exact (r_indexAddr_a0 Tryd.underlying85 I71 rfl rfl (by omega)) | exact (r_indexAddr_a Tryd.underlying85 I71 rfl rfl (by omega))) ?_
              refine l_store (i := 4) (v := u32V _) hs rfl I71 rfl rfl (by rw [hup.2.2]; omega) ?_
              intro w9 hs
              refine l_nil (nrm_block (nrm_then ?_))
              refine c_region ?_
              refine l_v (r_addi rfl rfl (by omega)) ?_
              refine l_v (by first | exact (r_move (v := iV _) rfl) | exact (r_move rfl)) ?_
              refine l_nil (nrm_then ?_)
              refine And.intro (by refine ⟨?_, ?_, ?_, trivial⟩ <;> ((conv => lhs; whnf); (try conv => rhs; whnf))) ?_
              refine ⟨7 - k, by omega, k + 1, by omega, rfl, ?_⟩
              rw [← hup.2.1]
              exact hs
            · replace h8 := of_decide_eq_false h8
              refine c_exit (ex_then (ex_then (ex_hit (nrm_then ?_))))
              refine c_rseq ?_
              obtain rfl : k = 8 := by omega
              have hu8 : upto s.list R.list 8 = (mix s b).list.map u32V := by rw [hml]; exact upto_8 s R
              rw [hu8] at hs
              clear hu8 hu0 hml
              generalize mix s b = X at *
              have hm8 : (X.list.map u32V).length = 8 := (List.length_map u32V).trans (St_len X)
              have h08 : (List.replicate 8 (Value.int .u32 0)).length = 8 := List.length_replicate
              refine l_v (r_load_whole (i := 4) hs rfl Tryd.underlying85 I85 rfl hm8) ?_
              refine l_store_whole (i := 2) hs rfl I85 rfl rfl hm8 h08 (one_u32 X.list) ?_
              intro w_ hs
              refine l_nil (nrm_then ?_)
              refine c_ret ?_
              show Fin _ _ _ _ _
              refine fin1c rfl rfl (run_loadVar_agg Tryd.underlying85 rfl I85 hm8 (cells_whole (hs.at_ 2).1)) ?_
              exact ⟨rfl, hs.below⟩
end Go.Proofs.YtbimboibllboeaaDoor.Sha
