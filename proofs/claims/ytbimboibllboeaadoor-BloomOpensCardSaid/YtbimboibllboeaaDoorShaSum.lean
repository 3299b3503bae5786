/- The walks of Sum's closure and of Sum. -/
import Derived.Test.YtbimboibllboeaaDoorShaMix
import Derived.Test.YtbimboibllboeaaDoorShaAcc
namespace Go.Proofs.YtbimboibllboeaaDoor.Sha
open Go Go.RowKit Go.Proofs.YtbimboibllboeaaDoor.Eng
set_option linter.unusedVariables false
set_option maxRecDepth 100000
def pV (b : Nat) : Value := .pointer (some ⟨b, 0, none⟩)
def bB (b : Nat) (l : List UInt8) : HP := blk b (l.map u8V) 86
def bN (b : Nat) (n : Nat) : HP := blk b [iV (n : Int)] 3
def bH (b : Nat) (s : St) : HP := blk b (s.list.map u32V) 85
def Ok0 (w : World) : Prop := ∃ T, w.heap[0]? = some (.cells (K.map u32V).toArray T (0, 0))
theorem Ok0.sep {w0 w : World} {L : List HP} (h : Ok0 w0) (hs : Sep w0 w L) : Ok0 w := let ⟨T, h⟩ := h; ⟨T, (hs.below.block 0 (heap_lt h)).trans h⟩
set_option maxHeartbeats 1000000 in
theorem add_c (c : UInt8) (pb pn ph : Nat) (a : Acc) (hbb : a.bb.length = 64) (hn : a.n < 64) (w0 w : World) (R : List HP) (h0 : Ok0 w0)
    (hs : Sep w0 w (bN pn a.n :: bB pb a.bb :: bH ph a.h :: R)) :
    Calls Tryd.prog 45 #[u8V c, pV pb, pV pn, pV ph] w fun e w' => e = .returned (.tuple #[]) ∧ Sep w0 w' (bN pn (a.add c).n :: bB pb (a.add c).bb :: bH ph (a.add c).h :: R) := by
  obtain ⟨bb, n, h⟩ := a
  unfold Acc.add
  generalize hX : mix h (bb.set n c) = X
  dsimp only at *
  unfold bB bN bH at hs
  refine enter (P := Tryd.prog) Tryd.func45 rfl rfl ?_
  refine c_rseq ?_
  refine l_v (by first | exact (r_load_at (i := 0) hs rfl Tryd.underlying3 rfl rfl) | exact (r_load_at (i := 1) hs rfl Tryd.underlying3 rfl rfl) | exact (r_load_at (i := 2) hs rfl Tryd.underlying3 rfl rfl) | exact (r_load_at (i := 3) hs rfl Tryd.underlying3 rfl rfl) | exact (r_load_at (i := 4) hs rfl Tryd.underlying3 rfl rfl) | exact (r_load_at (i := 5) hs rfl Tryd.underlying3 rfl rfl) | exact (r_load_at (i := 6) hs rfl Tryd.underlying3 rfl rfl)) ?_
  refine l_v (by first | exact (r_move (v := u8V _) rfl) | exact (r_move rfl)) ?_
  refine l_v (by first | exact (r_indexAddr_a0 Tryd.underlying86 I5 rfl rfl (by omega)) | exact (r_indexAddr_a Tryd.underlying86 I5 rfl rfl (by omega))) ?_
  refine l_store (i := 1) (v := u8V c) hs rfl I5 rfl rfl (by rw [List.length_map]; omega) ?_
  intro w9 hs
  have hs : Sep w0 w9 (blk pn [iV (n : Int)] 3 :: blk pb ((bb.set n c).map u8V) 86 :: blk ph (h.list.map u32V) 85 :: R) := by rw [List.map_set]; exact hs
  refine l_nil (nrm_then ?_)
  refine c_rseq ?_
  refine l_v (by first | exact (r_load_at (i := 0) hs rfl Tryd.underlying3 rfl rfl) | exact (r_load_at (i := 1) hs rfl Tryd.underlying3 rfl rfl) | exact (r_load_at (i := 2) hs rfl Tryd.underlying3 rfl rfl) | exact (r_load_at (i := 3) hs rfl Tryd.underlying3 rfl rfl) | exact (r_load_at (i := 4) hs rfl Tryd.underlying3 rfl rfl) | exact (r_load_at (i := 5) hs rfl Tryd.underlying3 rfl rfl) | exact (r_load_at (i := 6) hs rfl Tryd.underlying3 rfl rfl)) ?_
  refine l_v (r_addi rfl rfl (by omega)) ?_
  first | refine l_store (i := 0) (v := iV _) hs rfl I3 rfl rfl (by first | (simp; done) | (simp; omega) | omega) ?_ | refine l_store (i := 1) (v := iV _) hs rfl I3 rfl rfl (by first | (simp; done) | (simp; omega) | omega) ?_ | refine l_store (i := 2) (v := iV _) hs rfl I3 rfl rfl (by first | (simp; done) | (simp; omega) | omega) ?_ | refine l_store (i := 3) (v := iV _) hs rfl I3 rfl rfl (by first | (simp; done) | (simp; omega) | omega) ?_ | refine l_store (i := 4) (v := iV _) hs rfl I3 rfl rfl (by first | (simp; done) | (simp; omega) | omega) ?_ | refine l_store (i := 5) (v := iV _) hs rfl I3 rfl rfl (by first | (simp; done) | (simp; omega) | omega) ?_ | refine l_store (i := 6) (v := iV _) hs rfl I3 rfl rfl (by first | (simp; done) | (simp; omega) | omega) ?_
  intro w_ hs
  refine l_nil (nrm_then ?_)
  refine c_rseq ?_
  refine l_v (by first | exact (r_load_at (i := 0) hs rfl Tryd.underlying3 rfl rfl) | exact (r_load_at (i := 1) hs rfl Tryd.underlying3 rfl rfl) | exact (r_load_at (i := 2) hs rfl Tryd.underlying3 rfl rfl) | exact (r_load_at (i := 3) hs rfl Tryd.underlying3 rfl rfl) | exact (r_load_at (i := 4) hs rfl Tryd.underlying3 rfl rfl) | exact (r_load_at (i := 5) hs rfl Tryd.underlying3 rfl rfl) | exact (r_load_at (i := 6) hs rfl Tryd.underlying3 rfl rfl)) ?_
  refine l_v (r_eqli rfl rfl) ?_
  refine l_nil (nrm_then ?_)
  refine c_cond rfl (fun h64 => ?_) (fun h64 => ?_)
  · have hb64 : (bb.set n c).length = 64 := by rw [List.length_set]; exact hbb
    have hb64' : ((bb.set n c).map u8V).length = 64 := by rw [List.length_map]; exact hb64
    have hm8 : (h.list.map u32V).length = 8 := (List.length_map u32V).trans (St_len h)
    have hX8 : (X.list.map u32V).length = 8 := (List.length_map u32V).trans (St_len X)
    replace h64 := of_decide_eq_true h64
    refine c_rseq ?_
    refine l_v (r_load_whole (i := 2) hs rfl Tryd.underlying85 I85 rfl hm8) ?_
    refine l_v (r_load_whole (i := 1) hs rfl Tryd.underlying86 I86 rfl hb64') ?_
    refine l_call (r_call Tryd.func46 rfl rfl) ?_
    refine Calls.mono (mixed_c h (bb.set n c) hb64 _ (h0.sep hs)) ?_
    rintro e w_ ⟨rfl, hb⟩
    refine ⟨_, rfl, ?_⟩
    have hs := hs.below_ hb
    rw [hX]
    refine l_store_whole (i := 2) hs rfl I85 rfl rfl hX8 hm8 (one_u32 X.list) ?_
    intro w8 hs
    refine l_nil (nrm_then ?_)
    refine c_region ?_
    first | refine l_store (i := 0) (v := iV _) hs rfl I3 rfl rfl (by first | (simp; done) | (simp; omega) | omega) ?_ | refine l_store (i := 1) (v := iV _) hs rfl I3 rfl rfl (by first | (simp; done) | (simp; omega) | omega) ?_ | refine l_store (i := 2) (v := iV _) hs rfl I3 rfl rfl (by first | (simp; done) | (simp; omega) | omega) ?_ | refine l_store (i := 3) (v := iV _) hs rfl I3 rfl rfl (by first | (simp; done) | (simp; omega) | omega) ?_ | refine l_store (i := 4) (v := iV _) hs rfl I3 rfl rfl (by first | (simp; done) | (simp; omega) | omega) ?_ | refine l_store (i := 5) (v := iV _) hs rfl I3 rfl rfl (by first | (simp; done) | (simp; omega) | omega) ?_ | refine l_store (i := 6) (v := iV _) hs rfl I3 rfl rfl (by first | (simp; done) | (simp; omega) | omega) ?_
    intro w_ hs
    refine l_nil ?_
    show Fin _ _ _ _ _
    refine fin0 rfl ?_
    rw [if_pos (show n + 1 = 64 by omega)]
    exact ⟨rfl, hs⟩
  · replace h64 := of_decide_eq_false h64
    refine c_skip ?_
    show Fin _ _ _ _ _
    refine fin0 rfl ?_
    rw [if_neg (show ¬ n + 1 = 64 by omega)]
    exact ⟨rfl, hs⟩
/-- What Sum owns. -/
def own (b5 b4 b3 b2 : Nat) (a : Acc) : List HP := [bN b5 a.n, bB b4 a.bb, bH b3 a.h, blk b2 (List.replicate 32 (Value.int .u8 0)) 68]
theorem own_add {c : UInt8} {b5 b4 b3 b2 : Nat} {a : Acc} {l : List UInt8} (g : G l a) {w0 w : World} (h0 : Ok0 w0) (hs : Sep w0 w (own b5 b4 b3 b2 a)) :
    Calls Tryd.prog 45 #[u8V c, pV b4, pV b5, pV b3] w fun e w' => e = .returned (.tuple #[]) ∧ Sep w0 w' (own b5 b4 b3 b2 (a.add c)) ∧ G (l ++ [c]) (a.add c) :=
  (add_c c b4 b5 b3 a g.len g.lt w0 w _ h0 hs).mono fun e w' ⟨h1, h2⟩ => ⟨h1, h2, g.add c⟩
theorem flat_next (ps : List ByteArray) (k : Nat) (h : k < ps.length) : (ps.take (k + 1)).flatMap toL = (ps.take k).flatMap toL ++ toL ps[k] := by
  rw [List.take_succ_eq_append_getElem h, List.flatMap_append]; simp only [List.flatMap_cons, List.flatMap_nil, List.append_nil]
theorem byte_next (s : ByteArray) (j : Nat) (h : j < s.size) : (toL s).take (j + 1) = (toL s).take j ++ [at8 s j] := by
  have hl : (toL s).length = s.size := by rw [Array.length_toList]; rfl
  rw [List.take_succ_eq_append_getElem (by omega)]
  show _ = _ ++ [(toL s).getD j 0]
  rw [List.getD_eq_getElem?_getD, List.getElem?_eq_getElem (by omega)]; rfl
theorem size_next (a b : Nat) : BitVec.ofNat 64 a + BitVec.ofInt 64 (b : Int) = BitVec.ofNat 64 (a + b) := by rw [BitVec.ofInt_natCast, ← BitVec.ofNat_add]
def outB (s : St) (n : Nat) : List UInt8 := (s.list.flatMap be).take n ++ List.replicate (32 - n) 0
theorem flat_len (s : St) : (s.list.flatMap be).length = 32 := rfl
theorem out_byte (s : St) (k j : Nat) (hk : k < 8) (hj : j < 4) : (s.list.flatMap be).getD (4 * k + j) 0 = UInt8.ofNat (s.list.getD k 0 >>> (24 - 8 * j)).toNat := by
  have h1 : k = 0 ∨ k = 1 ∨ k = 2 ∨ k = 3 ∨ k = 4 ∨ k = 5 ∨ k = 6 ∨ k = 7 := by omega
  have h2 : j = 0 ∨ j = 1 ∨ j = 2 ∨ j = 3 := by omega
  rcases h1 with rfl | rfl | rfl | rfl | rfl | rfl | rfl | rfl <;> rcases h2 with rfl | rfl | rfl | rfl <;> rfl
theorem out_set (s : St) (n : Nat) (h : n < 32) : (outB s n).set n ((s.list.flatMap be).getD n 0) = outB s (n + 1) := by
  have hf := flat_len s
  unfold outB
  generalize s.list.flatMap be = D at *
  have ht : (D.take n).length = n := by rw [List.length_take]; omega
  rw [List.set_append_right _ _ (by omega), ht, List.take_succ_eq_append_getElem (by omega), List.getD_eq_getElem?_getD, List.getElem?_eq_getElem (by omega)]
  obtain ⟨r, hr⟩ : ∃ r, 32 - n = r + 1 := ⟨31 - n, by omega⟩
  rw [hr, show 32 - (n + 1) = r by omega, List.replicate_succ]
  simp only [Nat.sub_self, List.set_cons_zero, List.append_assoc, List.cons_append, List.nil_append, Option.getD_some]
theorem out_len (s : St) (n : Nat) (h : n ≤ 32) : (outB s n).length = 32 := by
  have hf := flat_len s
  unfold outB
  rw [List.length_append, List.length_take, List.length_replicate]; omega
theorem out_all (s : St) : outB s 32 = s.list.flatMap be := by
  unfold outB; rw [List.take_of_length_le (by rw [flat_len]; omega)]; simp
theorem one_u8 (l : List UInt8) : ∀ v ∈ l.map u8V, v.oneCell' = true := by
  intro v hv
  obtain ⟨x, _, rfl⟩ := List.mem_map.1 hv
  rfl
def bytes8 (n : Nat) (i : Nat) : List UInt8 := (List.range i).map (fun i => UInt8.ofNat (n * 8 / 2 ^ (56 - 8 * i)))
theorem bytes8_next (n i : Nat) : bytes8 n (i + 1) = bytes8 n i ++ [UInt8.ofNat (n * 8 / 2 ^ (56 - 8 * i))] := by unfold bytes8; rw [List.range_succ]; simp
set_option maxHeartbeats 4000000 in
theorem sum_c (ps : List ByteArray) (A : Option Addr) (c : Nat) (w : World) (h0 : Ok0 w) (hr : Rd w 1 A ps.length (ps.map sV)) (hz : ∀ s ∈ ps, s.size ≤ 9223372036854775807) :
    Calls Tryd.prog 34 #[.slice A ps.length c] w fun e w' => e = .returned (.agg ((digest (ps.flatMap toL)).map u8V).toArray) ∧ Below w.heap.size w w' := by
  have hn := hr.2.1
  refine enter (P := Tryd.prog) Tryd.func34 rfl rfl ?_
  have hs := Sep.init w
  refine c_rseq ?_
  refine l_alloc hs I68 ?_
  intro b2 w2 hs hB2 hlt2
  refine l_nil (nrm_then ?_)
  refine c_rseq ?_
  refine l_v (r_build_a1 [u32V 1779033703, u32V 3144134277, u32V 1013904242, u32V 2773480762, u32V 1359893119, u32V 2600822924, u32V 528734635, u32V 1541459225] Tryd.underlying85 I71 I85 rfl (by simp [Value.oneCell']) rfl) ?_
  refine l_alloc hs I85 ?_
  intro b3 w3 hs hB3 hlt3
  first | refine l_store_whole (i := 0) hs rfl I85 rfl rfl (by first | assumption | (simp; done)) (by first | assumption | (simp; done)) (by first | assumption | simp [Value.oneCell']) ?_ | refine l_store_whole (i := 1) hs rfl I85 rfl rfl (by first | assumption | (simp; done)) (by first | assumption | (simp; done)) (by first | assumption | simp [Value.oneCell']) ?_ | refine l_store_whole (i := 2) hs rfl I85 rfl rfl (by first | assumption | (simp; done)) (by first | assumption | (simp; done)) (by first | assumption | simp [Value.oneCell']) ?_ | refine l_store_whole (i := 3) hs rfl I85 rfl rfl (by first | assumption | (simp; done)) (by first | assumption | (simp; done)) (by first | assumption | simp [Value.oneCell']) ?_ | refine l_store_whole (i := 4) hs rfl I85 rfl rfl (by first | assumption | (simp; done)) (by first | assumption | (simp; done)) (by first | assumption | simp [Value.oneCell']) ?_ | refine l_store_whole (i := 5) hs rfl I85 rfl rfl (by first | assumption | (simp; done)) (by first | assumption | (simp; done)) (by first | assumption | simp [Value.oneCell']) ?_ | refine l_store_whole (i := 6) hs rfl I85 rfl rfl (by first | assumption | (simp; done)) (by first | assumption | (simp; done)) (by first | assumption | simp [Value.oneCell']) ?_
  intro w_ hs
  refine l_nil (nrm_then ?_)
  refine c_rseq ?_
  refine l_alloc hs I86 ?_
  intro b4 w4 hs hB4 hlt4
  refine l_nil (nrm_then ?_)
  refine c_rseq ?_
  refine l_alloc hs I3 ?_
  intro b5 w5 hs hB5 hlt5
  first | refine l_store (i := 0) (v := iV _) hs rfl I3 rfl rfl (by first | (simp; done) | (simp; omega) | omega) ?_ | refine l_store (i := 1) (v := iV _) hs rfl I3 rfl rfl (by first | (simp; done) | (simp; omega) | omega) ?_ | refine l_store (i := 2) (v := iV _) hs rfl I3 rfl rfl (by first | (simp; done) | (simp; omega) | omega) ?_ | refine l_store (i := 3) (v := iV _) hs rfl I3 rfl rfl (by first | (simp; done) | (simp; omega) | omega) ?_ | refine l_store (i := 4) (v := iV _) hs rfl I3 rfl rfl (by first | (simp; done) | (simp; omega) | omega) ?_ | refine l_store (i := 5) (v := iV _) hs rfl I3 rfl rfl (by first | (simp; done) | (simp; omega) | omega) ?_ | refine l_store (i := 6) (v := iV _) hs rfl I3 rfl rfl (by first | (simp; done) | (simp; omega) | omega) ?_
  intro w_ hs
  refine l_nil (nrm_then ?_)
  refine c_rseq ?_
  refine l_v (r_assign (v := u64V 0) rfl) ?_
  refine l_nil (nrm_then ?_)
  refine c_rseq ?_
  refine l_v (r_makeFunc rfl rfl) ?_
  refine l_v (by first | exact (r_assign (v := .func _ _ _) rfl) | exact (r_assign (v := .nilFunc) rfl) | exact (r_assign rfl)) ?_
  refine l_nil (nrm_then ?_)
  refine c_seq ?_
  refine c_rseq ?_
  refine l_v (by first | exact (r_move (v := .slice _ _ _) rfl) | exact (r_move rfl)) ?_
  refine l_v (r_len_l Tryd.underlying22 rfl) ?_
  refine l_v (by first | exact (r_move (v := iV _) rfl) | exact (r_move rfl)) ?_
  refine l_nil (nrm_then ?_)
  refine c_block ?_
  have hs : Sep w _ (own b5 b4 b3 b2 ⟨List.replicate 64 0, 0, I0⟩) := hs
  refine c_loopn [2, 3, 5, 7, 18, 19] (fun m f' w' => ∃ k a, k + m = ps.length ∧ f' 20 = iV (k : Int) ∧ f' 6 = u64V (BitVec.ofNat 64 ((ps.take k).flatMap toL).length) ∧ G ((ps.take k).flatMap toL) a ∧ Sep w w' (own b5 b4 b3 b2 a)) ?_ ?_
  · exact ⟨ps.length, 0, _, by omega, rfl, rfl, g_nil, hs⟩
  · rintro m g w_ ⟨k, a, hk, h20, h6, g, hs⟩
    refine OkC.env ?_ (fixH (L := [(20, _), (6, _)]) ⟨h20, h6, trivial⟩)
    clear h20 h6
    refine c_rseq ?_
    refine l_v (r_lssi rfl rfl) ?_
    refine l_nil (nrm_then ?_)
    refine c_seq ?_
    refine c_cond rfl (fun h => ?_) (fun h => ?_)
    · replace h := of_decide_eq_true h
      refine c_skip (nrm_then ?_)
      refine c_seq ?_
      refine c_block ?_
      refine c_rseq ?_
      have hr' := hr.below hs.below
      obtain ⟨ad, rfl, hc⟩ := hr'.ad (by omega)
      have hkl : k < ps.length := by omega
      have hld := hc k (sV ps[k]) (by simp [hkl])
      have hzk := hz ps[k] (List.getElem_mem hkl)
      have hll : (toL ps[k]).length = ps[k].size := by rw [Array.length_toList]; rfl
      refine l_v (by first | exact (r_indexAddr_o1 Tryd.underlying22 I9 rfl rfl (by omega)) | exact (r_indexAddr_l1 Tryd.underlying22 I9 rfl rfl (by omega)) | exact (r_indexAddr_l Tryd.underlying22 I9 rfl rfl (by omega))) ?_
      refine l_v (r_load Tryd.underlying9 rfl hld) ?_
      refine l_v (by first | exact (r_assign (v := sV _) rfl) | exact (r_assign rfl)) ?_
      refine l_nil (nrm_then ?_)
      refine c_rseq ?_
      refine l_v (by first | exact (r_move (v := u64V _) rfl) | exact (r_move rfl)) ?_
      refine l_v (by first | exact (r_move (v := sV _) rfl) | exact (r_move rfl)) ?_
      refine l_v (r_len_s Tryd.underlying9 rfl) ?_
      refine l_v (r_cv_i64 Tryd.underlying3 Tryd.underlying70 rfl) ?_
      refine l_v (r_add64 rfl rfl) ?_
      refine l_v (by first | exact (r_assign (v := u64V _) rfl) | exact (r_assign rfl)) ?_
      refine l_nil (nrm_then ?_)
      refine c_rseq ?_
      refine l_v (by first | exact (r_assign (v := iV _) rfl) | exact (r_assign rfl)) ?_
      refine l_nil (nrm_then ?_)
      refine c_block ?_
      refine c_loopn [2, 3, 5, 6, 7, 9, 18, 19, 20] (fun m f' w2 => ∃ j a, j + m = ps[k].size ∧ f' 10 = iV (j : Int) ∧ G ((ps.take k).flatMap toL ++ (toL ps[k]).take j) a ∧ Sep w w2 (own b5 b4 b3 b2 a)) ?_ ?_
      · exact ⟨ps[k].size, 0, a, by omega, rfl, by rw [List.take_zero, List.append_nil]; exact g, hs⟩
      · rintro m g w_ ⟨j, a, hj, h10, g, hs⟩
        refine OkC.env ?_ (fixH (L := [(10, _)]) ⟨h10, trivial⟩)
        clear h10
        refine c_seq ?_
        refine c_rseq ?_
        refine l_v (by first | exact (r_move (v := iV _) rfl) | exact (r_move rfl)) ?_
        refine l_v (by first | exact (r_move (v := sV _) rfl) | exact (r_move rfl)) ?_
        refine l_v (r_len_s Tryd.underlying9 rfl) ?_
        refine l_v (r_lssi rfl rfl) ?_
        refine l_nil (nrm_then ?_)
        refine c_cond rfl (fun h2 => ?_) (fun h2 => ?_)
        · replace h2 := of_decide_eq_true h2
          refine c_skip (nrm_then ?_)
          refine c_seq ?_
          refine c_block ?_
          refine c_region ?_
          refine l_v (by first | exact (r_move (v := .func _ _ _) rfl) | exact (r_move (v := .nilFunc) rfl) | exact (r_move rfl)) ?_
          refine l_v (by first | exact (r_move (v := sV _) rfl) | exact (r_move rfl)) ?_
          refine l_v (by first | exact (r_move (v := iV _) rfl) | exact (r_move rfl)) ?_
          refine l_v (by first | exact (r_index_s Tryd.underlying9 rfl rfl (by omega)) | exact (r_index_si Tryd.underlying9 rfl rfl (by omega))) ?_
          refine l_call (r_call Tryd.func45 rfl rfl) ?_
          refine Calls.mono (own_add (c := at8 ps[k] j) g h0 hs) ?_
          rintro e w_ ⟨rfl, hs, g⟩
          refine ⟨_, rfl, ?_⟩
          refine l_nil (nrm_block (nrm_then ?_))
          refine c_region ?_
          refine l_v (by first | exact (r_move (v := iV _) rfl) | exact (r_move rfl)) ?_
          refine l_v (r_addi rfl rfl (by omega)) ?_
          refine l_v (by first | exact (r_assign (v := iV _) rfl) | exact (r_assign rfl)) ?_
          refine l_nil (nrm_then ?_)
          refine And.intro (by refine ⟨?_, ?_, ?_, ?_, ?_, ?_, ?_, ?_, ?_, trivial⟩ <;> ((conv => lhs; whnf); (try conv => rhs; whnf))) ?_
          refine ⟨ps[k].size - (j + 1), by omega, j + 1, _, by omega, rfl, ?_, hs⟩
          rw [byte_next _ _ (by omega), ← List.append_assoc]
          exact g
        · replace h2 := of_decide_eq_false h2
          refine c_exit (ex_then (ex_then (ex_hit (nrm_block (nrm_then ?_)))))
          refine c_region ?_
          refine l_v (r_addi rfl rfl (by omega)) ?_
          refine l_v (by first | exact (r_move (v := iV _) rfl) | exact (r_move rfl)) ?_
          refine l_nil (nrm_then ?_)
          obtain rfl : j = ps[k].size := by omega
          rw [List.take_of_length_le (l := toL ps[k]) (by omega), ← flat_next ps k hkl] at g
          refine And.intro (by refine ⟨?_, ?_, ?_, ?_, ?_, ?_, trivial⟩ <;> ((conv => lhs; whnf); (try conv => rhs; whnf))) ?_
          refine ⟨ps.length - (k + 1), by omega, k + 1, _, by omega, rfl, ?_, g, hs⟩
          show u64V _ = u64V _
          rw [size_next, flat_next ps k hkl, List.length_append, hll]
    · replace h := of_decide_eq_false h
      refine c_exit (ex_then (ex_then (ex_hit (nrm_then ?_))))
      refine c_rseq ?_
      refine l_v (by first | exact (r_move (v := .func _ _ _) rfl) | exact (r_move (v := .nilFunc) rfl) | exact (r_move rfl)) ?_
      obtain rfl : k = ps.length := by omega
      have hl0 : ps.flatMap toL = (ps.take ps.length).flatMap toL := by rw [List.take_length]
      rw [hl0]
      clear hl0
      generalize hl : (ps.take ps.length).flatMap toL = l at *
      refine l_call (r_call Tryd.func45 rfl rfl) ?_
      refine Calls.mono (own_add (c := 128) g h0 hs) ?_
      rintro e w_ ⟨rfl, hs, g⟩
      refine ⟨_, rfl, ?_⟩
      refine l_nil (nrm_then ?_)
      refine c_seq ?_
      refine c_block ?_
      refine c_loopn [2, 3, 5, 6, 7] (fun m f' w' => ∃ j a, j + m = (119 - l.length % 64) % 64 ∧ G (l ++ [128] ++ List.replicate j 0) a ∧ Sep w w' (own b5 b4 b3 b2 a)) ?_ ?_
      · exact ⟨(119 - l.length % 64) % 64, 0, _, by omega, by rw [List.replicate_zero, List.append_nil]; exact g, hs⟩
      · rintro m g w_ ⟨j, a, hj, g, hs⟩
        have hgn := g.n
        simp only [List.length_append, List.length_replicate, List.length_singleton] at hgn
        refine c_seq ?_
        refine c_rseq ?_
        refine l_v (r_load_at (i := 0) hs rfl Tryd.underlying3 rfl rfl) ?_
        refine l_v (r_neqi rfl rfl) ?_
        refine l_nil (nrm_then ?_)
        refine c_cond rfl (fun h2 => ?_) (fun h2 => ?_)
        · replace h2 := of_decide_eq_true h2
          refine c_skip (nrm_then ?_)
          refine c_block ?_
          refine c_region ?_
          refine l_v (by first | exact (r_move (v := .func _ _ _) rfl) | exact (r_move (v := .nilFunc) rfl) | exact (r_move rfl)) ?_
          refine l_call (r_call Tryd.func45 rfl rfl) ?_
          refine Calls.mono (own_add (c := 0) g h0 hs) ?_
          rintro e w_ ⟨rfl, hs, g⟩
          refine ⟨_, rfl, ?_⟩
          refine l_nil (nrm_block (nrm_then ?_))
          refine And.intro (by refine ⟨?_, ?_, ?_, ?_, ?_, trivial⟩ <;> ((conv => lhs; whnf); (try conv => rhs; whnf))) ?_
          refine ⟨(119 - l.length % 64) % 64 - (j + 1), ?_, j + 1, _, ?_, ?_, hs⟩
          · omega
          · omega
          · rw [List.replicate_succ', ← List.append_assoc]
            exact g
        · replace h2 := of_decide_eq_false h2
          refine c_exit (ex_then (ex_then (ex_hit (nrm_then ?_))))
          refine c_seq ?_
          refine c_rseq ?_
          refine l_v (by first | exact (r_assign (v := iV _) rfl) | exact (r_assign rfl)) ?_
          refine l_nil (nrm_then ?_)
          refine c_block ?_
          obtain rfl : j = (119 - l.length % 64) % 64 := by omega
          refine c_loopn [2, 3, 6, 7] (fun m f' w' => ∃ i a, i + m = 8 ∧ f' 11 = iV (56 - 8 * (i : Int)) ∧ G (l ++ [128] ++ List.replicate ((119 - l.length % 64) % 64) 0 ++ bytes8 l.length i) a ∧ Sep w w' (own b5 b4 b3 b2 a)) ?_ ?_
          · exact ⟨8, 0, a, by omega, rfl, by rw [show bytes8 l.length 0 = [] from rfl, List.append_nil]; exact g, hs⟩
          · rintro m g w_ ⟨i, a, hi, h11, g, hs⟩
            refine OkC.env ?_ (fixH (L := [(11, _)]) ⟨h11, trivial⟩)
            clear h11
            refine c_seq ?_
            refine c_rseq ?_
            refine l_v (by first | exact (r_move (v := iV _) rfl) | exact (r_move rfl)) ?_
            refine l_v (r_geqi rfl rfl) ?_
            refine l_nil (nrm_then ?_)
            refine c_cond rfl (fun h3 => ?_) (fun h3 => ?_)
            · replace h3 := of_decide_eq_true h3
              refine c_skip (nrm_then ?_)
              refine c_seq ?_
              refine c_block ?_
              refine c_region ?_
              refine l_v (by first | exact (r_move (v := .func _ _ _) rfl) | exact (r_move (v := .nilFunc) rfl) | exact (r_move rfl)) ?_
              refine l_v (by first | exact (r_move (v := u64V _) rfl) | exact (r_move rfl)) ?_
              refine l_v (r_shl64 (b := 3) rfl rfl) ?_
              refine l_v (by first | exact (r_move (v := iV _) rfl) | exact (r_move rfl)) ?_
              refine l_v (r_shr64 (b := 56 - 8 * i) rfl (ivn (by omega))) ?_
              refine l_v (r_cv_648 Tryd.underlying70 Tryd.underlying5 rfl) ?_
              refine l_call (r_call Tryd.func45 rfl rfl) ?_
              refine Calls.mono (own_add (c := UInt8.ofNat ((BitVec.ofNat 64 l.length <<< 3) >>> (56 - 8 * i)).toNat) g h0 hs) ?_
              rintro e w_ ⟨rfl, hs, g⟩
              refine ⟨_, rfl, ?_⟩
              refine l_nil (nrm_block (nrm_then ?_))
              refine c_region ?_
              refine l_v (by first | exact (r_move (v := iV _) rfl) | exact (r_move rfl)) ?_
              refine l_v (r_subi rfl rfl (by omega)) ?_
              refine l_v (by first | exact (r_assign (v := iV _) rfl) | exact (r_assign rfl)) ?_
              refine l_nil (nrm_then ?_)
              refine And.intro (by refine ⟨?_, ?_, ?_, ?_, trivial⟩ <;> ((conv => lhs; whnf); (try conv => rhs; whnf))) ?_
              refine ⟨7 - i, by omega, i + 1, _, by omega, ?_, ?_, hs⟩
              · exact congrArg iV (by omega)
              · rw [bytes8_next, ← List.append_assoc, ← len_byte _ _ (by omega)]
                exact g
            · replace h3 := of_decide_eq_false h3
              refine c_exit (ex_then (ex_then (ex_hit (nrm_then ?_))))
              refine c_rseq ?_
              refine l_alloc hs I68 ?_
              intro b12 w12 hs hB12 hlt12
              refine l_nil (nrm_then ?_)
              refine c_seq ?_
              refine c_rseq ?_
              obtain rfl : i = 8 := by omega
              have hd : digest l = a.h.list.flatMap be := by
                have e : padded l = l ++ [128] ++ List.replicate ((119 - l.length % 64) % 64) 0 ++ bytes8 l.length 8 := padded_eq l
                unfold digest
                rw [e, ← g.h]
              clear hgn g
              obtain ⟨bb, n, X⟩ := a
              simp only at hd
              rw [hd]
              clear hd hl
              have hX8 : (X.list.map u32V).length = 8 := (List.length_map u32V).trans (St_len X)
              refine l_v (r_load_whole (i := 3) hs rfl Tryd.underlying85 I85 rfl hX8) ?_
              refine l_v (by first | exact (r_move (v := iV _) rfl) | exact (r_move rfl)) ?_
              refine l_nil (nrm_then ?_)
              refine c_block ?_
              refine c_loopn [2, 12, 58] (fun m f' w' => ∃ k, k + m = 8 ∧ f' 59 = iV (k : Int) ∧ Sep w w' (blk b12 ((outB X (4 * k)).map u8V) 68 :: own b5 b4 b3 b2 ⟨bb, n, X⟩)) ?_ ?_
              · exact ⟨8, 0, rfl, rfl, hs⟩
              · rintro m g w_ ⟨k, hk, h59, hs⟩
                refine OkC.env ?_ (fixH (L := [(59, _)]) ⟨h59, trivial⟩)
                clear h59
                refine c_rseq ?_
                refine l_v (r_lssi rfl rfl) ?_
                refine l_nil (nrm_then ?_)
                refine c_seq ?_
                refine c_cond rfl (fun h4 => ?_) (fun h4 => ?_)
                · replace h4 := of_decide_eq_true h4
                  refine c_skip (nrm_then ?_)
                  refine c_seq ?_
                  refine c_block ?_
                  refine c_rseq ?_
                  refine l_v (by first | exact (r_move (v := iV _) rfl) | exact (r_move rfl)) ?_
                  refine l_v (r_index_a Tryd.underlying85 I71 Tryd.underlying71 rfl rfl (by omega) (getD_map32 _ _ (by rw [St_len]; omega))) ?_
                  refine l_v (by first | exact (r_assign (v := iV _) rfl) | exact (r_assign rfl)) ?_
                  refine l_v (by first | exact (r_assign (v := u32V _) rfl) | exact (r_assign rfl)) ?_
                  refine l_nil (nrm_then ?_)
                  refine c_rseq ?_
                  refine l_v (by first | exact (r_move (v := iV _) rfl) | exact (r_move rfl)) ?_
                  refine l_nil (nrm_then ?_)
                  refine c_block ?_
                  refine c_loopn [2, 12, 13, 14, 58, 59] (fun m f' w' => ∃ j, j + m = 4 ∧ f' 63 = iV (j : Int) ∧ Sep w w' (blk b12 ((outB X (4 * k + j)).map u8V) 68 :: own b5 b4 b3 b2 ⟨bb, n, X⟩)) ?_ ?_
                  · exact ⟨4, 0, rfl, rfl, hs⟩
                  · rintro m g w_ ⟨j, hj, h63, hs⟩
                    refine OkC.env ?_ (fixH (L := [(63, _)]) ⟨h63, trivial⟩)
                    clear h63
                    refine c_rseq ?_
                    refine l_v (r_lssi rfl rfl) ?_
                    refine l_nil (nrm_then ?_)
                    refine c_seq ?_
                    refine c_cond rfl (fun h5 => ?_) (fun h5 => ?_)
                    · replace h5 := of_decide_eq_true h5
                      refine c_skip (nrm_then ?_)
                      refine c_seq ?_
                      refine c_block ?_
                      refine c_rseq ?_
                      refine l_v (by first | exact (r_move (v := iV _) rfl) | exact (r_move rfl)) ?_
                      refine l_v (by first | exact (r_assign (v := iV _) rfl) | exact (r_assign rfl)) ?_
                      refine l_nil (nrm_then ?_)
                      refine c_region ?_
                      refine l_v (by first | exact (r_move (v := iV _) rfl) | exact (r_move rfl)) ?_
                      refine l_v (r_muli rfl rfl (by omega)) ?_
                      refine l_v (by first | exact (r_move (v := iV _) rfl) | exact (r_move rfl)) ?_
                      refine l_v (r_addi rfl rfl (by omega)) ?_
                      refine l_v (by first | exact (r_move (v := u32V _) rfl) | exact (r_move rfl)) ?_
                      refine l_v (by first | exact (r_move (v := iV _) rfl) | exact (r_move rfl)) ?_
                      refine l_v (r_muli rfl rfl (by omega)) ?_
                      refine l_v (r_subi rfl rfl (by omega)) ?_
                      refine l_v (r_shr32 (b := 24 - 8 * j) rfl (ivn (by omega))) ?_
                      refine l_v (r_cv_328 Tryd.underlying71 Tryd.underlying5 rfl) ?_
                      refine l_v (r_indexAddr_a0 (k := 4 * k + j) Tryd.underlying68 I5 rfl (ivn (by omega)) (by omega)) ?_
                      refine l_store (i := 0) (v := u8V _) hs rfl I5 rfl rfl (by rw [List.length_map, out_len _ _ (by omega)]; omega) ?_
                      intro w9 hs
                      refine l_nil (nrm_block (nrm_then ?_))
                      refine c_region ?_
                      refine l_v (r_addi rfl rfl (by omega)) ?_
                      refine l_v (by first | exact (r_move (v := iV _) rfl) | exact (r_move rfl)) ?_
                      refine l_nil (nrm_then ?_)
                      refine And.intro (by refine ⟨?_, ?_, ?_, ?_, ?_, ?_, trivial⟩ <;> ((conv => lhs; whnf); (try conv => rhs; whnf))) ?_
                      refine ⟨3 - j, by omega, j + 1, by omega, rfl, ?_⟩
                      rw [← Nat.add_assoc, ← out_set X (4 * k + j) (by omega), out_byte X k j (by omega) (by omega), List.map_set]
                      exact hs
                    · replace h5 := of_decide_eq_false h5
                      refine c_exit (ex_then (ex_then (ex_hit (nrm_block (nrm_then ?_)))))
                      refine c_region ?_
                      refine l_v (r_addi rfl rfl (by omega)) ?_
                      refine l_v (by first | exact (r_move (v := iV _) rfl) | exact (r_move rfl)) ?_
                      refine l_nil (nrm_then ?_)
                      obtain rfl : j = 4 := by omega
                      refine And.intro (by refine ⟨?_, ?_, ?_, trivial⟩ <;> ((conv => lhs; whnf); (try conv => rhs; whnf))) ?_
                      exact ⟨7 - k, by omega, k + 1, by omega, rfl, hs⟩
                · replace h4 := of_decide_eq_false h4
                  refine c_exit (ex_then (ex_then (ex_hit (nrm_then ?_))))
                  refine c_rseq ?_
                  obtain rfl : k = 8 := by omega
                  have hs : Sep w _ (blk b12 ((outB X 32).map u8V) 68 :: own b5 b4 b3 b2 ⟨bb, n, X⟩) := hs
                  rw [out_all] at hs
                  have hD : ((X.list.flatMap be).map u8V).length = 32 := (List.length_map u8V).trans (flat_len X)
                  generalize X.list.flatMap be = D at *
                  have h32 : (List.replicate 32 (Value.int .u8 0)).length = 32 := List.length_replicate
                  refine l_v (r_load_whole (i := 0) hs rfl Tryd.underlying68 I68 rfl hD) ?_
                  refine l_store_whole (i := 4) hs rfl I68 rfl rfl hD h32 (one_u8 D) ?_
                  intro w_ hs
                  refine l_nil (nrm_then ?_)
                  refine c_ret ?_
                  show Fin _ _ _ _ _
                  refine fin1c rfl rfl (run_loadVar_agg Tryd.underlying68 rfl I68 hD (cells_whole (hs.at_ 4).1)) ?_
                  exact ⟨rfl, hs.below⟩
end Go.Proofs.YtbimboibllboeaaDoor.Sha
