/- The walks of the document's padding and digest. -/
import Derived.Test.YtbimboibllboeaaDoorShaSum
namespace Go.Proofs.YtbimboibllboeaaDoor.Sha
open Go Go.RowKit Go.Proofs.YtbimboibllboeaaDoor.Eng
set_option linter.unusedVariables false
set_option maxRecDepth 100000
abbrev own8 (v : Value) (l : List UInt8) : HP := RowC 5 1 v l.length (l.map u8V)
abbrev own32 (v : Value) (l : List W) : HP := RowC 71 1 v l.length (l.map u32V)
theorem own8_add {w0 w : World} {v : Value} {l : List UInt8} {c : UInt8} {L : List HP} (hs : Sep w0 w (RowC 5 1 v (l.length + 1) (l.map u8V ++ [u8V c]) :: L)) : Sep w0 w (own8 v (l ++ [c]) :: L) := by
  unfold own8; rw [List.length_append, List.map_append]; exact hs
theorem own32_add {w0 w : World} {v : Value} {l : List W} {c : W} {L : List HP} (hs : Sep w0 w (RowC 71 1 v (l.length + 1) (l.map u32V ++ [u32V c]) :: L)) : Sep w0 w (own32 v (l ++ [c]) :: L) := by
  unfold own32; rw [List.length_append, List.map_append]; exact hs
set_option maxHeartbeats 1000000 in
theorem numbers_c (w0 w : World) (R : List HP) (hs : Sep w0 w R) :
    Calls Tryd.prog 47 #[] w fun e w' => ∃ b, e = .returned (.slice (some ⟨b, 0, none⟩) 64 64) ∧ Sep w0 w' (blk b (K.map u32V) 71 :: R) := by
  refine enter (P := Tryd.prog) Tryd.func47 rfl rfl ?_
  refine c_rseq ?_
  refine l_v (by first | exact (r_assign (v := .slice _ _ _) rfl) | exact (r_assign rfl)) ?_
  refine l_nil (nrm_then ?_)
  refine c_rseq ?_
  refine l_lit1 [u32V 1116352408, u32V 1899447441, u32V 3049323471, u32V 3921009573, u32V 961987163, u32V 1508970993, u32V 2453635748, u32V 2870763221, u32V 3624381080, u32V 310598401, u32V 607225278, u32V 1426881987, u32V 1925078388, u32V 2162078206, u32V 2614888103, u32V 3248222580, u32V 3835390401, u32V 4022224774, u32V 264347078, u32V 604807628, u32V 770255983, u32V 1249150122, u32V 1555081692, u32V 1996064986, u32V 2554220882, u32V 2821834349, u32V 2952996808, u32V 3210313671, u32V 3336571891, u32V 3584528711, u32V 113926993, u32V 338241895, u32V 666307205, u32V 773529912, u32V 1294757372, u32V 1396182291, u32V 1695183700, u32V 1986661051, u32V 2177026350, u32V 2456956037, u32V 2730485921, u32V 2820302411, u32V 3259730800, u32V 3345764771, u32V 3516065817, u32V 3600352804, u32V 4094571909, u32V 275423344, u32V 430227734, u32V 506948616, u32V 659060556, u32V 883997877, u32V 958139571, u32V 1322822218, u32V 1537002063, u32V 1747873779, u32V 1955562222, u32V 2024104815, u32V 2227730452, u32V 2361852424, u32V 2428436474, u32V 2756734187, u32V 3204031479, u32V 3329325298] hs Tryd.underlying90 I71 rfl (by simp [Value.oneCell']) rfl (by decide) (by decide) ?_
  intro b1 w1 hs hB1 hlt1
  refine l_v (by first | exact (r_assign (v := .slice _ _ _) rfl) | exact (r_assign rfl)) ?_
  refine l_nil (nrm_then ?_)
  refine c_ret ?_
  show Fin _ _ _ _ _
  refine fin1 rfl ?_
  exact ⟨_, rfl, hs⟩
def x256 (n i : Nat) : BitVec 64 := match i with
  | 0 => BitVec.ofInt 64 (n : Int) * 8
  | i + 1 => x256 n i / 256
theorem x256_byte (n i : Nat) (hi : i ≤ 7) (hn : n ≤ 1000000) : UInt8.ofNat (x256 n i % 256).toNat = UInt8.ofNat (n * 8 / 2 ^ (8 * i)) := by
  have h : (x256 n i).toNat = n * 8 / 2 ^ (8 * i) := by
    clear hi
    induction i with
    | zero =>
      show (BitVec.ofInt 64 (n : Int) * 8).toNat = _
      rw [BitVec.ofInt_natCast, BitVec.toNat_mul, BitVec.toNat_ofNat]
      show n % 2 ^ 64 * 8 % 2 ^ 64 = n * 8 / 1
      omega
    | succ i ih =>
      show (x256 n i / 256).toNat = _
      rw [BitVec.toNat_udiv, ih]
      show n * 8 / 2 ^ (8 * i) / 256 = _
      rw [Nat.div_div_eq_div_mul, show 8 * (i + 1) = 8 * i + 8 by omega, Nat.pow_add]
  apply UInt8.toNat_inj.1
  rw [BitVec.toNat_umod, h, UInt8.toNat_ofNat', UInt8.toNat_ofNat']
  show n * 8 / 2 ^ (8 * i) % 256 % 2 ^ 8 = _
  omega
set_option maxHeartbeats 1000000 in
theorem padded_c (s : ByteArray) (hz : s.size ≤ 1000000) (w : World) :
    Calls Tryd.prog 48 #[sV s] w fun e w' => e = .returned (sV (ofL (padded (toL s)))) ∧ Below w.heap.size w w' := by
  refine enter (P := Tryd.prog) Tryd.func48 rfl rfl ?_
  have hs := (Sep.init w).rowNil 5 1
  refine c_rseq ?_
  refine l_v (by first | exact (r_assign (v := sV _) rfl) | exact (r_assign rfl)) ?_
  refine l_nil (nrm_then ?_)
  refine c_rseq ?_
  refine l_v (by first | exact (r_assign (v := .slice _ _ _) rfl) | exact (r_assign rfl)) ?_
  refine l_nil (nrm_then ?_)
  refine c_rseq ?_
  refine l_v (by first | exact (r_move (v := .slice _ _ _) rfl) | exact (r_move rfl)) ?_
  refine l_v (by first | exact (r_move (v := sV _) rfl) | exact (r_move rfl)) ?_
  refine l_append_s Tryd.underlying44 Tryd.underlying9 I5 rfl rfl hs (by omega) ?_
  intro v10 w10 hs
  refine l_v (by first | exact (r_assign (v := .slice _ _ _) rfl) | exact (r_assign rfl)) ?_
  refine l_nil (nrm_then ?_)
  refine c_rseq ?_
  refine l_v (by first | exact (r_move (v := .slice _ _ _) rfl) | exact (r_move rfl)) ?_
  refine l_lit1 [u8V 128] hs Tryd.underlying44 I5 rfl (by simp [Value.oneCell']) rfl (by decide) (by decide) ?_
  intro b12 w12 hs hB12 hlt12
  refine l_append_lit Tryd.underlying44 I5 rfl (by decide) rfl rfl hs rfl (by simp [Value.oneCell']) (by omega) (by omega) ?_
  intro v13 w13 hs
  have hl : (toL s).length = s.size := by rw [Array.length_toList]; rfl
  have hs : Sep w w13 [own8 v13 (toL s ++ [128])] := own8_add (by rw [hl]; exact (Nat.zero_add s.size ▸ hs))
  rw [padded_eq]
  generalize toL s = l at *
  refine l_v (by first | exact (r_assign (v := .slice _ _ _) rfl) | exact (r_assign rfl)) ?_
  refine l_nil (nrm_then ?_)
  refine c_seq ?_
  refine c_block ?_
  refine c_loopn [0, 2] (fun m f' w' => ∃ j v, j + m = (119 - l.length % 64) % 64 ∧ f' 3 = v ∧ Sep w w' [own8 v (l ++ [128] ++ List.replicate j 0)]) ?_ ?_
  · exact ⟨(119 - l.length % 64) % 64, 0, _, by omega, rfl, by rw [List.replicate_zero, List.append_nil]; exact hs⟩
  · rintro m g w_ ⟨j, v, hj, h3, hs⟩
    obtain ⟨A, c, rfl, hc⟩ := hs.rowForm
    refine OkC.env ?_ (fixH (L := [(3, _)]) ⟨h3, trivial⟩)
    clear h3
    refine c_seq ?_
    refine c_rseq ?_
    refine l_v (by first | exact (r_move (v := .slice _ _ _) rfl) | exact (r_move rfl)) ?_
    refine l_v (r_len_l Tryd.underlying44 rfl) ?_
    refine l_v (r_remi rfl rfl (by omega) (by omega)) ?_
    refine l_v (r_neqi rfl rfl) ?_
    refine l_nil (nrm_then ?_)
    have hlen : (l ++ [128] ++ List.replicate j 0).length = l.length + 1 + j := by rw [List.length_append, List.length_append, List.length_replicate]; rfl
    refine c_cond rfl (fun h => ?_) (fun h => ?_)
    · rw [hlen] at h
      have hne : (l.length + 1 + j) % 64 ≠ 56 := by have := of_decide_eq_true h; omega
      have hj1 := zeros_next l j hne (by omega)
      replace h := of_decide_eq_true h
      refine c_skip (nrm_then ?_)
      refine c_block ?_
      refine c_region ?_
      refine l_v (by first | exact (r_move (v := .slice _ _ _) rfl) | exact (r_move rfl)) ?_
      refine l_lit1 [u8V 0] hs Tryd.underlying44 I5 rfl (by simp [Value.oneCell']) rfl (by decide) (by decide) ?_
      intro b19 w19 hs hB19 hlt19
      refine l_append_lit Tryd.underlying44 I5 rfl (by decide) rfl rfl hs rfl (by simp [Value.oneCell']) (by omega) (by omega) ?_
      intro v20 w20 hs
      refine l_v (by first | exact (r_assign (v := .slice _ _ _) rfl) | exact (r_assign rfl)) ?_
      refine l_nil (nrm_block (nrm_then ?_))
      refine And.intro (by refine ⟨?_, ?_, trivial⟩ <;> ((conv => lhs; whnf); (try conv => rhs; whnf))) ?_
      refine ⟨(119 - l.length % 64) % 64 - (j + 1), by omega, j + 1, v20, by omega, rfl, ?_⟩
      rw [List.replicate_succ', ← List.append_assoc]
      exact own8_add hs
    · rw [hlen] at h
      replace h := of_decide_eq_false h
      refine c_exit (ex_then (ex_then (ex_hit (nrm_then ?_))))
      refine c_rseq ?_
      refine l_v (by first | exact (r_move (v := sV _) rfl) | exact (r_move rfl)) ?_
      refine l_v (r_len_s Tryd.underlying9 rfl) ?_
      refine l_v (r_cv_i64 Tryd.underlying3 Tryd.underlying70 rfl) ?_
      refine l_v (r_mul64 (b := 8) rfl rfl) ?_
      refine l_v (by first | exact (r_assign (v := u64V _) rfl) | exact (r_assign rfl)) ?_
      refine l_nil (nrm_then ?_)
      refine c_seq ?_
      refine c_rseq ?_
      refine l_v (by first | exact (r_assign (v := iV _) rfl) | exact (r_assign rfl)) ?_
      refine l_nil (nrm_then ?_)
      refine c_block ?_
      obtain rfl : j = (119 - l.length % 64) % 64 := by omega
      generalize hl0 : l ++ [128] ++ List.replicate ((119 - l.length % 64) % 64) 0 = P0 at *
      refine c_loopn [2, 4] (fun m f' w' => ∃ i v, i + m = 8 ∧ f' 5 = iV (7 - (i : Int)) ∧ f' 3 = v ∧ Sep w w' [own8 v (P0 ++ bytes8 l.length i)]) ?_ ?_
      · exact ⟨8, 0, _, by omega, rfl, rfl, by rw [show bytes8 l.length 0 = [] from rfl, List.append_nil]; exact hs⟩
      · rintro m g w_ ⟨i, v, hi, h5, h3, hs⟩
        refine OkC.env ?_ (fixH (L := [(5, _), (3, _)]) ⟨h5, h3, trivial⟩)
        clear h5 h3
        have hlb : (P0 ++ bytes8 l.length i).length = P0.length + i := by rw [List.length_append]; unfold bytes8; rw [List.length_map, List.length_range]
        refine c_seq ?_
        refine c_rseq ?_
        refine l_v (by first | exact (r_move (v := iV _) rfl) | exact (r_move rfl)) ?_
        refine l_v (r_geqi rfl rfl) ?_
        refine l_nil (nrm_then ?_)
        refine c_cond rfl (fun h7 => ?_) (fun h7 => ?_)
        · replace h7 := of_decide_eq_true h7
          refine c_skip (nrm_then ?_)
          refine c_seq ?_
          refine c_block ?_
          refine c_rseq ?_
          refine l_v (by first | exact (r_move (v := u64V _) rfl) | exact (r_move rfl)) ?_
          refine l_v (by first | exact (r_assign (v := u64V _) rfl) | exact (r_assign rfl)) ?_
          refine l_nil (nrm_then ?_)
          refine c_seq ?_
          refine c_rseq ?_
          refine l_v (by first | exact (r_assign (v := iV _) rfl) | exact (r_assign rfl)) ?_
          refine l_nil (nrm_then ?_)
          refine c_block ?_
          refine c_loopn [2, 3, 4, 5] (fun m f' w2 => w2 = w_ ∧ ∃ k, k + m = 7 - i ∧ f' 7 = iV (k : Int) ∧ f' 6 = u64V (x256 l.length k)) ?_ ?_
          · exact ⟨7 - i, rfl, 0, by omega, rfl, by rw [hl]; rfl⟩
          · rintro m g w_ ⟨rfl, k, hk, h7, h6⟩
            refine OkC.env ?_ (fixH (L := [(7, _), (6, _)]) ⟨h7, h6, trivial⟩)
            clear h7 h6
            refine c_seq ?_
            refine c_rseq ?_
            refine l_v (by first | exact (r_move (v := iV _) rfl) | exact (r_move rfl)) ?_
            refine l_v (by first | exact (r_move (v := iV _) rfl) | exact (r_move rfl)) ?_
            refine l_v (r_lssi rfl rfl) ?_
            refine l_nil (nrm_then ?_)
            refine c_cond rfl (fun hk7 => ?_) (fun hk7 => ?_)
            · replace hk7 := of_decide_eq_true hk7
              refine c_skip (nrm_then ?_)
              refine c_seq ?_
              refine c_block ?_
              refine c_region ?_
              refine l_v (by first | exact (r_move (v := u64V _) rfl) | exact (r_move rfl)) ?_
              refine l_v (r_quo64 (b := 256) rfl rfl (by first | decide | omega)) ?_
              refine l_v (by first | exact (r_assign (v := u64V _) rfl) | exact (r_assign rfl)) ?_
              refine l_nil (nrm_block (nrm_then ?_))
              refine c_region ?_
              refine l_v (by first | exact (r_move (v := iV _) rfl) | exact (r_move rfl)) ?_
              refine l_v (r_addi rfl rfl (by omega)) ?_
              refine l_v (by first | exact (r_assign (v := iV _) rfl) | exact (r_assign rfl)) ?_
              refine l_nil (nrm_then ?_)
              refine And.intro (by refine ⟨?_, ?_, ?_, ?_, trivial⟩ <;> ((conv => lhs; whnf); (try conv => rhs; whnf))) ?_
              exact ⟨7 - i - (k + 1), by omega, rfl, k + 1, by omega, rfl, rfl⟩
            · replace hk7 := of_decide_eq_false hk7
              refine c_exit (ex_then (ex_then (ex_hit (nrm_then ?_))))
              refine c_region ?_
              refine l_v (by first | exact (r_move (v := .slice _ _ _) rfl) | exact (r_move rfl)) ?_
              refine l_v (by first | exact (r_move (v := u64V _) rfl) | exact (r_move rfl)) ?_
              refine l_v (r_rem64 (b := 256) rfl rfl (by first | decide | omega)) ?_
              refine l_v (r_cv_648 Tryd.underlying70 Tryd.underlying5 rfl) ?_
              refine l_lit1 [u8V _] hs Tryd.underlying44 I5 rfl (by simp [Value.oneCell']) rfl (by decide) (by decide) ?_
              intro b41 w41 hs hB41 hlt41
              obtain rfl : k = 7 - i := by omega
              refine l_append_lit Tryd.underlying44 I5 rfl (by decide) rfl rfl hs rfl (by simp [Value.oneCell']) (by omega) (by omega) ?_
              intro v42 w42 hs
              refine l_v (by first | exact (r_assign (v := .slice _ _ _) rfl) | exact (r_assign rfl)) ?_
              refine l_nil (nrm_block (nrm_then ?_))
              refine c_region ?_
              refine l_v (by first | exact (r_move (v := iV _) rfl) | exact (r_move rfl)) ?_
              refine l_v (r_subi rfl rfl (by omega)) ?_
              refine l_v (by first | exact (r_assign (v := iV _) rfl) | exact (r_assign rfl)) ?_
              refine l_nil (nrm_then ?_)
              refine And.intro (by refine ⟨?_, ?_, trivial⟩ <;> ((conv => lhs; whnf); (try conv => rhs; whnf))) ?_
              refine ⟨7 - i, by omega, i + 1, v42, by omega, congrArg iV (by omega), rfl, ?_⟩
              rw [bytes8_next, ← List.append_assoc, show 56 - 8 * i = 8 * (7 - i) by omega, ← x256_byte _ _ (by omega) (by omega)]
              exact own8_add hs
        · replace h7 := of_decide_eq_false h7
          refine c_exit (ex_then (ex_then (ex_hit (nrm_then ?_))))
          refine c_rseq ?_
          refine l_v (by first | exact (r_move (v := .slice _ _ _) rfl) | exact (r_move rfl)) ?_
          obtain rfl : i = 8 := by omega
          obtain ⟨A, c, rfl, hc⟩ := hs.rowForm
          refine l_v (r_cv_bs (l := P0 ++ bytes8 l.length 8) Tryd.underlying44 Tryd.underlying5 Tryd.underlying9 rfl hs.rd) ?_
          refine l_v (by first | exact (r_assign (v := sV _) rfl) | exact (r_assign rfl)) ?_
          refine l_nil (nrm_then ?_)
          refine c_ret ?_
          show Fin _ _ _ _ _
          refine fin1 rfl ?_
          exact ⟨rfl, hs.below⟩
theorem blk_at (P : List UInt8) (q i : Nat) (h : i < 64) : P.getD (64 * q + i) 0 = ((P.drop (64 * q)).take 64).getD i 0 := by
  rw [List.getD_eq_getElem?_getD, List.getD_eq_getElem?_getD, List.getElem?_take_of_lt h, List.getElem?_drop]
theorem size_ofL (l : List UInt8) : (ofL l).size = l.length := rfl
theorem turnr_c (x : W) (n : Nat) (w : World) (hn : n ≤ 32) :
    Calls Tryd.prog 49 #[u32V x, iV (n : Int)] w fun e w' => e = .returned (u32V (rotr x n)) ∧ w' = w :=
  (turn_c x n w (by omega)).mono fun e w' h => by rw [turn_rotr n hn x] at h; exact h
theorem padded_le (l : List UInt8) : (padded l).length ≤ l.length + 128 := by
  simp only [padded, zeros, len8, List.length_append, List.length_replicate, List.length_cons, List.length_nil]
  omega
theorem word_next (P : List UInt8) (q i k : Nat) (h : 4 * i + k < 64) : word ((P.drop (64 * q)).take 64) i k * 256 + BitVec.ofNat 32 (at8 (ofL P) (64 * q + (4 * i + k))).toNat = word ((P.drop (64 * q)).take 64) i (k + 1) := by
  rw [word, cat8_eq, ← blk_at P q _ h]; rfl
def got (D o : List UInt8) (k m : Nat) : Prop := o.length = 32 ∧ (∀ i, i < 4 * k → o.getD i 0 = D.getD i 0) ∧ ∀ i, 4 * k + (4 - m) ≤ i → i < 4 * k + 4 → o.getD i 0 = D.getD i 0
theorem getD_set_ (o : List UInt8) (p i : Nat) (c : UInt8) (h : p < o.length) : (o.set p c).getD i 0 = if p = i then c else o.getD i 0 := by
  rw [List.getD_eq_getElem?_getD, List.getElem?_set]
  split
  · rfl
  · rw [List.getD_eq_getElem?_getD]
theorem got_set {D o : List UInt8} {k m : Nat} (h : got D o k m) (hk : k < 8) (hm : m < 4) : got D (o.set (4 * k + (3 - m)) (D.getD (4 * k + (3 - m)) 0)) k (m + 1) := by
  obtain ⟨h1, h2, h3⟩ := h
  refine ⟨by rw [List.length_set]; exact h1, fun i hi => ?_, fun i hi hi2 => ?_⟩
  · rw [getD_set_ _ _ _ _ (by omega), if_neg (by omega)]; exact h2 i hi
  · rw [getD_set_ _ _ _ _ (by omega)]
    split
    · rename_i e; rw [e]
    · exact h3 i (by omega) hi2
theorem got_next {D o : List UInt8} {k : Nat} (h : got D o k 4) : got D o (k + 1) 0 := by
  refine ⟨h.1, fun i hi => ?_, fun i hi hi2 => by omega⟩
  by_cases hk : i < 4 * k
  · exact h.2.1 i hk
  · exact h.2.2 i (by omega) (by omega)
theorem got_all {D o : List UInt8} (h : got D o 8 0) (hD : D.length = 32) : o = D := by
  refine List.ext_getElem (h.1.trans hD.symm) fun i h1 h2 => ?_
  have := h.2.1 i (by omega)
  rw [List.getD_eq_getElem?_getD, List.getD_eq_getElem?_getD, List.getElem?_eq_getElem h1, List.getElem?_eq_getElem h2] at this
  exact this
theorem byte_low (x : W) (m : Nat) : UInt8.ofNat (x >>> (8 * m) % 256).toNat = UInt8.ofNat (x >>> (8 * m)).toNat := by
  apply UInt8.toNat_inj.1
  rw [BitVec.toNat_umod, UInt8.toNat_ofNat', UInt8.toNat_ofNat']
  show _ % 256 % 2 ^ 8 = _
  omega
theorem sh_next (x : W) (m : Nat) : x >>> (8 * m) / 256 = x >>> (8 * (m + 1)) := by
  rw [← shr_div _ 8 256 (by decide), ← BitVec.shiftRight_add]; rfl
set_option maxHeartbeats 4000000 in
theorem refsum_c (s : ByteArray) (hz : s.size ≤ 1000000) (w : World) :
    Calls Tryd.prog 36 #[sV s] w fun e w' => e = .returned (.agg ((digest (toL s)).map u8V).toArray) ∧ Below w.heap.size w w' := by
  have hl : (toL s).length = s.size := by rw [Array.length_toList]; rfl
  refine enter (P := Tryd.prog) Tryd.func36 rfl rfl ?_
  have hs := Sep.init w
  refine c_rseq ?_
  refine l_alloc hs I68 ?_
  intro b2 w2 hs hB2 hlt2
  refine l_nil (nrm_then ?_)
  refine c_rseq ?_
  refine l_lit1 [u32V 1779033703, u32V 3144134277, u32V 1013904242, u32V 2773480762, u32V 1359893119, u32V 2600822924, u32V 528734635, u32V 1541459225] hs Tryd.underlying90 I71 rfl (by simp [Value.oneCell']) rfl (by decide) (by decide) ?_
  intro b30 w30 hs hB30 hlt30
  refine l_v (by first | exact (r_assign (v := .slice _ _ _) rfl) | exact (r_assign rfl)) ?_
  refine l_nil (nrm_then ?_)
  refine c_rseq ?_
  refine l_call (r_call Tryd.func47 rfl rfl) ?_
  refine Calls.mono (numbers_c _ _ _ hs) ?_
  rintro e w_ ⟨bn, rfl, hs⟩
  refine ⟨_, rfl, ?_⟩
  refine l_v (by first | exact (r_assign (v := .slice _ _ _) rfl) | exact (r_assign rfl)) ?_
  refine l_nil (nrm_then ?_)
  refine c_rseq ?_
  refine l_v (by first | exact (r_move (v := sV _) rfl) | exact (r_move rfl)) ?_
  refine l_call (r_call Tryd.func48 rfl rfl) ?_
  refine Calls.mono (padded_c s hz _) ?_
  rintro e w_ ⟨rfl, hb⟩
  refine ⟨_, rfl, ?_⟩
  have hs := hs.below_ hb
  have hs : Sep w _ [blk bn (K.map u32V) 71, blk b30 (I0.list.map u32V) 71, blk b2 (List.replicate 32 (Value.int .u8 0)) 68] := hs
  refine l_v (by first | exact (r_assign (v := sV _) rfl) | exact (r_assign rfl)) ?_
  refine l_nil (nrm_then ?_)
  refine c_seq ?_
  refine c_rseq ?_
  refine l_v (by first | exact (r_assign (v := iV _) rfl) | exact (r_assign rfl)) ?_
  refine l_nil (nrm_then ?_)
  refine c_block ?_
  have hPm := padded_length (toL s)
  have hPl := padded_le (toL s)
  unfold digest
  generalize hPe : padded (toL s) = P at *
  refine c_loopn [2, 3, 4, 5] (fun m f' w' => ∃ q, 64 * q + 64 * m = P.length ∧ f' 6 = iV ((64 * q : Nat) : Int) ∧ Sep w w' [blk bn (K.map u32V) 71, blk b30 ((Sha.hs P q).list.map u32V) 71, blk b2 (List.replicate 32 (Value.int .u8 0)) 68]) ?_ ?_
  · exact ⟨P.length / 64, 0, by omega, rfl, hs⟩
  · rintro m g w_ ⟨q, hq, h6, hs⟩
    refine OkC.env ?_ (fixH (L := [(6, _)]) ⟨h6, trivial⟩)
    clear h6
    refine c_seq ?_
    refine c_rseq ?_
    refine l_v (by first | exact (r_move (v := iV _) rfl) | exact (r_move rfl)) ?_
    refine l_v (by first | exact (r_move (v := sV _) rfl) | exact (r_move rfl)) ?_
    refine l_v (r_len_s Tryd.underlying9 rfl) ?_
    refine l_v (r_lssi rfl rfl) ?_
    refine l_nil (nrm_then ?_)
    refine c_cond rfl (fun h => ?_) (fun h => ?_)
    · replace h := of_decide_eq_true h
      refine c_skip (nrm_then ?_)
      refine c_seq ?_
      refine c_block ?_
      refine c_rseq ?_
      refine l_v (by first | exact (r_assign (v := .slice _ _ _) rfl) | exact (r_assign rfl)) ?_
      refine l_nil (nrm_then ?_)
      refine c_seq ?_
      refine c_rseq ?_
      refine l_v (by first | exact (r_assign (v := iV _) rfl) | exact (r_assign rfl)) ?_
      refine l_nil (nrm_then ?_)
      refine c_block ?_
      have hqP : 64 * q + 64 ≤ P.length := by have := size_ofL P; omega
      have hs := hs.rowNil 71 1
      have hst : Sha.hs P (q + 1) = mix (Sha.hs P q) ((P.drop (64 * q)).take 64) := rfl
      generalize hSt : Sha.hs P q = st at *
      refine c_loopn [2, 3, 4, 5, 6] (fun m f' w' => ∃ i v, i + m = 64 ∧ f' 8 = iV (i : Int) ∧ f' 7 = v ∧ Sep w w' [own32 v (wl ((P.drop (64 * q)).take 64) i), blk bn (K.map u32V) 71, blk b30 (st.list.map u32V) 71, blk b2 (List.replicate 32 (Value.int .u8 0)) 68]) ?_ ?_
      · exact ⟨64, 0, _, rfl, rfl, rfl, hs⟩
      · rintro m g w_ ⟨i, v, hi, h8, h7, hs⟩
        refine OkC.env ?_ (fixH (L := [(8, _), (7, _)]) ⟨h8, h7, trivial⟩)
        clear h8 h7
        have hnext : wl ((P.drop (64 * q)).take 64) (i + 1) = wl ((P.drop (64 * q)).take 64) i ++ [nextW ((P.drop (64 * q)).take 64) (wl ((P.drop (64 * q)).take 64) i)] := rfl
        have hWl := wl_length ((P.drop (64 * q)).take 64) i
        refine c_seq ?_
        refine c_rseq ?_
        refine l_v (by first | exact (r_move (v := iV _) rfl) | exact (r_move rfl)) ?_
        refine l_v (r_lssi rfl rfl) ?_
        refine l_nil (nrm_then ?_)
        refine c_cond rfl (fun hi64 => ?_) (fun hi64 => ?_)
        · replace hi64 := of_decide_eq_true hi64
          refine c_skip (nrm_then ?_)
          refine c_seq ?_
          refine c_block ?_
          refine c_seq ?_
          refine c_rseq ?_
          refine l_v (by first | exact (r_move (v := iV _) rfl) | exact (r_move rfl)) ?_
          refine l_v (r_lssi rfl rfl) ?_
          refine l_nil (nrm_then ?_)
          generalize hWe : wl ((P.drop (64 * q)).take 64) i = WL at *
          refine c_cond rfl (fun h16 => ?_) (fun h16 => ?_)
          · replace h16 := of_decide_eq_true h16
            refine c_rseq ?_
            refine l_v (r_assign (v := u32V 0) rfl) ?_
            refine l_nil (nrm_then ?_)
            refine c_seq ?_
            refine c_rseq ?_
            refine l_v (by first | exact (r_assign (v := iV _) rfl) | exact (r_assign rfl)) ?_
            refine l_nil (nrm_then ?_)
            refine c_block ?_
            refine c_loopn [2, 3, 4, 5, 6, 7, 8] (fun m f' w2 => w2 = w_ ∧ ∃ k, k + m = 4 ∧ f' 10 = iV (k : Int) ∧ f' 9 = u32V (word ((P.drop (64 * q)).take 64) i k)) ?_ ?_
            · exact ⟨4, rfl, 0, rfl, rfl, rfl⟩
            · rintro m g w_ ⟨rfl, k, hk, h10, h9⟩
              refine OkC.env ?_ (fixH (L := [(10, _), (9, _)]) ⟨h10, h9, trivial⟩)
              clear h10 h9
              refine c_seq ?_
              refine c_rseq ?_
              refine l_v (by first | exact (r_move (v := iV _) rfl) | exact (r_move rfl)) ?_
              refine l_v (r_lssi rfl rfl) ?_
              refine l_nil (nrm_then ?_)
              refine c_cond rfl (fun hk4 => ?_) (fun hk4 => ?_)
              · replace hk4 := of_decide_eq_true hk4
                refine c_skip (nrm_then ?_)
                refine c_seq ?_
                refine c_block ?_
                refine c_region ?_
                refine l_v (by first | exact (r_move (v := u32V _) rfl) | exact (r_move rfl)) ?_
                refine l_v (r_mul32 (b := 256) rfl rfl) ?_
                refine l_v (by first | exact (r_move (v := sV _) rfl) | exact (r_move rfl)) ?_
                refine l_v (by first | exact (r_move (v := iV _) rfl) | exact (r_move rfl)) ?_
                refine l_v (by first | exact (r_move (v := iV _) rfl) | exact (r_move rfl)) ?_
                refine l_v (r_muli rfl rfl (by omega)) ?_
                refine l_v (r_addi rfl rfl (by omega)) ?_
                refine l_v (by first | exact (r_move (v := iV _) rfl) | exact (r_move rfl)) ?_
                refine l_v (r_addi rfl rfl (by omega)) ?_
                refine l_v (r_index_s (k := 64 * q + (4 * i + k)) Tryd.underlying9 rfl (ivn (by omega)) (by rw [size_ofL]; omega)) ?_
                refine l_v (r_cv_832 Tryd.underlying5 Tryd.underlying71 rfl) ?_
                refine l_v (r_add32 rfl rfl) ?_
                refine l_v (by first | exact (r_assign (v := u32V _) rfl) | exact (r_assign rfl)) ?_
                refine l_nil (nrm_block (nrm_then ?_))
                refine c_region ?_
                refine l_v (by first | exact (r_move (v := iV _) rfl) | exact (r_move rfl)) ?_
                refine l_v (r_addi rfl rfl (by omega)) ?_
                refine l_v (by first | exact (r_assign (v := iV _) rfl) | exact (r_assign rfl)) ?_
                refine l_nil (nrm_then ?_)
                refine And.intro (by refine ⟨?_, ?_, ?_, ?_, ?_, ?_, ?_, trivial⟩ <;> ((conv => lhs; whnf); (try conv => rhs; whnf))) ?_
                refine ⟨3 - k, by omega, rfl, k + 1, by omega, rfl, ?_⟩
                rw [← word_next P q i k (by omega)]
                rfl
              · replace hk4 := of_decide_eq_false hk4
                refine c_exit (ex_then (ex_then (ex_hit (nrm_then ?_))))
                refine c_rseq ?_
                refine l_v (by first | exact (r_move (v := .slice _ _ _) rfl) | exact (r_move rfl)) ?_
                refine l_v (by first | exact (r_move (v := u32V _) rfl) | exact (r_move rfl)) ?_
                refine l_lit1 [u32V _] hs Tryd.underlying90 I71 rfl (by simp [Value.oneCell']) rfl (by decide) (by decide) ?_
                intro b64 w64 hs hB64 hlt64
                obtain rfl : k = 4 := by omega
                refine l_append_lit Tryd.underlying90 I71 rfl (by decide) rfl rfl hs rfl (by simp [Value.oneCell']) (by omega) (by omega) ?_
                intro v65 w65 hs
                refine l_v (by first | exact (r_assign (v := .slice _ _ _) rfl) | exact (r_assign rfl)) ?_
                refine l_nil (nrm_then ?_)
                refine c_exit (ex_then (ex_hit (nrm_then ?_)))
                refine c_region ?_
                refine l_v (by first | exact (r_move (v := iV _) rfl) | exact (r_move rfl)) ?_
                refine l_v (r_addi rfl rfl (by omega)) ?_
                refine l_v (by first | exact (r_assign (v := iV _) rfl) | exact (r_assign rfl)) ?_
                refine l_nil (nrm_then ?_)
                refine And.intro (by refine ⟨?_, ?_, ?_, ?_, ?_, trivial⟩ <;> ((conv => lhs; whnf); (try conv => rhs; whnf))) ?_
                refine ⟨63 - i, by omega, i + 1, v65, by omega, rfl, rfl, ?_⟩
                have e1 : nextW ((P.drop (64 * q)).take 64) WL = word ((P.drop (64 * q)).take 64) i 4 := by unfold nextW; rw [hWl, if_pos (by omega)]
                rw [hnext, e1]
                exact own32_add hs
          · replace h16 := of_decide_eq_false h16
            refine c_skip (nrm_then ?_)
            refine c_seq ?_
            obtain ⟨ad, c, rfl, hc⟩ := hs.rowAd (by omega)
            refine c_float [11, 5] 19 (by kernel_rfl) (by kernel_rfl) ?_
            intro hbF
            show OkF _ _ _ _ _ _ (_ :: _) 0 _ _
            refine f_v (fun wl hbl => by have hs := hs.below_ hbl; first | exact (r_move (v := .slice _ _ _) rfl) | exact (r_move rfl)) ?_
            refine f_v (fun wl hbl => by have hs := hs.below_ hbl; first | exact (r_move (v := iV _) rfl) | exact (r_move rfl)) ?_
            refine f_v (fun wl hbl => by have hs := hs.below_ hbl; exact (r_subi rfl rfl (by omega))) ?_
            refine f_v (fun wl hbl => by have hs := hs.below_ hbl; exact (r_indexAddr_l1 (k := i - 15) Tryd.underlying90 I71 rfl (ivn (by omega)) (by omega))) ?_
            refine f_v (fun wl hbl => by have hs := hs.below_ hbl; exact (r_load Tryd.underlying71 rfl (hs.rowAt (getD_map32 WL (i - 15) (by omega))))) ?_
            refine f_call (r_call Tryd.func49 rfl rfl) ?_
            refine Calls.mono (turnr_c _ 7 _ (by decide)) ?_
            rintro e w_ ⟨rfl, rfl⟩
            refine ⟨_, rfl, Below.refl _ _, ?_⟩
            refine f_v (fun wl hbl => by have hs := hs.below_ hbl; first | exact (r_move (v := .slice _ _ _) rfl) | exact (r_move rfl)) ?_
            refine f_v (fun wl hbl => by have hs := hs.below_ hbl; first | exact (r_move (v := iV _) rfl) | exact (r_move rfl)) ?_
            refine f_v (fun wl hbl => by have hs := hs.below_ hbl; exact (r_subi rfl rfl (by omega))) ?_
            refine f_v (fun wl hbl => by have hs := hs.below_ hbl; exact (r_indexAddr_l1 (k := i - 15) Tryd.underlying90 I71 rfl (ivn (by omega)) (by omega))) ?_
            refine f_v (fun wl hbl => by have hs := hs.below_ hbl; exact (r_load Tryd.underlying71 rfl (hs.rowAt (getD_map32 WL (i - 15) (by omega))))) ?_
            refine f_call (r_call Tryd.func49 rfl rfl) ?_
            refine Calls.mono (turnr_c _ 18 _ (by decide)) ?_
            rintro e w_ ⟨rfl, rfl⟩
            refine ⟨_, rfl, Below.refl _ _, ?_⟩
            refine f_v (fun wl hbl => by have hs := hs.below_ hbl; exact (r_xor32 rfl rfl)) ?_
            refine f_v (fun wl hbl => by have hs := hs.below_ hbl; first | exact (r_move (v := .slice _ _ _) rfl) | exact (r_move rfl)) ?_
            refine f_v (fun wl hbl => by have hs := hs.below_ hbl; first | exact (r_move (v := iV _) rfl) | exact (r_move rfl)) ?_
            refine f_v (fun wl hbl => by have hs := hs.below_ hbl; exact (r_subi rfl rfl (by omega))) ?_
            refine f_v (fun wl hbl => by have hs := hs.below_ hbl; exact (r_indexAddr_l1 (k := i - 15) Tryd.underlying90 I71 rfl (ivn (by omega)) (by omega))) ?_
            refine f_v (fun wl hbl => by have hs := hs.below_ hbl; exact (r_load Tryd.underlying71 rfl (hs.rowAt (getD_map32 WL (i - 15) (by omega))))) ?_
            refine f_v (fun wl hbl => by have hs := hs.below_ hbl; exact (r_quo32 (b := 8) rfl rfl (by first | decide | omega))) ?_
            refine f_nil ?_
            have hs := hs.below_ hbF
            show OkL _ _ _ _ (_ :: _) _ _
            refine l_v (r_xor32 rfl rfl) ?_
            refine l_v (by first | exact (r_assign (v := u32V _) rfl) | exact (r_assign rfl)) ?_
            refine l_nil (nrm_then ?_)
            refine c_seq ?_
            refine c_float [11, 5] 19 (by kernel_rfl) (by kernel_rfl) ?_
            intro hbF
            show OkF _ _ _ _ _ _ (_ :: _) 0 _ _
            refine f_v (fun wl hbl => by have hs := hs.below_ hbl; first | exact (r_move (v := .slice _ _ _) rfl) | exact (r_move rfl)) ?_
            refine f_v (fun wl hbl => by have hs := hs.below_ hbl; first | exact (r_move (v := iV _) rfl) | exact (r_move rfl)) ?_
            refine f_v (fun wl hbl => by have hs := hs.below_ hbl; exact (r_subi rfl rfl (by omega))) ?_
            refine f_v (fun wl hbl => by have hs := hs.below_ hbl; exact (r_indexAddr_l1 (k := i - 2) Tryd.underlying90 I71 rfl (ivn (by omega)) (by omega))) ?_
            refine f_v (fun wl hbl => by have hs := hs.below_ hbl; exact (r_load Tryd.underlying71 rfl (hs.rowAt (getD_map32 WL (i - 2) (by omega))))) ?_
            refine f_call (r_call Tryd.func49 rfl rfl) ?_
            refine Calls.mono (turnr_c _ 17 _ (by decide)) ?_
            rintro e w_ ⟨rfl, rfl⟩
            refine ⟨_, rfl, Below.refl _ _, ?_⟩
            refine f_v (fun wl hbl => by have hs := hs.below_ hbl; first | exact (r_move (v := .slice _ _ _) rfl) | exact (r_move rfl)) ?_
            refine f_v (fun wl hbl => by have hs := hs.below_ hbl; first | exact (r_move (v := iV _) rfl) | exact (r_move rfl)) ?_
            refine f_v (fun wl hbl => by have hs := hs.below_ hbl; exact (r_subi rfl rfl (by omega))) ?_
            refine f_v (fun wl hbl => by have hs := hs.below_ hbl; exact (r_indexAddr_l1 (k := i - 2) Tryd.underlying90 I71 rfl (ivn (by omega)) (by omega))) ?_
            refine f_v (fun wl hbl => by have hs := hs.below_ hbl; exact (r_load Tryd.underlying71 rfl (hs.rowAt (getD_map32 WL (i - 2) (by omega))))) ?_
            refine f_call (r_call Tryd.func49 rfl rfl) ?_
            refine Calls.mono (turnr_c _ 19 _ (by decide)) ?_
            rintro e w_ ⟨rfl, rfl⟩
            refine ⟨_, rfl, Below.refl _ _, ?_⟩
            refine f_v (fun wl hbl => by have hs := hs.below_ hbl; exact (r_xor32 rfl rfl)) ?_
            refine f_v (fun wl hbl => by have hs := hs.below_ hbl; first | exact (r_move (v := .slice _ _ _) rfl) | exact (r_move rfl)) ?_
            refine f_v (fun wl hbl => by have hs := hs.below_ hbl; first | exact (r_move (v := iV _) rfl) | exact (r_move rfl)) ?_
            refine f_v (fun wl hbl => by have hs := hs.below_ hbl; exact (r_subi rfl rfl (by omega))) ?_
            refine f_v (fun wl hbl => by have hs := hs.below_ hbl; exact (r_indexAddr_l1 (k := i - 2) Tryd.underlying90 I71 rfl (ivn (by omega)) (by omega))) ?_
            refine f_v (fun wl hbl => by have hs := hs.below_ hbl; exact (r_load Tryd.underlying71 rfl (hs.rowAt (getD_map32 WL (i - 2) (by omega))))) ?_
            refine f_v (fun wl hbl => by have hs := hs.below_ hbl; exact (r_quo32 (b := 1024) rfl rfl (by first | decide | omega))) ?_
            refine f_nil ?_
            have hs := hs.below_ hbF
            show OkL _ _ _ _ (_ :: _) _ _
            refine l_v (r_xor32 rfl rfl) ?_
            refine l_v (by first | exact (r_assign (v := u32V _) rfl) | exact (r_assign rfl)) ?_
            refine l_nil (nrm_then ?_)
            refine c_float [16] 17 (by kernel_rfl) (by kernel_rfl) ?_
            intro hbF
            show OkF _ _ _ _ _ _ (_ :: _) 0 _ _
            refine f_v (fun wl hbl => by have hs := hs.below_ hbl; first | exact (r_move (v := .slice _ _ _) rfl) | exact (r_move rfl)) ?_
            refine f_v (fun wl hbl => by have hs := hs.below_ hbl; first | exact (r_move (v := .slice _ _ _) rfl) | exact (r_move rfl)) ?_
            refine f_v (fun wl hbl => by have hs := hs.below_ hbl; first | exact (r_move (v := iV _) rfl) | exact (r_move rfl)) ?_
            refine f_v (fun wl hbl => by have hs := hs.below_ hbl; exact (r_subi rfl rfl (by omega))) ?_
            refine f_v (fun wl hbl => by have hs := hs.below_ hbl; exact (r_indexAddr_l1 (k := i - 16) Tryd.underlying90 I71 rfl (ivn (by omega)) (by omega))) ?_
            refine f_v (fun wl hbl => by have hs := hs.below_ hbl; exact (r_load Tryd.underlying71 rfl (hs.rowAt (getD_map32 WL (i - 16) (by omega))))) ?_
            refine f_v (fun wl hbl => by have hs := hs.below_ hbl; first | exact (r_move (v := u32V _) rfl) | exact (r_move rfl)) ?_
            refine f_v (fun wl hbl => by have hs := hs.below_ hbl; exact (r_add32 rfl rfl)) ?_
            refine f_v (fun wl hbl => by have hs := hs.below_ hbl; first | exact (r_move (v := .slice _ _ _) rfl) | exact (r_move rfl)) ?_
            refine f_v (fun wl hbl => by have hs := hs.below_ hbl; first | exact (r_move (v := iV _) rfl) | exact (r_move rfl)) ?_
            refine f_v (fun wl hbl => by have hs := hs.below_ hbl; exact (r_subi rfl rfl (by omega))) ?_
            refine f_v (fun wl hbl => by have hs := hs.below_ hbl; exact (r_indexAddr_l1 (k := i - 7) Tryd.underlying90 I71 rfl (ivn (by omega)) (by omega))) ?_
            refine f_v (fun wl hbl => by have hs := hs.below_ hbl; exact (r_load Tryd.underlying71 rfl (hs.rowAt (getD_map32 WL (i - 7) (by omega))))) ?_
            refine f_v (fun wl hbl => by have hs := hs.below_ hbl; exact (r_add32 rfl rfl)) ?_
            refine f_v (fun wl hbl => by have hs := hs.below_ hbl; first | exact (r_move (v := u32V _) rfl) | exact (r_move rfl)) ?_
            refine f_v (fun wl hbl => by have hs := hs.below_ hbl; exact (r_add32 rfl rfl)) ?_
            refine f_lit1 [u32V _] (hs.below_ hbF) Tryd.underlying90 I71 rfl (by simp [Value.oneCell']) rfl (by decide) (by decide) ?_
            intro b122 w122 hsN hB122 hlt122
            have hbF := hbF.trans (Below.mono hB122 hbF.size)
            refine f_nil ?_
            have hs := hsN
            show OkL _ _ _ _ (_ :: _) _ _
            refine l_append_lit Tryd.underlying90 I71 rfl (by decide) rfl rfl hs rfl (by simp [Value.oneCell']) (by omega) (by omega) ?_
            intro v123 w123 hs
            refine l_v (by first | exact (r_assign (v := .slice _ _ _) rfl) | exact (r_assign rfl)) ?_
            refine l_nil (nrm_block (nrm_then ?_))
            refine c_region ?_
            refine l_v (by first | exact (r_move (v := iV _) rfl) | exact (r_move rfl)) ?_
            refine l_v (r_addi rfl rfl (by omega)) ?_
            refine l_v (by first | exact (r_assign (v := iV _) rfl) | exact (r_assign rfl)) ?_
            refine l_nil (nrm_then ?_)
            refine And.intro (by refine ⟨?_, ?_, ?_, ?_, ?_, trivial⟩ <;> ((conv => lhs; whnf); (try conv => rhs; whnf))) ?_
            refine ⟨63 - i, by omega, i + 1, v123, by omega, rfl, rfl, ?_⟩
            have hn : nextW ((P.drop (64 * q)).take 64) WL = WL.getD (i - 16) 0 + (rotr (WL.getD (i - 15) 0) 7 ^^^ rotr (WL.getD (i - 15) 0) 18 ^^^ WL.getD (i - 15) 0 / 8) + WL.getD (i - 7) 0 + (rotr (WL.getD (i - 2) 0) 17 ^^^ rotr (WL.getD (i - 2) 0) 19 ^^^ WL.getD (i - 2) 0 / 1024) := by
              unfold nextW; rw [hWl, if_neg (by omega), ← shr_div _ 3 8 (by decide), ← shr_div _ 10 1024 (by decide)]; rfl
            rw [hnext, hn]
            exact own32_add hs
        · replace hi64 := of_decide_eq_false hi64
          refine c_exit (ex_then (ex_then (ex_hit (nrm_then ?_))))
          refine c_seq ?_
          obtain rfl : i = 64 := by omega
          have hmx : mix st ((P.drop (64 * q)).take 64) = st.add (rnds (wl ((P.drop (64 * q)).take 64) 64) st 64) := rfl
          clear hnext
          generalize hWe : wl ((P.drop (64 * q)).take 64) 64 = WL at *
          obtain ⟨ad, c, rfl, hc⟩ := hs.rowAd (by omega)
          refine c_float [] 15 (by kernel_rfl) (by kernel_rfl) ?_
          intro hbF
          show OkF _ _ _ _ _ _ (_ :: _) 0 _ _
          refine f_v (fun wl hbl => by have hs := hs.below_ hbl; first | exact (r_move (v := .slice _ _ _) rfl) | exact (r_move rfl)) ?_
          refine f_v (fun wl hbl => by have hs := hs.below_ hbl; exact (r_indexAddr_o1 (k := 0) Tryd.underlying90 I71 rfl rfl (by decide))) ?_
          refine f_v (fun wl hbl => by have hs := hs.below_ hbl; exact (r_load_at (i := 2) (v := u32V st.a) hs rfl Tryd.underlying71 rfl rfl)) ?_
          refine f_v (fun wl hbl => by have hs := hs.below_ hbl; first | exact (r_move (v := .slice _ _ _) rfl) | exact (r_move rfl)) ?_
          refine f_v (fun wl hbl => by have hs := hs.below_ hbl; exact (r_indexAddr_o1 (k := 1) Tryd.underlying90 I71 rfl rfl (by decide))) ?_
          refine f_v (fun wl hbl => by have hs := hs.below_ hbl; exact (r_load_at (i := 2) (v := u32V st.b) hs rfl Tryd.underlying71 rfl rfl)) ?_
          refine f_v (fun wl hbl => by have hs := hs.below_ hbl; first | exact (r_move (v := .slice _ _ _) rfl) | exact (r_move rfl)) ?_
          refine f_v (fun wl hbl => by have hs := hs.below_ hbl; exact (r_indexAddr_o1 (k := 2) Tryd.underlying90 I71 rfl rfl (by decide))) ?_
          refine f_v (fun wl hbl => by have hs := hs.below_ hbl; exact (r_load_at (i := 2) (v := u32V st.c) hs rfl Tryd.underlying71 rfl rfl)) ?_
          refine f_v (fun wl hbl => by have hs := hs.below_ hbl; first | exact (r_move (v := .slice _ _ _) rfl) | exact (r_move rfl)) ?_
          refine f_v (fun wl hbl => by have hs := hs.below_ hbl; exact (r_indexAddr_o1 (k := 3) Tryd.underlying90 I71 rfl rfl (by decide))) ?_
          refine f_v (fun wl hbl => by have hs := hs.below_ hbl; exact (r_load_at (i := 2) (v := u32V st.d) hs rfl Tryd.underlying71 rfl rfl)) ?_
          refine f_v (fun wl hbl => by have hs := hs.below_ hbl; first | exact (r_assign (v := u32V _) rfl) | exact (r_assign rfl)) ?_
          refine f_v (fun wl hbl => by have hs := hs.below_ hbl; first | exact (r_assign (v := u32V _) rfl) | exact (r_assign rfl)) ?_
          refine f_v (fun wl hbl => by have hs := hs.below_ hbl; first | exact (r_assign (v := u32V _) rfl) | exact (r_assign rfl)) ?_
          refine f_nil ?_
          have hs := hs.below_ hbF
          show OkL _ _ _ _ (_ :: _) _ _
          refine l_v (by first | exact (r_assign (v := u32V _) rfl) | exact (r_assign rfl)) ?_
          refine l_nil (nrm_then ?_)
          refine c_seq ?_
          refine c_float [] 15 (by kernel_rfl) (by kernel_rfl) ?_
          intro hbF
          show OkF _ _ _ _ _ _ (_ :: _) 0 _ _
          refine f_v (fun wl hbl => by have hs := hs.below_ hbl; first | exact (r_move (v := .slice _ _ _) rfl) | exact (r_move rfl)) ?_
          refine f_v (fun wl hbl => by have hs := hs.below_ hbl; exact (r_indexAddr_o1 (k := 4) Tryd.underlying90 I71 rfl rfl (by decide))) ?_
          refine f_v (fun wl hbl => by have hs := hs.below_ hbl; exact (r_load_at (i := 2) (v := u32V st.e) hs rfl Tryd.underlying71 rfl rfl)) ?_
          refine f_v (fun wl hbl => by have hs := hs.below_ hbl; first | exact (r_move (v := .slice _ _ _) rfl) | exact (r_move rfl)) ?_
          refine f_v (fun wl hbl => by have hs := hs.below_ hbl; exact (r_indexAddr_o1 (k := 5) Tryd.underlying90 I71 rfl rfl (by decide))) ?_
          refine f_v (fun wl hbl => by have hs := hs.below_ hbl; exact (r_load_at (i := 2) (v := u32V st.f) hs rfl Tryd.underlying71 rfl rfl)) ?_
          refine f_v (fun wl hbl => by have hs := hs.below_ hbl; first | exact (r_move (v := .slice _ _ _) rfl) | exact (r_move rfl)) ?_
          refine f_v (fun wl hbl => by have hs := hs.below_ hbl; exact (r_indexAddr_o1 (k := 6) Tryd.underlying90 I71 rfl rfl (by decide))) ?_
          refine f_v (fun wl hbl => by have hs := hs.below_ hbl; exact (r_load_at (i := 2) (v := u32V st.g) hs rfl Tryd.underlying71 rfl rfl)) ?_
          refine f_v (fun wl hbl => by have hs := hs.below_ hbl; first | exact (r_move (v := .slice _ _ _) rfl) | exact (r_move rfl)) ?_
          refine f_v (fun wl hbl => by have hs := hs.below_ hbl; exact (r_indexAddr_o1 (k := 7) Tryd.underlying90 I71 rfl rfl (by decide))) ?_
          refine f_v (fun wl hbl => by have hs := hs.below_ hbl; exact (r_load_at (i := 2) (v := u32V st.h) hs rfl Tryd.underlying71 rfl rfl)) ?_
          refine f_v (fun wl hbl => by have hs := hs.below_ hbl; first | exact (r_assign (v := u32V _) rfl) | exact (r_assign rfl)) ?_
          refine f_v (fun wl hbl => by have hs := hs.below_ hbl; first | exact (r_assign (v := u32V _) rfl) | exact (r_assign rfl)) ?_
          refine f_v (fun wl hbl => by have hs := hs.below_ hbl; first | exact (r_assign (v := u32V _) rfl) | exact (r_assign rfl)) ?_
          refine f_nil ?_
          have hs := hs.below_ hbF
          show OkL _ _ _ _ (_ :: _) _ _
          refine l_v (by first | exact (r_assign (v := u32V _) rfl) | exact (r_assign rfl)) ?_
          refine l_nil (nrm_then ?_)
          refine c_seq ?_
          refine c_rseq ?_
          refine l_v (by first | exact (r_assign (v := iV _) rfl) | exact (r_assign rfl)) ?_
          refine l_nil (nrm_then ?_)
          refine c_block ?_
          refine c_loopn [2, 3, 4, 5, 6, 7] (fun m f' w' => ∃ k, k + m = 64 ∧ f' 21 = iV (k : Int) ∧ (f' 13 = u32V (rnds WL st k).a ∧ f' 14 = u32V (rnds WL st k).b ∧ f' 15 = u32V (rnds WL st k).c ∧ f' 16 = u32V (rnds WL st k).d ∧ f' 17 = u32V (rnds WL st k).e ∧ f' 18 = u32V (rnds WL st k).f ∧ f' 19 = u32V (rnds WL st k).g ∧ f' 20 = u32V (rnds WL st k).h) ∧ Sep w w' [own32 (.slice (some ad) WL.length c) WL, blk bn (K.map u32V) 71, blk b30 (st.list.map u32V) 71, blk b2 (List.replicate 32 (Value.int .u8 0)) 68]) ?_ ?_
          · exact ⟨64, 0, rfl, rfl, ⟨rfl, rfl, rfl, rfl, rfl, rfl, rfl, rfl⟩, hs⟩
          · rintro m g w_ ⟨k, hk, h21, ⟨h13, h14, h15, h16, h17, h18, h19, h20⟩, hs⟩
            refine OkC.env ?_ (fixH (L := [(21, _), (13, _), (14, _), (15, _), (16, _), (17, _), (18, _), (19, _), (20, _)]) ⟨h21, h13, h14, h15, h16, h17, h18, h19, h20, trivial⟩)
            clear h21 h13 h14 h15 h16 h17 h18 h19 h20
            refine c_seq ?_
            refine c_rseq ?_
            refine l_v (by first | exact (r_move (v := iV _) rfl) | exact (r_move rfl)) ?_
            refine l_v (r_lssi rfl rfl) ?_
            refine l_nil (nrm_then ?_)
            refine c_cond rfl (fun hk64 => ?_) (fun hk64 => ?_)
            · replace hk64 := of_decide_eq_true hk64
              refine c_skip (nrm_then ?_)
              refine c_seq ?_
              refine c_block ?_
              refine c_seq ?_
              have hr : rnds WL st (k + 1) = rnd (K.getD k 0) (WL.getD k 0) (rnds WL st k) := rfl
              generalize hS : rnds WL st k = S at *
              have hK : (K.map u32V)[k]? = some (u32V (K.getD k 0)) := getD_map32 _ _ (by show k < 64; omega)
              have hKl : k < 64 := by omega
              have hW : (WL.map u32V)[k]? = some (u32V (WL.getD k 0)) := getD_map32 _ _ (by omega)
              generalize hKk : K.getD k 0 = Kk at *
              refine c_float [7, 4, 2] 28 (by kernel_rfl) (by kernel_rfl) ?_
              intro hbF
              show OkF _ _ _ _ _ _ (_ :: _) 0 _ _
              refine f_v (fun wl hbl => by have hs := hs.below_ hbl; first | exact (r_move (v := u32V _) rfl) | exact (r_move rfl)) ?_
              refine f_v (fun wl hbl => by have hs := hs.below_ hbl; first | exact (r_move (v := u32V _) rfl) | exact (r_move rfl)) ?_
              refine f_call (r_call Tryd.func49 rfl rfl) ?_
              refine Calls.mono (turnr_c _ 6 _ (by decide)) ?_
              rintro e w_ ⟨rfl, rfl⟩
              refine ⟨_, rfl, Below.refl _ _, ?_⟩
              refine f_v (fun wl hbl => by have hs := hs.below_ hbl; first | exact (r_move (v := u32V _) rfl) | exact (r_move rfl)) ?_
              refine f_call (r_call Tryd.func49 rfl rfl) ?_
              refine Calls.mono (turnr_c _ 11 _ (by decide)) ?_
              rintro e w_ ⟨rfl, rfl⟩
              refine ⟨_, rfl, Below.refl _ _, ?_⟩
              refine f_v (fun wl hbl => by have hs := hs.below_ hbl; exact (r_xor32 rfl rfl)) ?_
              refine f_v (fun wl hbl => by have hs := hs.below_ hbl; first | exact (r_move (v := u32V _) rfl) | exact (r_move rfl)) ?_
              refine f_call (r_call Tryd.func49 rfl rfl) ?_
              refine Calls.mono (turnr_c _ 25 _ (by decide)) ?_
              rintro e w_ ⟨rfl, rfl⟩
              refine ⟨_, rfl, Below.refl _ _, ?_⟩
              refine f_v (fun wl hbl => by have hs := hs.below_ hbl; exact (r_xor32 rfl rfl)) ?_
              refine f_v (fun wl hbl => by have hs := hs.below_ hbl; exact (r_add32 rfl rfl)) ?_
              refine f_v (fun wl hbl => by have hs := hs.below_ hbl; first | exact (r_move (v := u32V _) rfl) | exact (r_move rfl)) ?_
              refine f_v (fun wl hbl => by have hs := hs.below_ hbl; first | exact (r_move (v := u32V _) rfl) | exact (r_move rfl)) ?_
              refine f_v (fun wl hbl => by have hs := hs.below_ hbl; exact (r_and32 rfl rfl)) ?_
              refine f_v (fun wl hbl => by have hs := hs.below_ hbl; first | exact (r_move (v := u32V _) rfl) | exact (r_move rfl)) ?_
              refine f_v (fun wl hbl => by have hs := hs.below_ hbl; exact (r_sub32 (a := 4294967295) rfl rfl)) ?_
              refine f_v (fun wl hbl => by have hs := hs.below_ hbl; first | exact (r_move (v := u32V _) rfl) | exact (r_move rfl)) ?_
              refine f_v (fun wl hbl => by have hs := hs.below_ hbl; exact (r_and32 rfl rfl)) ?_
              refine f_v (fun wl hbl => by have hs := hs.below_ hbl; exact (r_xor32 rfl rfl)) ?_
              refine f_v (fun wl hbl => by have hs := hs.below_ hbl; exact (r_add32 rfl rfl)) ?_
              refine f_v (fun wl hbl => by have hs := hs.below_ hbl; first | exact (r_move (v := .slice _ _ _) rfl) | exact (r_move rfl)) ?_
              refine f_v (fun wl hbl => by have hs := hs.below_ hbl; first | exact (r_move (v := iV _) rfl) | exact (r_move rfl)) ?_
              refine f_v (fun wl hbl => by have hs := hs.below_ hbl; exact (r_indexAddr_o1 (k := k) Tryd.underlying90 I71 rfl rfl hKl)) ?_
              refine f_v (fun wl hbl => by have hs := hs.below_ hbl; exact (r_load_at (i := 1) hs rfl Tryd.underlying71 rfl hK)) ?_
              refine f_v (fun wl hbl => by have hs := hs.below_ hbl; exact (r_add32 rfl rfl)) ?_
              refine f_v (fun wl hbl => by have hs := hs.below_ hbl; first | exact (r_move (v := .slice _ _ _) rfl) | exact (r_move rfl)) ?_
              refine f_v (fun wl hbl => by have hs := hs.below_ hbl; first | exact (r_move (v := iV _) rfl) | exact (r_move rfl)) ?_
              refine f_v (fun wl hbl => by have hs := hs.below_ hbl; exact (r_indexAddr_l1 (k := k) Tryd.underlying90 I71 rfl rfl (by omega))) ?_
              refine f_v (fun wl hbl => by have hs := hs.below_ hbl; exact (r_load Tryd.underlying71 rfl (hs.rowAt hW))) ?_
              refine f_nil ?_
              have hs := hs.below_ hbF
              show OkL _ _ _ _ (_ :: _) _ _
              refine l_v (r_add32 rfl rfl) ?_
              refine l_v (by first | exact (r_assign (v := u32V _) rfl) | exact (r_assign rfl)) ?_
              refine l_nil (nrm_then ?_)
              refine c_rseq ?_
              refine l_v (by first | exact (r_move (v := u32V _) rfl) | exact (r_move rfl)) ?_
              refine l_call (r_call Tryd.func49 rfl rfl) ?_
              refine Calls.mono (turnr_c _ 2 _ (by decide)) ?_
              rintro e w_ ⟨rfl, rfl⟩
              refine ⟨_, rfl, ?_⟩
              refine l_v (by first | exact (r_move (v := u32V _) rfl) | exact (r_move rfl)) ?_
              refine l_call (r_call Tryd.func49 rfl rfl) ?_
              refine Calls.mono (turnr_c _ 13 _ (by decide)) ?_
              rintro e w_ ⟨rfl, rfl⟩
              refine ⟨_, rfl, ?_⟩
              refine l_v (r_xor32 rfl rfl) ?_
              refine l_v (by first | exact (r_move (v := u32V _) rfl) | exact (r_move rfl)) ?_
              refine l_call (r_call Tryd.func49 rfl rfl) ?_
              refine Calls.mono (turnr_c _ 22 _ (by decide)) ?_
              rintro e w_ ⟨rfl, rfl⟩
              refine ⟨_, rfl, ?_⟩
              refine l_v (r_xor32 rfl rfl) ?_
              refine l_v (by first | exact (r_move (v := u32V _) rfl) | exact (r_move rfl)) ?_
              refine l_v (by first | exact (r_move (v := u32V _) rfl) | exact (r_move rfl)) ?_
              refine l_v (r_and32 rfl rfl) ?_
              refine l_v (by first | exact (r_move (v := u32V _) rfl) | exact (r_move rfl)) ?_
              refine l_v (by first | exact (r_move (v := u32V _) rfl) | exact (r_move rfl)) ?_
              refine l_v (r_and32 rfl rfl) ?_
              refine l_v (r_xor32 rfl rfl) ?_
              refine l_v (by first | exact (r_move (v := u32V _) rfl) | exact (r_move rfl)) ?_
              refine l_v (by first | exact (r_move (v := u32V _) rfl) | exact (r_move rfl)) ?_
              refine l_v (r_and32 rfl rfl) ?_
              refine l_v (r_xor32 rfl rfl) ?_
              refine l_v (r_add32 rfl rfl) ?_
              refine l_v (by first | exact (r_assign (v := u32V _) rfl) | exact (r_assign rfl)) ?_
              refine l_nil (nrm_then ?_)
              refine c_rseq ?_
              refine l_v (by first | exact (r_move (v := u32V _) rfl) | exact (r_move rfl)) ?_
              refine l_v (by first | exact (r_move (v := u32V _) rfl) | exact (r_move rfl)) ?_
              refine l_v (by first | exact (r_move (v := u32V _) rfl) | exact (r_move rfl)) ?_
              refine l_v (by first | exact (r_move (v := u32V _) rfl) | exact (r_move rfl)) ?_
              refine l_v (by first | exact (r_move (v := u32V _) rfl) | exact (r_move rfl)) ?_
              refine l_v (r_add32 rfl rfl) ?_
              refine l_v (by first | exact (r_assign (v := u32V _) rfl) | exact (r_assign rfl)) ?_
              refine l_v (by first | exact (r_assign (v := u32V _) rfl) | exact (r_assign rfl)) ?_
              refine l_v (by first | exact (r_assign (v := u32V _) rfl) | exact (r_assign rfl)) ?_
              refine l_v (by first | exact (r_assign (v := u32V _) rfl) | exact (r_assign rfl)) ?_
              refine l_nil (nrm_then ?_)
              refine c_region ?_
              refine l_v (by first | exact (r_move (v := u32V _) rfl) | exact (r_move rfl)) ?_
              refine l_v (by first | exact (r_move (v := u32V _) rfl) | exact (r_move rfl)) ?_
              refine l_v (by first | exact (r_move (v := u32V _) rfl) | exact (r_move rfl)) ?_
              refine l_v (by first | exact (r_move (v := u32V _) rfl) | exact (r_move rfl)) ?_
              refine l_v (by first | exact (r_move (v := u32V _) rfl) | exact (r_move rfl)) ?_
              refine l_v (r_add32 rfl rfl) ?_
              refine l_v (by first | exact (r_assign (v := u32V _) rfl) | exact (r_assign rfl)) ?_
              refine l_v (by first | exact (r_assign (v := u32V _) rfl) | exact (r_assign rfl)) ?_
              refine l_v (by first | exact (r_assign (v := u32V _) rfl) | exact (r_assign rfl)) ?_
              refine l_v (by first | exact (r_assign (v := u32V _) rfl) | exact (r_assign rfl)) ?_
              refine l_nil (nrm_block (nrm_then ?_))
              refine c_region ?_
              refine l_v (by first | exact (r_move (v := iV _) rfl) | exact (r_move rfl)) ?_
              refine l_v (r_addi rfl rfl (by omega)) ?_
              refine l_v (by first | exact (r_assign (v := iV _) rfl) | exact (r_assign rfl)) ?_
              refine l_nil (nrm_then ?_)
              refine And.intro (by refine ⟨?_, ?_, ?_, ?_, ?_, ?_, trivial⟩ <;> ((conv => lhs; whnf); (try conv => rhs; whnf))) ?_
              refine ⟨63 - k, by omega, k + 1, by omega, rfl, ?_, hs⟩
              rw [hr]
              refine ⟨?_, rfl, rfl, rfl, ?_, rfl, rfl, rfl⟩
              · show u32V _ = u32V _
                unfold rnd
                rw [not_sub]
              · show u32V _ = u32V _
                unfold rnd
                rw [not_sub]
            · replace hk64 := of_decide_eq_false hk64
              refine c_exit (ex_then (ex_then (ex_hit (nrm_then ?_))))
              refine c_rseq ?_
              refine l_v (by first | exact (r_move (v := u32V _) rfl) | exact (r_move rfl)) ?_
              refine l_v (by first | exact (r_move (v := u32V _) rfl) | exact (r_move rfl)) ?_
              refine l_v (by first | exact (r_move (v := u32V _) rfl) | exact (r_move rfl)) ?_
              refine l_v (by first | exact (r_move (v := u32V _) rfl) | exact (r_move rfl)) ?_
              refine l_v (by first | exact (r_move (v := u32V _) rfl) | exact (r_move rfl)) ?_
              refine l_v (by first | exact (r_move (v := u32V _) rfl) | exact (r_move rfl)) ?_
              refine l_v (by first | exact (r_move (v := u32V _) rfl) | exact (r_move rfl)) ?_
              refine l_v (by first | exact (r_move (v := u32V _) rfl) | exact (r_move rfl)) ?_
              refine l_lit1 [u32V _, u32V _, u32V _, u32V _, u32V _, u32V _, u32V _, u32V _] hs Tryd.underlying90 I71 rfl (by simp [Value.oneCell']) rfl (by decide) (by decide) ?_
              intro b221 w221 hs hB221 hlt221
              refine l_v (by first | exact (r_assign (v := .slice _ _ _) rfl) | exact (r_assign rfl)) ?_
              refine l_nil (nrm_then ?_)
              refine c_rseq ?_
              refine l_v (by first | exact (r_assign (v := iV _) rfl) | exact (r_assign rfl)) ?_
              refine l_nil (nrm_then ?_)
              refine c_block ?_
              obtain rfl : k = 64 := by omega
              generalize hR : rnds WL st 64 = R at *
              have hs : Sep w w221 [blk b221 (R.list.map u32V) 71, own32 (.slice (some ad) WL.length c) WL, blk bn (K.map u32V) 71, blk b30 (upto st.list R.list 0) 71, blk b2 (List.replicate 32 (Value.int .u8 0)) 68] := by rw [upto_0]; exact hs
              have hlr := (St_len st).trans (St_len R).symm
              have hls := St_len st
              refine c_loopn [2, 3, 4, 5, 6, 24] (fun m f' w' => ∃ k, k + m = 8 ∧ f' 25 = iV (k : Int) ∧ Sep w w' [blk b221 (R.list.map u32V) 71, own32 (.slice (some ad) WL.length c) WL, blk bn (K.map u32V) 71, blk b30 (upto st.list R.list k) 71, blk b2 (List.replicate 32 (Value.int .u8 0)) 68]) ?_ ?_
              · exact ⟨8, 0, rfl, rfl, hs⟩
              · rintro m g w_ ⟨k, hk, h25, hs⟩
                refine OkC.env ?_ (fixH (L := [(25, _)]) ⟨h25, trivial⟩)
                clear h25
                refine c_seq ?_
                refine c_rseq ?_
                refine l_v (by first | exact (r_move (v := iV _) rfl) | exact (r_move rfl)) ?_
                refine l_v (r_lssi rfl rfl) ?_
                refine l_nil (nrm_then ?_)
                refine c_cond rfl (fun hk8 => ?_) (fun hk8 => ?_)
                · replace hk8 := of_decide_eq_true hk8
                  refine c_skip (nrm_then ?_)
                  refine c_seq ?_
                  refine c_block ?_
                  have hup := upto_at st.list R.list k hlr (by omega)
                  have hk8' : k < 8 := by omega
                  refine c_float [] 11 (by kernel_rfl) (by kernel_rfl) ?_
                  intro hbF
                  show OkF _ _ _ _ _ _ (_ :: _) 0 _ _
                  refine f_v (fun wl hbl => by have hs := hs.below_ hbl; first | exact (r_move (v := .slice _ _ _) rfl) | exact (r_move rfl)) ?_
                  refine f_v (fun wl hbl => by have hs := hs.below_ hbl; first | exact (r_move (v := iV _) rfl) | exact (r_move rfl)) ?_
                  refine f_v (fun wl hbl => by have hs := hs.below_ hbl; first | exact (r_move (v := .slice _ _ _) rfl) | exact (r_move rfl)) ?_
                  refine f_v (fun wl hbl => by have hs := hs.below_ hbl; first | exact (r_move (v := iV _) rfl) | exact (r_move rfl)) ?_
                  refine f_v (fun wl hbl => by have hs := hs.below_ hbl; exact (r_indexAddr_o1 (k := k) Tryd.underlying90 I71 rfl rfl hk8')) ?_
                  refine f_v (fun wl hbl => by have hs := hs.below_ hbl; exact (r_load_at (i := 3) hs rfl Tryd.underlying71 rfl hup.1)) ?_
                  refine f_v (fun wl hbl => by have hs := hs.below_ hbl; first | exact (r_move (v := .slice _ _ _) rfl) | exact (r_move rfl)) ?_
                  refine f_v (fun wl hbl => by have hs := hs.below_ hbl; first | exact (r_move (v := iV _) rfl) | exact (r_move rfl)) ?_
                  refine f_v (fun wl hbl => by have hs := hs.below_ hbl; exact (r_indexAddr_o1 (k := k) Tryd.underlying90 I71 rfl rfl hk8')) ?_
                  refine f_v (fun wl hbl => by have hs := hs.below_ hbl; exact (r_load_at (i := 0) hs rfl Tryd.underlying71 rfl (getD_map32 _ _ (by rw [St_len]; omega)))) ?_
                  refine f_v (fun wl hbl => by have hs := hs.below_ hbl; exact (r_add32 rfl rfl)) ?_
                  refine f_nil ?_
                  have hs := hs.below_ hbF
                  show OkL _ _ _ _ (_ :: _) _ _
                  refine l_v (r_indexAddr_o1 (k := k) Tryd.underlying90 I71 rfl rfl hk8') ?_
                  refine l_store (i := 3) (v := u32V _) hs rfl I71 rfl rfl (by rw [hup.2.2]; omega) ?_
                  intro w9 hs
                  refine l_nil (nrm_block (nrm_then ?_))
                  refine c_region ?_
                  refine l_v (by first | exact (r_move (v := iV _) rfl) | exact (r_move rfl)) ?_
                  refine l_v (r_addi rfl rfl (by omega)) ?_
                  refine l_v (by first | exact (r_assign (v := iV _) rfl) | exact (r_assign rfl)) ?_
                  refine l_nil (nrm_then ?_)
                  refine And.intro (by refine ⟨?_, ?_, ?_, ?_, ?_, ?_, trivial⟩ <;> ((conv => lhs; whnf); (try conv => rhs; whnf))) ?_
                  refine ⟨7 - k, by omega, k + 1, by omega, rfl, ?_⟩
                  rw [← hup.2.1]
                  exact hs
                · replace hk8 := of_decide_eq_false hk8
                  refine c_exit (ex_then (ex_then (ex_hit (nrm_block (nrm_then ?_)))))
                  refine c_region ?_
                  refine l_v (by first | exact (r_move (v := iV _) rfl) | exact (r_move rfl)) ?_
                  refine l_v (r_addi rfl rfl (by omega)) ?_
                  refine l_v (by first | exact (r_assign (v := iV _) rfl) | exact (r_assign rfl)) ?_
                  refine l_nil (nrm_then ?_)
                  obtain rfl : k = 8 := by omega
                  rw [upto_8, ← hmx] at hs
                  refine And.intro (by refine ⟨?_, ?_, ?_, ?_, trivial⟩ <;> ((conv => lhs; whnf); (try conv => rhs; whnf))) ?_
                  refine ⟨(P.length - (64 * q + 64)) / 64, by omega, q + 1, by omega, congrArg iV (by omega), ?_⟩
                  rw [hst]
                  exact hs.drop.drop
    · replace h := of_decide_eq_false h
      refine c_exit (ex_then (ex_then (ex_hit (nrm_then ?_))))
      refine c_rseq ?_
      refine l_alloc hs I68 ?_
      intro b26 w26 hs hB26 hlt26
      refine l_nil (nrm_then ?_)
      refine c_seq ?_
      refine c_rseq ?_
      refine l_v (by first | exact (r_assign (v := iV _) rfl) | exact (r_assign rfl)) ?_
      refine l_nil (nrm_then ?_)
      refine c_block ?_
      have hq64 : 64 * q = P.length := by have := size_ofL P; omega
      obtain rfl : q = P.length / 64 := by omega
      generalize Sha.hs P (P.length / 64) = X at *
      have hDl := flat_len X
      have hDb := out_byte X
      generalize hDD : X.list.flatMap be = D at *
      refine c_loopn [2, 3, 26] (fun m f' w' => ∃ k o, k + m = 8 ∧ f' 27 = iV (k : Int) ∧ got D o k 0 ∧ Sep w w' [blk b26 (o.map u8V) 68, blk bn (K.map u32V) 71, blk b30 (X.list.map u32V) 71, blk b2 (List.replicate 32 (Value.int .u8 0)) 68]) ?_ ?_
      · exact ⟨8, 0, List.replicate 32 0, rfl, rfl, ⟨rfl, fun i hi => by omega, fun i hi hi2 => by omega⟩, hs⟩
      · rintro m g w_ ⟨k, o, hk, h27, ho, hs⟩
        refine OkC.env ?_ (fixH (L := [(27, _)]) ⟨h27, trivial⟩)
        clear h27
        refine c_seq ?_
        refine c_rseq ?_
        refine l_v (by first | exact (r_move (v := iV _) rfl) | exact (r_move rfl)) ?_
        refine l_v (r_lssi rfl rfl) ?_
        refine l_nil (nrm_then ?_)
        refine c_cond rfl (fun hk8 => ?_) (fun hk8 => ?_)
        · have hk8' : k < 8 := by have := of_decide_eq_true hk8; omega
          replace hk8 := of_decide_eq_true hk8
          refine c_skip (nrm_then ?_)
          refine c_seq ?_
          refine c_block ?_
          refine c_rseq ?_
          refine l_v (by first | exact (r_move (v := .slice _ _ _) rfl) | exact (r_move rfl)) ?_
          refine l_v (by first | exact (r_move (v := iV _) rfl) | exact (r_move rfl)) ?_
          refine l_v (r_indexAddr_o1 (k := k) Tryd.underlying90 I71 rfl rfl hk8') ?_
          refine l_v (r_load_at (i := 2) hs rfl Tryd.underlying71 rfl (getD_map32 X.list k (by rw [St_len]; omega))) ?_
          refine l_v (by first | exact (r_assign (v := u32V _) rfl) | exact (r_assign rfl)) ?_
          refine l_nil (nrm_then ?_)
          refine c_rseq ?_
          refine l_v (by first | exact (r_assign (v := iV _) rfl) | exact (r_assign rfl)) ?_
          refine l_nil (nrm_then ?_)
          refine c_block ?_
          refine c_loopn [2, 3, 26, 27] (fun m f' w' => ∃ j o, j + m = 4 ∧ f' 29 = iV (3 - (j : Int)) ∧ f' 28 = u32V (X.list.getD k 0 >>> (8 * j)) ∧ got D o k j ∧ Sep w w' [blk b26 (o.map u8V) 68, blk bn (K.map u32V) 71, blk b30 (X.list.map u32V) 71, blk b2 (List.replicate 32 (Value.int .u8 0)) 68]) ?_ ?_
          · exact ⟨4, 0, o, rfl, rfl, by rw [Nat.mul_zero, BitVec.ushiftRight_zero]; rfl, ho, hs⟩
          · rintro m g w_ ⟨j, o, hj, h29, h28, ho, hs⟩
            refine OkC.env ?_ (fixH (L := [(29, _), (28, _)]) ⟨h29, h28, trivial⟩)
            clear h29 h28
            refine c_seq ?_
            refine c_rseq ?_
            refine l_v (by first | exact (r_move (v := iV _) rfl) | exact (r_move rfl)) ?_
            refine l_v (r_geqi rfl rfl) ?_
            refine l_nil (nrm_then ?_)
            refine c_cond rfl (fun hj4 => ?_) (fun hj4 => ?_)
            · replace hj4 := of_decide_eq_true hj4
              refine c_skip (nrm_then ?_)
              refine c_seq ?_
              refine c_block ?_
              refine c_rseq ?_
              refine l_v (by first | exact (r_move (v := iV _) rfl) | exact (r_move rfl)) ?_
              refine l_v (r_muli rfl rfl (by omega)) ?_
              refine l_v (by first | exact (r_move (v := iV _) rfl) | exact (r_move rfl)) ?_
              refine l_v (r_addi rfl rfl (by omega)) ?_
              refine l_v (by first | exact (r_move (v := u32V _) rfl) | exact (r_move rfl)) ?_
              refine l_v (r_rem32 (b := 256) rfl rfl (by first | decide | omega)) ?_
              refine l_v (r_cv_328 Tryd.underlying71 Tryd.underlying5 rfl) ?_
              refine l_v (r_indexAddr_a0 (k := 4 * k + (3 - j)) Tryd.underlying68 I5 rfl (ivn (by omega)) (by omega)) ?_
              refine l_store (i := 0) (v := u8V _) hs rfl I5 rfl rfl (by rw [List.length_map, ho.1]; omega) ?_
              intro w9 hs
              refine l_nil (nrm_then ?_)
              refine c_region ?_
              refine l_v (by first | exact (r_move (v := u32V _) rfl) | exact (r_move rfl)) ?_
              refine l_v (r_quo32 (b := 256) rfl rfl (by first | decide | omega)) ?_
              refine l_v (by first | exact (r_assign (v := u32V _) rfl) | exact (r_assign rfl)) ?_
              refine l_nil (nrm_block (nrm_then ?_))
              refine c_region ?_
              refine l_v (by first | exact (r_move (v := iV _) rfl) | exact (r_move rfl)) ?_
              refine l_v (r_subi rfl rfl (by omega)) ?_
              refine l_v (by first | exact (r_assign (v := iV _) rfl) | exact (r_assign rfl)) ?_
              refine l_nil (nrm_then ?_)
              refine And.intro (by refine ⟨?_, ?_, ?_, ?_, trivial⟩ <;> ((conv => lhs; whnf); (try conv => rhs; whnf))) ?_
              refine ⟨3 - j, by omega, j + 1, o.set (4 * k + (3 - j)) (D.getD (4 * k + (3 - j)) 0), by omega, congrArg iV (by omega), ?_, got_set ho hk8' (by omega), ?_⟩
              · show u32V _ = u32V _
                rw [← sh_next]
              · rw [hDb k (3 - j) hk8' (by omega), show 24 - 8 * (3 - j) = 8 * j by omega, ← byte_low, List.map_set]
                exact hs
            · replace hj4 := of_decide_eq_false hj4
              refine c_exit (ex_then (ex_then (ex_hit (nrm_block (nrm_then ?_)))))
              refine c_region ?_
              refine l_v (by first | exact (r_move (v := iV _) rfl) | exact (r_move rfl)) ?_
              refine l_v (r_addi rfl rfl (by omega)) ?_
              refine l_v (by first | exact (r_assign (v := iV _) rfl) | exact (r_assign rfl)) ?_
              refine l_nil (nrm_then ?_)
              obtain rfl : j = 4 := by omega
              refine And.intro (by refine ⟨?_, ?_, ?_, trivial⟩ <;> ((conv => lhs; whnf); (try conv => rhs; whnf))) ?_
              exact ⟨7 - k, by omega, k + 1, o, by omega, rfl, got_next ho, hs⟩
        · replace hk8 := of_decide_eq_false hk8
          refine c_exit (ex_then (ex_then (ex_hit (nrm_then ?_))))
          refine c_rseq ?_
          obtain rfl : k = 8 := by omega
          obtain rfl := got_all ho hDl
          have hD : (o.map u8V).length = 32 := (List.length_map u8V).trans hDl
          have h32 : (List.replicate 32 (Value.int .u8 0)).length = 32 := List.length_replicate
          refine l_v (r_load_whole (i := 0) hs rfl Tryd.underlying68 I68 rfl hD) ?_
          refine l_store_whole (i := 3) hs rfl I68 rfl rfl hD h32 (one_u8 o) ?_
          intro w_ hs
          refine l_nil (nrm_then ?_)
          refine c_ret ?_
          show Fin _ _ _ _ _
          refine fin1c rfl rfl (run_loadVar_agg Tryd.underlying68 rfl I68 hD (cells_whole (hs.at_ 3).1)) ?_
          exact ⟨rfl, hs.below⟩
end Go.Proofs.YtbimboibllboeaaDoor.Sha
