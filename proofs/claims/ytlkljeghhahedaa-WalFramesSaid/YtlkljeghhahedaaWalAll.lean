/- Several texts of ours, joined. -/
import Derived.Test.YtlkljeghhahedaaPBasex
import Derived.Test.YtlkljeghhahedaaCrcFn
import Derived.Test.YtlkljeghhahedaaBase
import Derived.Test.YtlkljeghhahedaaRefFn
import Derived.Laws.Bits64
import Derived.Test.YtlkljeghhahedaaPWalFramesx

/- What the printed crc functions come to: the plain sum over lists of bytes. -/
namespace Go.Proofs.Ytlkljeghhahedaa.CrcEv
open Go Go.RowKit Go.Proofs.YtlkljeghhahedaaW.PrintWords Go.Proofs.Ytlkljeghhahedaa.PBase Go.Proofs.Ytlkljeghhahedaa.Base Go.Proofs.Ytlkljeghhahedaa.CrcFn

theorem mask (b : BitVec 32) : 0x82f63b78#32 &&& (-(b &&& 1#32)) = if b.getLsbD 0 then poly else 0#32 := by
  have h : b &&& 1#32 = if b.getLsbD 0 then 1#32 else 0#32 := by
    apply BitVec.eq_of_getLsbD_eq
    intro i hi
    rw [BitVec.getLsbD_and, BitVec.getLsbD_one]
    cases i with
    | zero => cases b.getLsbD 0 <;> simp
    | succ i => cases b.getLsbD 0 <;> simp
  rw [h]
  cases b.getLsbD 0 <;> decide
theorem step_num (x : BitVec 32) : Go.bits .xor .u32 ((x.toNat : Int) / 2) (Go.bits .and .u32 2197175160 ((-(Go.bits .and .u32 (x.toNat : Int) 1)) % 4294967296)) = ((crcStep x).toNat : Int) := by
  rw [show (1 : Int) = ((1#32 : BitVec 32).toNat : Int) from rfl, bits_and32, neg32, show (2197175160 : Int) = ((0x82f63b78#32 : BitVec 32).toNat : Int) from rfl, bits_and32, half32, bits_xor32, mask]
  rfl

theorem ev_l2 (s : ByteArray) (ps : List ByteArray) (n j i : Int) (r : Int) (d : Nat) : ∀ (x : BitVec 32) (c : Nat), c + d = 8 →
    Ev (fun k => crc_Sum.l1 k ((steps d x).toNat : Int) s (wrap64 (i + 1)) ps n j) r → Ev (fun k => crc_Sum.l2 k (x.toNat : Int) s i ps n j (c : Int)) r := by
  induction d with
  | zero =>
    intro x c hc h
    exact Ev.step (fun k => by simp only [crc_Sum.l2]; rw [if_neg (by omega)]; rfl) h
  | succ d ih =>
    intro x c hc h
    refine Ev.step (f := fun k => crc_Sum.l2 k ((crcStep x).toNat : Int) s i ps n j ((c + 1 : Nat) : Int)) (fun k => ?_) (ih _ _ (by omega) h)
    simp only [crc_Sum.l2]
    rw [if_pos (by omega), step_num, wrap64_small (by omega) (by omega)]
    rfl
theorem byte_num (x : BitVec 32) (c : UInt8) : Go.bits .xor .u32 (x.toNat : Int) ((c.toNat : Int) % 4294967296) = ((x ^^^ BitVec.ofNat 32 c.toNat).toNat : Int) := by
  rw [show ((c.toNat : Int) % 4294967296) = ((BitVec.ofNat 32 c.toNat).toNat : Int) by rw [BitVec.toNat_ofNat]; rfl, bits_xor32]
theorem ev_l1 (s : ByteArray) (hs : s.size ≤ 9223372036854775806) (ps : List ByteArray) (n j : Int) (r : Int) (d : Nat) : ∀ (x : BitVec 32) (i : Nat), i + d = s.size →
    Ev (fun k => crc_Sum.l0 k ((run x ((toL s).drop i)).toNat : Int) ps n (wrap64 (j + 1))) r → Ev (fun k => crc_Sum.l1 k (x.toNat : Int) s (i : Int) ps n j) r := by
  induction d with
  | zero =>
    intro x i hi h
    rw [List.drop_of_length_le (by rw [← size_eq]; omega)] at h
    exact Ev.step (fun k => by simp only [crc_Sum.l1]; rw [if_neg (by omega)]; rfl) h
  | succ d ih =>
    intro x i hi h
    have hlt : i < (toL s).length := by rw [← size_eq]; omega
    refine Ev.step (f := fun k => crc_Sum.l2 k ((x ^^^ BitVec.ofNat 32 ((toL s).getD i 0).toNat).toNat : Int) s (i : Int) ps n j ((0 : Nat) : Int)) (fun k => ?_) (ev_l2 s ps n j i r 8 _ 0 rfl ?_)
    · simp only [crc_Sum.l1]
      rw [if_pos (by omega), if_pos (by omega), bt_eq, byte_num]
      rfl
    · rw [wrap64_small (by omega) (by omega)]
      refine ih _ (i + 1) (by omega) ?_
      rw [List.drop_eq_getElem_cons hlt] at h
      rw [List.getD_eq_getElem?_getD, List.getElem?_eq_getElem hlt]
      exact h
theorem ev_l0 (ps : List ByteArray) (hl : ps.length ≤ 9223372036854775806) (hs : ∀ s ∈ ps, s.size ≤ 9223372036854775806) (d : Nat) : ∀ (x : BitVec 32) (j : Nat), j + d = ps.length →
    Ev (fun k => crc_Sum.l0 k (x.toNat : Int) ps (ps.length : Int) (j : Int)) ((~~~ (run x ((ps.drop j).flatMap toL))).toNat : Int) := by
  induction d with
  | zero =>
    intro x j hj
    rw [List.drop_of_length_le (by omega)]
    refine Ev.step (f := fun _ => some ((~~~ x).toNat : Int)) (fun k => ?_) (Ev.now _)
    simp only [crc_Sum.l0]
    rw [if_neg (by omega), show (4294967295 : Int) = ((BitVec.allOnes 32).toNat : Int) from rfl, bits_xor32, BitVec.allOnes_xor]
  | succ d ih =>
    intro x j hj
    have hlt : j < ps.length := by omega
    rw [List.drop_eq_getElem_cons hlt, List.flatMap_cons, run_append]
    refine Ev.step (f := fun k => crc_Sum.l1 k (x.toNat : Int) ps[j] ((0 : Nat) : Int) ps (ps.length : Int) (j : Int)) (fun k => ?_) (ev_l1 ps[j] (hs _ (List.getElem_mem hlt)) ps _ _ _ ps[j].size x 0 (by omega) ?_)
    · simp only [crc_Sum.l0]
      rw [if_pos (by omega), if_pos (by omega), if_pos (by omega)]
      have e : rdOf ByteArray.empty ps (j : Int) = ps[j] := by
        simp [rdOf, List.getD_eq_getElem?_getD, List.getElem?_eq_getElem hlt]
      rw [e]
      rfl
    · rw [wrap64_small (by omega) (by omega), List.drop_zero]
      exact ih _ (j + 1) (by omega)
/-- The sum of any texts. -/
theorem ev_sum (ps : List ByteArray) (hl : ps.length ≤ 9223372036854775806) (hs : ∀ s ∈ ps, s.size ≤ 9223372036854775806) :
    Ev (fun k => crc_Sum.f k ps) ((crc (ps.flatMap toL)).toNat : Int) :=
  ev_l0 ps hl hs ps.length (BitVec.allOnes 32) 0 (by omega)
theorem four_num (x : BitVec 32) : (([((x.toNat : Int) / 16777216) % 256, ((x.toNat : Int) / 65536) % 256, ((x.toNat : Int) / 256) % 256, ((x.toNat : Int)) % 256] : List Int).map fun n => UInt8.ofNat n.toNat) = four x := by
  have := x.isLt
  simp only [List.map_cons, List.map_nil, four, fourN]
  congr 1
  · congr 1
    omega
theorem ev_put (s : ByteArray) (hs : s.size ≤ 9223372036854775800) : Ev (fun k => crc_Put.f k s) (ofL (put (toL s))) := by
  unfold crc_Put.f
  have h1 := ev_sum [s] (by simp) (by intro t ht; simp at ht; subst ht; omega)
  simp only [List.flatMap_cons, List.flatMap_nil, List.append_nil] at h1
  refine Ev.bind h1 (Ev.congr (f := fun _ => some (ofL (put (toL s)))) (fun k => ?_) (Ev.now _))
  simp only [Option.bind_some, strOfNums_eq, four_num]
  have h4 : (ofL (four (crc (toL s)))).size = 4 := by rw [size_ofL, four_length]
  rw [if_pos (by omega)]
  congr 1
theorem put_length (l : List UInt8) : (put l).length = l.length + 4 := by simp [put, four, fourN]
/-- What Take tells: the text and 0, or nothing and a number. -/
def take (l : List UInt8) : List UInt8 × Int := if l.length < 4 then ([], 2) else if put (l.take (l.length - 4)) = l then (l.take (l.length - 4), 0) else ([], 4)
theorem take_put (l : List UInt8) : take (put l) = (l, 0) := by
  unfold take
  rw [if_neg (by rw [put_length]; omega), put_length, Nat.add_sub_cancel, show (put l).take l.length = l by simp [put], if_pos rfl]
theorem put_take (l : List UInt8) (h : (take l).2 = 0) : put (take l).1 = l := by
  unfold take at h ⊢
  split at h
  · simp at h
  · rename_i h4
    rw [if_neg h4]
    split at h
    · rename_i h5
      rw [if_pos h5]
      exact h5
    · simp at h
end Go.Proofs.Ytlkljeghhahedaa.CrcEv

/- What the reference's functions of the sums come to (siloref02): the same sums, texts and refusals. -/
namespace Go.Proofs.Ytlkljeghhahedaa.CrcRef
open Go Go.RowKit Go.Proofs.YtlkljeghhahedaaW.PrintWords Go.Proofs.Ytlkljeghhahedaa.PBase Go.Proofs.Ytlkljeghhahedaa.Base Go.Proofs.Ytlkljeghhahedaa.CrcFn Go.Proofs.Ytlkljeghhahedaa.CrcEv

theorem ref_sum (s : ByteArray) (hs : s.size ≤ maxLen) : siloref02_Sum.f s = some ((crc (toL s)).toNat : Int) := by
  unfold siloref02_Sum.f
  rw [if_pos hs, size_eq s, ← RefFn.refSum_eq (toL s)]
theorem ref_four (x : BitVec 32) : siloref02_Four.f (x.toNat : Int) = some (ofL (four x)) := by
  have := x.isLt
  unfold siloref02_Four.f
  rw [strOfNums_eq]
  congr 2
  simp only [List.map_cons, List.map_nil, four, fourN]
  have e1 : (Int.tdiv (x.toNat : Int) 16777216) = ((x.toNat / 16777216 : Nat) : Int) := by rw [Int.tdiv_eq_ediv_of_nonneg (by omega)]; omega
  have e2 : (Int.tdiv (x.toNat : Int) 65536) = ((x.toNat / 65536 : Nat) : Int) := by rw [Int.tdiv_eq_ediv_of_nonneg (by omega)]; omega
  have e3 : (Int.tdiv (x.toNat : Int) 256) = ((x.toNat / 256 : Nat) : Int) := by rw [Int.tdiv_eq_ediv_of_nonneg (by omega)]; omega
  have e4 : (Int.tmod (x.toNat : Int) 256) = ((x.toNat % 256 : Nat) : Int) := by rw [Int.tmod_eq_emod_of_nonneg (by omega)]; omega
  rw [e1, e2, e3, e4]
  have f1 : ((((x.toNat / 16777216 : Nat) : Int) % 4294967296) % 256).toNat = x.toNat / 16777216 := by omega
  have f2 : ((((x.toNat / 65536 : Nat) : Int) % 4294967296) % 256).toNat = x.toNat / 65536 % 256 := by omega
  have f3 : ((((x.toNat / 256 : Nat) : Int) % 4294967296) % 256).toNat = x.toNat / 256 % 256 := by omega
  have f4 : ((((x.toNat % 256 : Nat) : Int)) % 256).toNat = x.toNat % 256 := by omega
  rw [f1, f2, f3, f4]
theorem ref_put (s : ByteArray) (hs : s.size ≤ 9223372036854775800) : siloref02_Put.f s = some (ofL (put (toL s))) := by
  unfold siloref02_Put.f
  rw [ref_sum s (by unfold maxLen; omega)]
  simp only [Option.bind_some, ref_four]
  have h4 : (ofL (four (crc (toL s)))).size = 4 := by rw [size_ofL, four_length]
  rw [if_pos (by omega)]
  exact congrArg some (append_ofL (toL s) _)
theorem take_alt (l : List UInt8) (h : ¬ l.length < 4) : put (l.take (l.length - 4)) = l ↔ l.drop (l.length - 4) = four (crc (l.take (l.length - 4))) := by
  unfold put
  constructor
  · intro e
    have := congrArg (List.drop (l.length - 4)) e
    rw [List.drop_append, List.drop_of_length_le (by simp)] at this
    rw [← this, List.length_take]
    rw [show l.length - 4 - min (l.length - 4) l.length = 0 by omega]
    rfl
  · intro e
    rw [← e, List.take_append_drop]
theorem ref_take (s : ByteArray) (hs : s.size ≤ 9223372036854775800) : siloref02_Take.f s = some (ofL (take (toL s)).1, (take (toL s)).2) := by
  unfold siloref02_Take.f take
  have hsz := size_eq s
  by_cases h4 : (toL s).length < 4
  · rw [if_pos (by omega), if_pos h4]
  · rw [if_neg (by omega), if_neg h4, wrap64_small (by omega) (by omega), if_pos (by omega), if_pos (by omega)]
    have e : ((s.size : Int) - 4).toNat = (toL s).length - 4 := by omega
    have e1 : s.extract 0 ((toL s).length - 4) = ofL ((toL s).take ((toL s).length - 4)) := toL_inj (by rw [toL_extract, toL_ofL]; simp)
    have e20 : ((toL s).drop ((toL s).length - 4)).length ≤ s.size - ((toL s).length - 4) := by rw [List.length_drop]; omega
    have e2 : s.extract ((toL s).length - 4) s.size = ofL ((toL s).drop ((toL s).length - 4)) := toL_inj (by
      rw [toL_extract, toL_ofL, List.take_of_length_le e20])
    have hz : (ofL ((toL s).take ((toL s).length - 4))).size ≤ maxLen := by
      have h1 : (ofL ((toL s).take ((toL s).length - 4))).size = (toL s).length - 4 := by rw [size_ofL, List.length_take]; omega
      unfold maxLen
      omega
    rw [e, e1, e2, ref_sum (ofL ((toL s).take ((toL s).length - 4))) hz, toL_ofL]
    simp only [Option.bind_some, ref_four, toList_ofL]
    by_cases h : put ((toL s).take ((toL s).length - 4)) = toL s
    · rw [if_pos ((take_alt _ h4).1 h), if_pos h]
    · rw [if_neg (fun h2 => h ((take_alt _ h4).2 h2)), if_neg h]
end Go.Proofs.Ytlkljeghhahedaa.CrcRef

/- Plain facts on six: how numbers and texts are read off lists of bytes. -/
namespace Go.Proofs.Ytlkljeghhahedaa.SixFn
open Go Go.RowKit

/-- What stands here: the error (0: none), the number, is it below 0, how many bytes. -/
structure Num where
  e : Int
  n : Nat
  below : Bool
  size : Nat
def num (x i : Nat) : List UInt8 → Num
  | [] => ⟨2, 0, false, 0⟩
  | c :: r => if 192 ≤ c.toNat ∨ 144115188075855871 < x ∨ (i = 0 ∧ c.toNat = 0) then ⟨3, 0, false, 0⟩
    else if 64 ≤ c.toNat then ⟨0, 64 * x + c.toNat % 64, decide (127 < c.toNat), i + 1⟩
    else num (64 * x + c.toNat % 64) (i + 1) r
/-- Any number: it, how many bytes, the error. -/
def whole (l : List UInt8) : Int × Nat × Int :=
  if (num 0 0 l).e = 0 then (if (num 0 0 l).below then -1 - ((num 0 0 l).n : Int) else ((num 0 0 l).n : Int), (num 0 0 l).size, 0) else (0, 0, (num 0 0 l).e)
def count (l : List UInt8) : Int × Nat × Int :=
  if (num 0 0 l).e = 0 then (if (num 0 0 l).below then (0, 0, 3) else (((num 0 0 l).n : Int), (num 0 0 l).size, 0)) else (0, 0, (num 0 0 l).e)
def raw (l : List UInt8) (n : Int) : List UInt8 × Nat × Int :=
  if n < 0 then ([], 0, 1) else if (l.length : Int) < n then ([], 0, 2) else (l.take n.toNat, n.toNat, 0)
def text (l : List UInt8) : List UInt8 × Nat × Int :=
  if (count l).2.2 = 0 then
    (if (raw (l.drop (count l).2.1) (count l).1).2.2 = 0 then ((raw (l.drop (count l).2.1) (count l).1).1, (count l).2.1 + (raw (l.drop (count l).2.1) (count l).1).2.1, 0) else ([], 0, (raw (l.drop (count l).2.1) (count l).1).2.2))
  else ([], 0, (count l).2.2)

theorem num_spec (l : List UInt8) : ∀ (x i : Nat), (num x i l).e = 0 ∨ (((num x i l).e = 2 ∨ (num x i l).e = 3) ∧ (num x i l).n = 0 ∧ (num x i l).below = false ∧ (num x i l).size = 0) := by
  induction l with
  | nil => intro x i; exact .inr ⟨.inl rfl, rfl, rfl, rfl⟩
  | cons c r ih =>
    intro x i
    unfold num
    split
    · exact .inr ⟨.inr rfl, rfl, rfl, rfl⟩
    · split
      · exact .inl rfl
      · exact ih _ _
theorem num_bound (l : List UInt8) : ∀ (x i : Nat), (num x i l).n ≤ 9223372036854775807 := by
  induction l with
  | nil => intro x i; simp [num]
  | cons c r ih =>
    intro x i
    unfold num
    split
    · simp
    · rename_i h
      split
      · have := c.toNat_lt; show 64 * x + c.toNat % 64 ≤ _; omega
      · exact ih _ _
theorem num_size (l : List UInt8) : ∀ (x i : Nat), (num x i l).e = 0 → i + 1 ≤ (num x i l).size ∧ (num x i l).size ≤ i + l.length := by
  induction l with
  | nil => intro x i h; simp [num] at h
  | cons c r ih =>
    intro x i h
    unfold num at h ⊢
    split at h
    · simp at h
    · rename_i h1
      rw [if_neg h1]
      split at h
      · rename_i h2
        rw [if_pos h2]
        exact ⟨Nat.le_refl _, by simp⟩
      · rename_i h2
        rw [if_neg h2]
        have := ih _ _ h
        simp
        omega
theorem whole_size (l : List UInt8) : (whole l).2.1 ≤ l.length := by
  unfold whole
  split
  · rename_i h; have := num_size l 0 0 h; simpa using this.2
  · simp
theorem count_size (l : List UInt8) : (count l).2.1 ≤ l.length := by
  unfold count
  split
  · rename_i h
    split
    · simp
    · have := num_size l 0 0 h; simpa using this.2
  · simp
theorem count_nonneg (l : List UInt8) : 0 ≤ (count l).1 := by
  unfold count
  split
  · split <;> simp
  · simp
theorem raw_size (l : List UInt8) (n : Int) : (raw l n).2.1 ≤ l.length := by
  unfold raw
  split
  · simp
  · split
    · simp
    · simp; omega
theorem text_size (l : List UInt8) : (text l).2.1 ≤ l.length := by
  unfold text
  split
  · split
    · have h1 := count_size l
      have h2 := raw_size (l.drop (count l).2.1) (count l).1
      rw [List.length_drop] at h2
      show (count l).2.1 + (raw (l.drop (count l).2.1) (count l).1).2.1 ≤ _
      omega
    · simp
  · simp
end Go.Proofs.Ytlkljeghhahedaa.SixFn

/- What the printed readers of six, and the reference's, come to: the plain ones over lists of bytes. -/
namespace Go.Proofs.Ytlkljeghhahedaa.SixEv
open Go Go.RowKit Go.Proofs.YtlkljeghhahedaaW.PrintWords Go.Proofs.Ytlkljeghhahedaa.PBase Go.Proofs.Ytlkljeghhahedaa.Base Go.Proofs.Ytlkljeghhahedaa.SixFn

theorem wraps_u64 (n : Int) (h₀ : 0 ≤ n) (h₁ : n < 2 ^ 64) : IntKind.u64.wrap n = n := by rw [IntKind.wrap_u64]; omega
theorem join6 (x : Nat) (c : UInt8) (hx : x ≤ 144115188075855871) :
    Go.bits .or .u64 (IntKind.u64.wrap ((x : Int) * 64)) (IntKind.u64.wrap (Go.bits .and .u8 (c.toNat : Int) 63)) = ((64 * x + c.toNat % 64 : Nat) : Int) := by
  have hc := c.toNat_lt
  rw [u8_and63 _ (by omega) (by omega), wraps_u64 _ (by omega) (by omega), wraps_u64 _ (by omega) (by omega)]
  rw [bits_join .u64 64 (by decide) wraps_u64 6 _ _ (by omega) (by omega) (by omega) (by omega) (by omega) (by omega)]
  omega
def numOut (R : Num) (s : ByteArray) : Int × Bool × Int × Int × ByteArray := ((R.n : Int), R.below, (R.size : Int), R.e, s)
theorem ev_number_l0 (s : ByteArray) (hs : s.size ≤ 9223372036854775806) (d : Nat) : ∀ (x i : Nat), i + d = s.size → x ≤ 9223372036854775807 →
    Ev (fun k => six_Reader_number.l0 k (x : Int) (i : Int) s) (numOut (num x i ((toL s).drop i)) s) := by
  induction d with
  | zero =>
    intro x i hi hx
    rw [List.drop_of_length_le (by rw [← size_eq]; omega)]
    refine Ev.step (f := fun _ => some (numOut (num x i []) s)) (fun k => ?_) (Ev.now _)
    simp only [six_Reader_number.l0]
    rw [if_neg (by omega)]
    rfl
  | succ d ih =>
    intro x i hi hx
    have hlt : i < (toL s).length := by rw [← size_eq]; omega
    have hb : bt s (i : Int) = (((toL s)[i]).toNat : Int) := by
      rw [bt_eq, List.getD_eq_getElem?_getD, List.getElem?_eq_getElem hlt]; rfl
    rw [List.drop_eq_getElem_cons hlt]
    generalize (toL s)[i] = c at hb ⊢
    have hc := c.toNat_lt
    unfold num
    by_cases h3 : 192 ≤ c.toNat ∨ 144115188075855871 < x ∨ (i = 0 ∧ c.toNat = 0)
    · rw [if_pos h3]
      refine Ev.step (f := fun k => six_Reader_number.j1 k (x : Int) (i : Int) (c.toNat : Int) true s) (fun k => ?_) (Ev.step (f := fun _ => some (numOut ⟨3, 0, false, 0⟩ s)) (fun k => ?_) (Ev.now _))
      · simp only [six_Reader_number.l0, hb]
        rw [if_pos (by omega), if_pos (by omega)]
        by_cases a : (c.toNat : Int) > 191
        · rw [if_pos a]
        · rw [if_neg a]
          by_cases b : (x : Int) > 144115188075855871
          · rw [if_pos b]
          · rw [if_neg b, if_pos (by omega)]
            have : ((c.toNat : Int) == 0) = true := beq_iff_eq.2 (by omega)
            rw [this]
      · simp only [six_Reader_number.j1]
        rw [if_pos trivial]
        rfl
    · rw [if_neg h3]
      refine Ev.step (f := fun k => six_Reader_number.j1 k (x : Int) (i : Int) (c.toNat : Int) false s) (fun k => ?_) ?_
      · simp only [six_Reader_number.l0, hb]
        rw [if_pos (by omega), if_pos (by omega), if_neg (by omega), if_neg (by omega)]
        by_cases b : (i : Int) = 0
        · rw [if_pos b]
          have : ((c.toNat : Int) == 0) = false := beq_eq_false_iff_ne.2 (by omega)
          rw [this]
        · rw [if_neg b]
      · by_cases h4 : 64 ≤ c.toNat
        · rw [if_pos h4]
          refine Ev.step (f := fun _ => some (numOut ⟨0, 64 * x + c.toNat % 64, decide (127 < c.toNat), i + 1⟩ s)) (fun k => ?_) (Ev.now _)
          simp only [six_Reader_number.j1]
          rw [if_neg (by decide), if_pos (by omega), join6 x c (by omega), wrap64_small (by omega) (by omega), wrap64_small (by omega) (by omega)]
          unfold numOut
          congr 3
          simp only [decide_eq_decide]
          omega
        · rw [if_neg h4]
          refine Ev.step (f := fun k => six_Reader_number.l0 k ((64 * x + c.toNat % 64 : Nat) : Int) ((i + 1 : Nat) : Int) s) (fun k => ?_) (ih _ (i + 1) (by omega) (by omega))
          simp only [six_Reader_number.j1]
          rw [if_neg (by decide), if_neg (by omega), join6 x c (by omega), wrap64_small (by omega) (by omega)]
          rfl
theorem ev_number (s : ByteArray) (hs : s.size ≤ 9223372036854775806) : Ev (fun k => six_Reader_number.f k s) (numOut (num 0 0 (toL s)) s) :=
  ev_number_l0 s hs s.size 0 0 (by omega) (by omega)
theorem ev_Count (s : ByteArray) (hs : s.size ≤ 9223372036854775806) :
    Ev (fun k => six_Reader_Count.f k s) ((count (toL s)).1, (count (toL s)).2.2, ofL ((toL s).drop (count (toL s)).2.1)) := by
  unfold six_Reader_Count.f
  refine Ev.bind (ev_number s hs) ?_
  have hsz := size_eq s
  unfold numOut count
  dsimp only
  rcases num_spec (toL s) 0 0 with h | ⟨h, h1, h2, h3⟩
  · have hz := num_size (toL s) 0 0 h
    simp only [h, if_true]
    cases hb : (num 0 0 (toL s)).below with
    | true =>
      refine Ev.step (f := fun k => six_Reader_Count.j1 k ((num 0 0 (toL s)).n : Int) ((num 0 0 (toL s)).size : Int) 3 s) (fun k => ?_) (Ev.step (f := fun _ => some (0, 3, s)) (fun k => ?_) (Ev.now _))
      · simp only [six_Reader_Count.j0, if_true]
      · simp only [six_Reader_Count.j1]
        rw [if_neg (by decide)]
    | false =>
      refine Ev.step (f := fun k => six_Reader_Count.j1 k ((num 0 0 (toL s)).n : Int) ((num 0 0 (toL s)).size : Int) 0 s) (fun k => ?_) (Ev.step (f := fun _ => some (((num 0 0 (toL s)).n : Int), 0, ofL ((toL s).drop (num 0 0 (toL s)).size))) (fun k => ?_) (Ev.now _))
      · simp only [six_Reader_Count.j0, Bool.false_eq_true, if_false]
      · simp only [six_Reader_Count.j1]
        rw [if_pos trivial, if_pos (by omega), if_pos (by omega), Int.toNat_natCast, extract_drop]
  · have hne : ¬ (num 0 0 (toL s)).e = 0 := by omega
    simp only [hne, if_false, h1, h2, h3]
    refine Ev.step (f := fun k => six_Reader_Count.j1 k 0 0 (num 0 0 (toL s)).e s) (fun k => ?_) (Ev.step (f := fun _ => some (0, (num 0 0 (toL s)).e, s)) (fun k => ?_) (Ev.now _))
    · simp only [six_Reader_Count.j0, Bool.false_eq_true, if_false]
      rfl
    · simp only [six_Reader_Count.j1]
      rw [if_neg hne]
theorem raw_eq (s : ByteArray) (n : Int) : six_Reader_Raw.f s n = some (ofL (raw (toL s) n).1, (raw (toL s) n).2.2, ofL ((toL s).drop (raw (toL s) n).2.1)) := by
  unfold six_Reader_Raw.f raw
  have hsz := size_eq s
  by_cases h0 : n < 0
  · rw [if_pos h0, if_pos h0]
    rfl
  · rw [if_neg h0, if_neg h0]
    by_cases h1 : ((toL s).length : Int) < n
    · rw [if_pos (by omega), if_pos h1]
      rfl
    · rw [if_neg (by omega), if_neg h1, if_pos (by omega), if_pos (by omega), extract_take, extract_drop]
theorem ref6 (x : Nat) (c : UInt8) (hx : x ≤ 144115188075855871) :
    IntKind.u64.wrap ((IntKind.u64.wrap (64 * (x : Int))) + (IntKind.u64.wrap (Int.tmod (c.toNat : Int) 64))) = ((64 * x + c.toNat % 64 : Nat) : Int) := by
  have hc := c.toNat_lt
  rw [Int.tmod_eq_emod_of_nonneg (by omega), wraps_u64 (64 * (x : Int)) (by omega) (by omega), wraps_u64 ((c.toNat : Int) % 64) (by omega) (by omega), wraps_u64 _ (by omega) (by omega)]
  omega
def refOut (R : Num) : Int × Int × Int := if R.e = 0 then ((if R.below then -1 - (R.n : Int) else (R.n : Int)), (R.size : Int), 0) else (0, 0, R.e)
theorem ev_ReadWhole_l0 (s : ByteArray) (hs : s.size ≤ 9223372036854775806) (d : Nat) : ∀ (x i : Nat), i + d = s.size → x ≤ 9223372036854775807 →
    Ev (fun k => siloref01_ReadWhole.l0 k s (x : Int) (i : Int)) (refOut (num x i ((toL s).drop i))) := by
  induction d with
  | zero =>
    intro x i hi hx
    rw [List.drop_of_length_le (by rw [← size_eq]; omega)]
    refine Ev.step (f := fun _ => some (refOut (num x i []))) (fun k => ?_) (Ev.now _)
    simp only [siloref01_ReadWhole.l0]
    rw [if_neg (by omega)]
    rfl
  | succ d ih =>
    intro x i hi hx
    have hlt : i < (toL s).length := by rw [← size_eq]; omega
    have hb : bt s (i : Int) = (((toL s)[i]).toNat : Int) := by
      rw [bt_eq, List.getD_eq_getElem?_getD, List.getElem?_eq_getElem hlt]; rfl
    rw [List.drop_eq_getElem_cons hlt]
    generalize (toL s)[i] = c at hb ⊢
    have hc := c.toNat_lt
    have hw : wrap64 (c.toNat : Int) = (c.toNat : Int) := wrap64_small (by omega) (by omega)
    unfold num
    by_cases h3 : 192 ≤ c.toNat ∨ 144115188075855871 < x ∨ (i = 0 ∧ c.toNat = 0)
    · rw [if_pos h3]
      refine Ev.step (f := fun k => siloref01_ReadWhole.j1 k s (x : Int) (i : Int) (c.toNat : Int) true) (fun k => ?_) (Ev.step (f := fun _ => some (refOut ⟨3, 0, false, 0⟩)) (fun k => ?_) (Ev.now _))
      · simp only [siloref01_ReadWhole.l0, hb, hw]
        rw [if_pos (by omega), if_pos (by omega)]
        by_cases a : (c.toNat : Int) ≥ 192
        · rw [if_pos a]
        · rw [if_neg a]
          by_cases b : (x : Int) > 144115188075855871
          · have e : decide ((x : Int) > 144115188075855871) = true := decide_eq_true b
            rw [e]
            split
            · split <;> rfl
            · rfl
          · rw [if_pos (by omega), if_pos (by omega)]
      · simp only [siloref01_ReadWhole.j1, if_true]
        rfl
    · rw [if_neg h3]
      refine Ev.step (f := fun k => siloref01_ReadWhole.j1 k s (x : Int) (i : Int) (c.toNat : Int) false) (fun k => ?_) ?_
      · simp only [siloref01_ReadWhole.l0, hb, hw]
        rw [if_pos (by omega), if_pos (by omega), if_neg (by omega)]
        have e : decide ((x : Int) > 144115188075855871) = false := decide_eq_false (by omega)
        rw [e]
        split
        · rw [if_neg (by omega)]
        · rfl
      · by_cases h4 : 64 ≤ c.toNat
        · rw [if_pos h4]
          refine Ev.step (f := fun _ => some (refOut ⟨0, 64 * x + c.toNat % 64, decide (127 < c.toNat), i + 1⟩)) (fun k => ?_) (Ev.now _)
          simp only [siloref01_ReadWhole.j1, Bool.false_eq_true, if_false]
          rw [ref6 x c (by omega)]
          unfold refOut
          by_cases h5 : (c.toNat : Int) ≥ 128
          · rw [if_pos h5, if_pos rfl]
            have e : decide (127 < c.toNat) = true := decide_eq_true (by omega)
            simp only [e, if_true]
            rw [wrap64_small (x := (((64 * x + c.toNat % 64 : Nat)) : Int)) (by omega) (by omega), wrap64_small (by omega) (by omega), wrap64_small (by omega) (by omega)]
            rfl
          · rw [if_neg h5, if_pos (by omega), if_pos rfl]
            have e : decide (127 < c.toNat) = false := decide_eq_false (by omega)
            simp only [e, Bool.false_eq_true, if_false]
            rw [wrap64_small (x := (((64 * x + c.toNat % 64 : Nat)) : Int)) (by omega) (by omega), wrap64_small (by omega) (by omega)]
            rfl
        · rw [if_neg h4]
          refine Ev.step (f := fun k => siloref01_ReadWhole.l0 k s ((64 * x + c.toNat % 64 : Nat) : Int) ((i + 1 : Nat) : Int)) (fun k => ?_) (ih _ (i + 1) (by omega) (by omega))
          simp only [siloref01_ReadWhole.j1, Bool.false_eq_true, if_false]
          rw [if_neg (by omega), if_neg (by omega), ref6 x c (by omega), wrap64_small (by omega) (by omega)]
          rfl
theorem ev_ReadWhole (s : ByteArray) (hs : s.size ≤ 9223372036854775806) : Ev (fun k => siloref01_ReadWhole.f k s) ((whole (toL s)).1, ((whole (toL s)).2.1 : Int), (whole (toL s)).2.2) := by
  have h := ev_ReadWhole_l0 s hs s.size 0 0 (by omega) (by omega)
  rw [List.drop_zero] at h
  have e : refOut (num 0 0 (toL s)) = ((whole (toL s)).1, ((whole (toL s)).2.1 : Int), (whole (toL s)).2.2) := by
    unfold refOut whole
    split <;> rfl
  rw [e] at h
  exact h
theorem count_whole (l : List UInt8) : count l = if (whole l).2.2 = 0 then (if (whole l).1 < 0 then (0, 0, 3) else whole l) else whole l := by
  unfold count whole
  by_cases h : (num 0 0 l).e = 0
  · simp only [h, if_true]
    cases hb : (num 0 0 l).below with
    | true => simp only [if_true]; rw [if_pos (by omega)]
    | false => simp only [Bool.false_eq_true, if_false]; rw [if_neg (by omega)]
  · simp only [h, if_false]
theorem ev_ReadCount (s : ByteArray) (hs : s.size ≤ 9223372036854775806) : Ev (fun k => siloref01_ReadCount.f k s) ((count (toL s)).1, ((count (toL s)).2.1 : Int), (count (toL s)).2.2) := by
  unfold siloref01_ReadCount.f
  refine Ev.bind (ev_ReadWhole s hs) (Ev.congr (fun k => ?_) (Ev.now _))
  rw [count_whole]
  dsimp only
  by_cases h : (whole (toL s)).2.2 = 0
  · rw [if_pos h, if_pos h]
    by_cases h2 : (whole (toL s)).1 < 0
    · rw [if_pos h2, if_pos h2]; rfl
    · rw [if_neg h2, if_neg h2]
  · rw [if_neg h, if_neg h]
end Go.Proofs.Ytlkljeghhahedaa.SixEv

/- What the printed readers of six for any number and for texts, and the reference's, come to. -/
namespace Go.Proofs.Ytlkljeghhahedaa.SixEv
open Go Go.RowKit Go.Proofs.YtlkljeghhahedaaW.PrintWords Go.Proofs.Ytlkljeghhahedaa.PBase Go.Proofs.Ytlkljeghhahedaa.Base Go.Proofs.Ytlkljeghhahedaa.SixFn
theorem ev_Text (s : ByteArray) (hs : s.size ≤ 9223372036854775806) :
    Ev (fun k => six_Reader_Text.f k s) (ofL (text (toL s)).1, (text (toL s)).2.2, ofL ((toL s).drop (text (toL s)).2.1)) := by
  unfold six_Reader_Text.f
  refine Ev.bind (ev_Count s hs) (Ev.congr (fun k => ?_) (Ev.now _))
  unfold text
  dsimp only
  by_cases h : (count (toL s)).2.2 = 0
  · rw [if_pos h, if_pos h, raw_eq]
    simp only [Option.bind_some, toL_ofL]
    by_cases h2 : (raw ((toL s).drop (count (toL s)).2.1) (count (toL s)).1).2.2 = 0
    · simp only [h2, if_true, List.drop_drop]
    · simp only [h2, if_false]
      have h3 : (raw ((toL s).drop (count (toL s)).2.1) (count (toL s)).1).1 = [] := by
        unfold raw at h2 ⊢
        split
        · rfl
        · split
          · rfl
          · rename_i a b
            rw [if_neg a, if_neg b] at h2
            exact absurd rfl h2
      rw [h3]
      rfl
  · rw [if_neg h, if_neg h]
    have h3 : (count (toL s)).2.1 = 0 := by
      unfold count at h ⊢
      split at h
      · rename_i a
        rw [if_pos a]
        split at h
        · rename_i b; rw [if_pos b]
        · exact absurd rfl h
      · rename_i a; rw [if_neg a]
    rw [h3]
theorem ref_raw_eq (s : ByteArray) (n : Int) : siloref01_ReadRaw.f s n = some (ofL (raw (toL s) n).1, ((raw (toL s) n).2.1 : Int), (raw (toL s) n).2.2) := by
  unfold siloref01_ReadRaw.f raw
  have hsz := size_eq s
  by_cases h0 : n < 0
  · rw [if_pos h0, if_pos h0]; rfl
  · rw [if_neg h0, if_neg h0]
    by_cases h1 : ((toL s).length : Int) < n
    · rw [if_pos (by omega), if_pos h1]; rfl
    · rw [if_neg (by omega), if_neg h1, if_pos (by omega), if_pos (by omega), extract_take]
      have e : ((n.toNat : Nat) : Int) = n := by omega
      simp only [e]
theorem ev_ReadText (s : ByteArray) (hs : s.size ≤ 9223372036854775806) : Ev (fun k => siloref01_ReadText.f k s) (ofL (text (toL s)).1, ((text (toL s)).2.1 : Int), (text (toL s)).2.2) := by
  unfold siloref01_ReadText.f
  refine Ev.bind (ev_ReadCount s hs) (Ev.congr (fun k => ?_) (Ev.now _))
  have hsz := size_eq s
  have hc := count_size (toL s)
  unfold text
  dsimp only
  by_cases h : (count (toL s)).2.2 = 0
  · rw [if_pos h, if_pos h, if_pos (by omega), if_pos (by omega), Int.toNat_natCast, extract_drop, ref_raw_eq]
    simp only [Option.bind_some, toL_ofL]
    have hr := raw_size ((toL s).drop (count (toL s)).2.1) (count (toL s)).1
    rw [List.length_drop] at hr
    by_cases h2 : (raw ((toL s).drop (count (toL s)).2.1) (count (toL s)).1).2.2 = 0
    · simp only [h2, if_true]
      rw [wrap64_small (by omega) (by omega)]
      rfl
    · simp only [h2, if_false]
      rfl
  · rw [if_neg h, if_neg h]
    rfl
end Go.Proofs.Ytlkljeghhahedaa.SixEv

/- The form of a number in groups of six, as a list: what is read off is in this form, and what the program's and the reference's writers make is this form. -/
namespace Go.Proofs.Ytlkljeghhahedaa.SixPut
open Go Go.RowKit Go.Proofs.YtlkljeghhahedaaW.PrintWords Go.Proofs.Ytlkljeghhahedaa.PBase Go.Proofs.Ytlkljeghhahedaa.Base Go.Proofs.Ytlkljeghhahedaa.SixFn Go.Proofs.Ytlkljeghhahedaa.SixEv

def high (x : Nat) : List UInt8 := if _h : x = 0 then [] else high (x / 64) ++ [UInt8.ofNat (x % 64)]
termination_by x
decreasing_by omega
theorem high_zero : high 0 = [] := by rw [high]; simp
theorem high_pos {x : Nat} (h : x ≠ 0) : high x = high (x / 64) ++ [UInt8.ofNat (x % 64)] := by rw [high]; simp [h]
def enc (m x : Nat) : List UInt8 := high (x / 64) ++ [UInt8.ofNat (m + x % 64)]
theorem num_canon (l : List UInt8) : ∀ (x i : Nat), (i = 0 → x = 0) → (i ≠ 0 → x ≠ 0) → (num x i l).e = 0 →
    high x ++ l.take ((num x i l).size - i) = enc (if (num x i l).below then 128 else 64) (num x i l).n := by
  induction l with
  | nil => intro x i _ _ h; simp [num] at h
  | cons c r ih =>
    intro x i h0 h1 he
    have hc := c.toNat_lt
    by_cases a : 192 ≤ c.toNat ∨ 144115188075855871 < x ∨ (i = 0 ∧ c.toNat = 0)
    · unfold num at he; rw [if_pos a] at he; simp at he
    · by_cases b : 64 ≤ c.toNat
      · have e : num x i (c :: r) = ⟨0, 64 * x + c.toNat % 64, decide (127 < c.toNat), i + 1⟩ := by
          rw [num, if_neg a, if_pos b]
        rw [e]
        dsimp only
        rw [Nat.add_sub_cancel_left]
        unfold enc
        rw [show (64 * x + c.toNat % 64) / 64 = x by omega, show (64 * x + c.toNat % 64) % 64 = c.toNat % 64 by omega]
        congr 1
        simp only [List.take_succ_cons, List.take_zero]
        congr 1
        apply UInt8.toNat_inj.1
        rw [UInt8.toNat_ofNat']
        by_cases d : 127 < c.toNat
        · simp only [d, decide_true, if_true]; omega
        · simp only [d, decide_false, Bool.false_eq_true, if_false]; omega
      · have e : num x i (c :: r) = num (64 * x + c.toNat % 64) (i + 1) r := by
          rw [num, if_neg a, if_neg b]
        rw [e] at he ⊢
        have hs := num_size r _ _ he
        have hx : 64 * x + c.toNat % 64 ≠ 0 := by
          by_cases hi : i = 0
          · omega
          · have := h1 hi; omega
        rw [← ih (64 * x + c.toNat % 64) (i + 1) (by omega) (fun _ => hx) he]
        rw [high_pos hx, show (64 * x + c.toNat % 64) / 64 = x by omega, show (64 * x + c.toNat % 64) % 64 = c.toNat by omega]
        rw [show (num (64 * x + c.toNat % 64) (i + 1) r).size - i = (num (64 * x + c.toNat % 64) (i + 1) r).size - (i + 1) + 1 by omega]
        simp
theorem count_canon {l : List UInt8} (h : (count l).2.2 = 0) : l.take (count l).2.1 = enc 64 (count l).1.toNat := by
  unfold count at h ⊢
  split at h
  · rename_i he
    rw [if_pos he]
    have hc := num_canon l 0 0 (fun _ => rfl) (fun h => absurd rfl h) he
    rw [high_zero, List.nil_append, Nat.sub_zero] at hc
    split at h
    · simp at h
    · rename_i hb
      rw [if_neg hb]
      rw [if_neg hb] at hc
      exact hc
  · rename_i he
    exact absurd h he
/-- A text that is read off stands in its form. -/
theorem text_canon {l : List UInt8} (h : (text l).2.2 = 0) : l.take (text l).2.1 = enc 64 (text l).1.length ++ (text l).1 ∧ (text l).2.1 ≤ l.length := by
  refine ⟨?_, text_size l⟩
  unfold text at h ⊢
  split at h
  · rename_i hc
    rw [if_pos hc]
    split at h
    · rename_i hr
      rw [if_pos hr]
      have hcc := count_canon hc
      have hcz := count_size l
      have hcn := count_nonneg l
      unfold raw at hr ⊢
      rw [if_neg (by omega)] at hr ⊢
      split at hr
      · simp at hr
      · rename_i hl
        rw [if_neg hl]
        rw [List.length_drop] at hl
        dsimp only
        rw [List.length_take, List.length_drop, Nat.min_eq_left (by omega), List.take_add, hcc]
    · rename_i hr
      exact absurd h hr
  · rename_i hc
    exact absurd h hc
/-! the reference's writer -/
theorem ref_groups_l0 (d : Nat) : ∀ (x : Nat) (l : List UInt8), x < d → d ≤ 9223372036854775807 → l.length + d ≤ 9223372036854775807 →
    Ev (fun k => siloref01_groups.l0 k (x : Int) (ofL l)) (ofL (high x ++ l)) := by
  induction d with
  | zero => intro x l h; omega
  | succ d ih =>
    intro x l hx hd hl
    by_cases h : x = 0
    · subst h
      refine Ev.step (f := fun _ => some (ofL l)) (fun k => ?_) ?_
      · simp only [siloref01_groups.l0]
        rw [if_neg (by omega)]
      · rw [high_zero]; exact Ev.now _
    · have e1 : IntKind.u64.wrap (Int.tdiv (x : Int) 64) = ((x / 64 : Nat) : Int) := by
        rw [Int.tdiv_eq_ediv_of_nonneg (by omega), wraps_u64 _ (by omega) (by omega)]; omega
      have e2 : strOfNums ([(Int.tmod (x : Int) 64) % 256] : List Int) = ofL [UInt8.ofNat (x % 64)] := by
        rw [strOfNums_eq, Int.tmod_eq_emod_of_nonneg (by omega)]
        simp only [List.map_cons, List.map_nil]
        congr 3
        omega
      have e3 : (ofL [UInt8.ofNat (x % 64)]).size = 1 := rfl
      have e4 : (ofL l).size = l.length := size_ofL l
      have h2 := ih (x / 64) ([UInt8.ofNat (x % 64)] ++ l) (by omega) (by omega) (by simp; omega)
      refine Ev.step (f := fun k => siloref01_groups.l0 k ((x / 64 : Nat) : Int) (ofL ([UInt8.ofNat (x % 64)] ++ l))) (fun k => ?_) ?_
      · simp only [siloref01_groups.l0]
        rw [if_pos (by omega)]
        simp only [Option.bind_some, e1, e2]
        rw [e3, e4, if_pos (by omega), append_ofL]
      · rw [high_pos h, List.append_assoc]; exact h2
theorem ref_groups (n : Nat) (hn : n ≤ 4611686018427387904) : Ev (fun k => siloref01_groups.f k (n : Int) 64) (ofL (enc 64 n)) := by
  unfold siloref01_groups.f enc
  have e1 : IntKind.u64.wrap (Int.tdiv (n : Int) 64) = ((n / 64 : Nat) : Int) := by
    rw [Int.tdiv_eq_ediv_of_nonneg (by omega), wraps_u64 _ (by omega) (by omega)]; omega
  have e2 : strOfNums ([(wrap64 (64 + (wrap64 (Int.tmod (n : Int) 64)))) % 256] : List Int) = ofL [UInt8.ofNat (64 + n % 64)] := by
    rw [strOfNums_eq, Int.tmod_eq_emod_of_nonneg (by omega), wrap64_small (x := (n : Int) % 64) (by omega) (by omega), wrap64_small (by omega) (by omega)]
    simp only [List.map_cons, List.map_nil]
    congr 3
    omega
  rw [e1, e2]
  exact ref_groups_l0 (n / 64 + 1) (n / 64) [UInt8.ofNat (64 + n % 64)] (by omega) (by omega) (by simp; omega)
theorem ref_whole (n : Nat) (hn : n ≤ 4611686018427387904) : Ev (fun k => siloref01_Whole.f k (n : Int)) (ofL (enc 64 n)) := by
  unfold siloref01_Whole.f
  refine Ev.congr (fun k => if_neg (by omega)) ?_
  rw [wraps_u64 _ (by omega) (by omega)]
  exact Ev.congr (fun k => by first | rfl | simp) (Ev.bind (ref_groups n hn) (Ev.now _))
end Go.Proofs.Ytlkljeghhahedaa.SixPut

/- The program's writer of numbers makes the form. -/
namespace Go.Proofs.Ytlkljeghhahedaa.SixPut
open Go Go.RowKit Go.Proofs.YtlkljeghhahedaaW.PrintWords Go.Proofs.Ytlkljeghhahedaa.PBase Go.Proofs.Ytlkljeghhahedaa.Base Go.Proofs.Ytlkljeghhahedaa.SixFn Go.Proofs.Ytlkljeghhahedaa.SixEv

def bints (l : List UInt8) : List Int := l.map fun b => (b.toNat : Int)
/-- The digits j to 1, the highest first. -/
def lo : Nat → Nat → List UInt8
  | 0, _ => []
  | j + 1, x => UInt8.ofNat (x / 64 ^ (j + 1) % 64) :: lo j x
theorem lo_succ (j : Nat) : ∀ x, lo (j + 1) x = lo j (x / 64) ++ [UInt8.ofNat (x / 64 % 64)] := by
  induction j with
  | zero => intro x; simp [lo]
  | succ j ih =>
    intro x
    rw [lo, ih x, lo, List.cons_append]
    congr 3
    rw [Nat.div_div_eq_div_mul, Nat.mul_comm, ← Nat.pow_succ]
theorem lo_high (j : Nat) : ∀ x, x / 64 ^ j < 64 → (j ≠ 0 → 64 ≤ x / 64 ^ (j - 1)) → lo j x = high (x / 64) := by
  induction j with
  | zero => intro x h _; rw [Nat.pow_zero, Nat.div_one] at h; rw [show x / 64 = 0 by omega, high_zero]; rfl
  | succ j ih =>
    intro x h h2
    have h3 := h2 (by omega)
    rw [Nat.add_sub_cancel] at h3
    have h4 : x / 64 ≠ 0 := by
      have : x / 64 ^ j ≤ x := Nat.div_le_self _ _
      omega
    rw [lo_succ, high_pos h4]
    congr 1
    apply ih
    · rw [Nat.div_div_eq_div_mul, Nat.mul_comm, ← Nat.pow_succ]; exact h
    · intro hj
      obtain ⟨i, rfl⟩ : ∃ i, j = i + 1 := ⟨j - 1, by omega⟩
      rw [Nat.add_sub_cancel, Nat.div_div_eq_div_mul, Nat.mul_comm, ← Nat.pow_succ]
      exact h3
theorem shr_six (x j : Nat) (_hx : x < 9223372036854775808) (hj : j ≤ 10) : shr .u64 (x : Int) ((6 * j : Nat) : Int) = ((x / 64 ^ j : Nat) : Int) := by
  unfold shr
  rw [Nat.min_eq_left (by show _ ≤ 64; omega), Int.toNat_natCast, show (64 : Nat) ^ j = 2 ^ (6 * j) by rw [Nat.pow_mul]]
  norm_cast
theorem and63 (x : Nat) (hx : x < 9223372036854775808) : Go.bits .and .u64 (x : Int) 63 = ((x % 64 : Nat) : Int) := by
  have := bits_mask .u64 64 (by decide) wraps_u64 6 (by decide) (x : Int) (by omega) (by omega)
  have e : ((2 : Int) ^ 6 - 1) = 63 := by decide
  first
  | (rw [e] at this; rw [this]; omega)
  | exact this.trans (by omega)
theorem groups_l1 (x : Nat) (hx : x < 9223372036854775808) (m : Nat) (_hm : m ≤ 128) (j : Nat) : ∀ (acc : List UInt8), j ≤ 10 → acc.length ≤ 1000 - j →
    Ev (fun k => six_groups.l1 k (bints acc) (x : Int) (m : Int) ((6 * j : Nat) : Int)) (bints (acc ++ (lo j x ++ [UInt8.ofNat (m + x % 64)]))) := by
  induction j with
  | zero =>
    intro acc _ ha
    refine Ev.step (f := fun _ => some (bints acc ++ [((m : Int) + Go.bits .and .u64 (x : Int) 63) % 256])) (fun k => ?_) ?_
    · simp only [six_groups.l1]
      rw [if_neg (by omega), if_pos (by simp [bints]; omega)]
    · rw [and63 x hx]
      refine Ev.congr (fun _ => ?_) (Ev.now _)
      simp [bints, lo]
  | succ j ih =>
    intro acc hj ha
    have hd : x / 64 ^ (j + 1) < 9223372036854775808 := Nat.lt_of_le_of_lt (Nat.div_le_self _ _) hx
    have := ih (acc ++ [UInt8.ofNat (x / 64 ^ (j + 1) % 64)]) (by omega) (by simp; omega)
    refine Ev.step (f := fun k => six_groups.l1 k (bints (acc ++ [UInt8.ofNat (x / 64 ^ (j + 1) % 64)])) (x : Int) (m : Int) ((6 * j : Nat) : Int)) (fun k => ?_) ?_
    · simp only [six_groups.l1]
      rw [if_pos (by omega), if_pos (by omega), if_pos (by simp [bints]; omega), shr_six x (j + 1) hx hj, and63 _ hd, wrap64_small (by omega) (by omega)]
      congr 1
      · simp [bints]
      · omega
    · rw [lo]
      simpa using this
theorem groups_l0 (x : Nat) (hx : x < 9223372036854775808) (m : Nat) (hm : m ≤ 128) (d : Nat) : ∀ j, j + d = 11 → (j ≠ 0 → 64 ≤ x / 64 ^ (j - 1)) →
    Ev (fun k => six_groups.l0 k (bints []) (x : Int) (m : Int) ((6 * j : Nat) : Int)) (bints (enc m x)) := by
  induction d with
  | zero =>
    intro j hj h
    have := h (by omega)
    obtain rfl : j = 11 := by omega
    have : x / 64 ^ (11 - 1) < 64 := by rw [Nat.div_lt_iff_lt_mul (by decide)]; exact Nat.lt_of_lt_of_le hx (by decide)
    omega
  | succ d ih =>
    intro j hj h
    have hs := shr_six x j hx (by omega)
    by_cases h2 : 64 ≤ x / 64 ^ j
    · refine Ev.step (f := fun k => six_groups.l0 k (bints []) (x : Int) (m : Int) ((6 * (j + 1) : Nat) : Int)) (fun k => ?_) (ih (j + 1) (by omega) (fun _ => by rw [Nat.add_sub_cancel]; exact h2))
      simp only [six_groups.l0]
      rw [if_pos (by omega), hs, if_pos (by omega), wrap64_small (by omega) (by omega)]
      congr 1
    · refine Ev.step (f := fun k => six_groups.l1 k (bints []) (x : Int) (m : Int) ((6 * j : Nat) : Int)) (fun k => ?_) ?_
      · simp only [six_groups.l0]
        rw [if_pos (by omega), hs, if_neg (by omega)]
      · have := groups_l1 x hx m hm j [] (by omega) (by simp)
        rw [List.nil_append, lo_high j x (by omega) h] at this
        exact this
theorem ev_groups (x : Nat) (hx : x < 9223372036854775808) (m : Nat) (hm : m ≤ 128) : Ev (fun k => six_groups.f k [] (x : Int) (m : Int)) (bints (enc m x)) :=
  groups_l0 x hx m hm 11 0 rfl (fun h => absurd rfl h)
end Go.Proofs.Ytlkljeghhahedaa.SixPut

/- What wal.Frame and the reference's come to. -/
namespace Go.Proofs.Ytlkljeghhahedaa.WalEv
open Go Go.RowKit Go.Proofs.YtlkljeghhahedaaW.PrintWords Go.Proofs.Ytlkljeghhahedaa.PBase Go.Proofs.Ytlkljeghhahedaa.PWalFrames Go.Proofs.Ytlkljeghhahedaa.Base Go.Proofs.Ytlkljeghhahedaa.CrcFn Go.Proofs.Ytlkljeghhahedaa.CrcEv Go.Proofs.Ytlkljeghhahedaa.CrcRef Go.Proofs.Ytlkljeghhahedaa.SixFn Go.Proofs.Ytlkljeghhahedaa.SixEv Go.Proofs.Ytlkljeghhahedaa.SixPut

def frame (l : List UInt8) : List UInt8 := put (enc 64 l.length ++ l)
theorem high_len (d : Nat) : ∀ x, x < 64 ^ d → (high x).length ≤ d := by
  induction d with
  | zero => intro x h; rw [show x = 0 by omega, high_zero]; simp
  | succ d ih =>
    intro x h
    by_cases h0 : x = 0
    · rw [h0, high_zero]; simp
    · rw [high_pos h0, List.length_append]
      have := ih (x / 64) (by rw [Nat.div_lt_iff_lt_mul (by decide), ← Nat.pow_succ]; exact h)
      simp; omega
theorem enc_len (m x : Nat) (h : x < 4611686018427387904) : (enc m x).length ≤ 12 := by
  unfold enc
  rw [List.length_append]
  have := high_len 11 (x / 64) (by show x / 64 < 73786976294838206464; omega)
  simp; omega
theorem frame_len (l : List UInt8) (h : l.length ≤ 1000000000) : (frame l).length ≤ l.length + 16 := by
  unfold frame
  rw [put_length, List.length_append]
  have := enc_len 64 l.length (by omega)
  omega
theorem bytesOf_bints (l : List UInt8) : bytesOf (ofL l) = bints l := rfl
theorem strOf_bints (l : List UInt8) : strOfNums (bints l) = ofL l := by
  rw [strOfNums_eq]
  congr 1
  simp [bints, List.map_map, Function.comp_def]
theorem ev_Frame (l : List UInt8) (h : l.length ≤ 1000000000) : Ev (fun k => wal_Frame.f k (ofL l)) (ofL (frame l)) := by
  have hs : (ofL l).size = l.length := size_ofL l
  have he := enc_len 64 l.length (by omega)
  have hg := ev_groups l.length (by omega) 64 (by omega)
  have hl : (ofL (enc 64 l.length ++ l)).size = (enc 64 l.length ++ l).length := size_ofL _
  rw [List.length_append] at hl
  have hp := ev_put (ofL (enc 64 l.length ++ l)) (by omega)
  rw [toL_ofL] at hp
  unfold wal_Frame.f WalFrame.framed
  rw [hs]
  refine Ev.bind hg (Ev.congr (f := fun k => crc_Put.f k (ofL (enc 64 l.length ++ l))) (fun k => ?_) hp)
  rw [if_pos (by simp [bints]; omega), bytesOf_bints, show bints (enc 64 l.length) ++ bints l = bints (enc 64 l.length ++ l) by simp [bints], strOf_bints]
theorem ev_RefFrame (l : List UInt8) (h : l.length ≤ 1000000000) : Ev (fun k => siloref12_Frame.f k (ofL l)) (ofL (frame l)) := by
  have hs : (ofL l).size = l.length := size_ofL l
  have he := enc_len 64 l.length (by omega)
  have hl : (ofL (enc 64 l.length ++ l)).size = (enc 64 l.length ++ l).length := size_ofL _
  have hl2 : (ofL (enc 64 l.length)).size = (enc 64 l.length).length := size_ofL _
  rw [List.length_append] at hl
  unfold siloref12_Frame.f siloref01_Text.f
  rw [hs]
  have h1 : Ev (fun k => (siloref01_Whole.f k (l.length : Int)).bind fun t131 => (if t131.size + l.length ≤ 9223372036854775807 then (some (t131 ++ ofL l)) else (none))) (ofL (enc 64 l.length ++ l)) := by
    refine Ev.bind (ref_whole l.length (by omega)) (Ev.congr (fun k => ?_) (Ev.now _))
    rw [hl2, if_pos (by omega), append_ofL]
  refine Ev.bind h1 (Ev.congr (fun k => ?_) (Ev.now _))
  rw [ref_put _ (by omega), toL_ofL]
  rfl
theorem rd_ofL (ps : List ByteArray) (j : Nat) (h : j < ps.length) : rdOf ByteArray.empty ps (j : Int) = ps[j] := by
  simp [rdOf, List.getD_eq_getElem?_getD, List.getElem?_eq_getElem h]
/-- The frames from j on. -/
def frames (ps : List ByteArray) : List UInt8 := ps.flatMap fun p => frame (toL p)
theorem ev_Frames (ps : List ByteArray) (hp : ∀ p ∈ ps, p.size ≤ 1000000) (hl : ps.length ≤ 1000) (d : Nat) : ∀ (j : Nat) (acc : List UInt8), j + d = ps.length → acc.length ≤ j * 1000016 →
    Ev (fun k => siloref12_Frames.l0 k ps (ofL acc) (j : Int)) (ofL (acc ++ frames (ps.drop j))) := by
  induction d with
  | zero =>
    intro j acc hj _
    refine Ev.step (f := fun _ => some (ofL acc)) (fun k => ?_) ?_
    · simp only [siloref12_Frames.l0]
      rw [if_neg (by omega)]
    · rw [List.drop_eq_nil_of_le (by omega)]
      simp only [frames, List.flatMap_nil, List.append_nil]
      exact Ev.now _
  | succ d ih =>
    intro j acc hj ha
    have hlt : j < ps.length := by omega
    have hsz : (toL ps[j]).length ≤ 1000000 := by rw [← size_eq]; exact hp _ (List.getElem_mem hlt)
    have hf := ev_RefFrame (toL ps[j]) (by omega)
    have hfl := frame_len (toL ps[j]) (by omega)
    rw [ofL_toL] at hf
    have e1 : (ofL acc).size = acc.length := size_ofL acc
    have e2 : (ofL (frame (toL ps[j]))).size = (frame (toL ps[j])).length := size_ofL _
    have hi := ih (j + 1) (acc ++ frame (toL ps[j])) (by omega) (by rw [List.length_append]; omega)
    refine Ev.step (f := fun k => (siloref12_Frame.f k ps[j]).bind fun t135 => (if (ofL acc).size + t135.size ≤ 9223372036854775807 then (siloref12_Frames.l0 k ps (ofL acc ++ t135) ((j + 1 : Nat) : Int)) else (none))) (fun k => ?_) (Ev.bind hf (Ev.congr (f := fun k => siloref12_Frames.l0 k ps (ofL (acc ++ frame (toL ps[j]))) ((j + 1 : Nat) : Int)) (fun k => ?_) ?_))
    · simp only [siloref12_Frames.l0, rd_ofL ps j hlt]
      rw [if_pos (by omega), if_pos (by omega), wrap64_small (by omega) (by omega)]
      rfl
    · rw [e1, e2, if_pos (by omega), append_ofL]
    · rw [List.drop_eq_getElem_cons hlt]
      simp only [frames, List.flatMap_cons] at hi ⊢
      rw [← List.append_assoc]
      exact hi
end Go.Proofs.Ytlkljeghhahedaa.WalEv

/- The program's and the reference's readers of a log tell the same. -/
namespace Go.Proofs.Ytlkljeghhahedaa.WalEv
open Go Go.RowKit Go.Proofs.YtlkljeghhahedaaW.PrintWords Go.Proofs.Ytlkljeghhahedaa.PBase Go.Proofs.Ytlkljeghhahedaa.PWalFrames Go.Proofs.Ytlkljeghhahedaa.Base Go.Proofs.Ytlkljeghhahedaa.CrcFn Go.Proofs.Ytlkljeghhahedaa.CrcEv Go.Proofs.Ytlkljeghhahedaa.CrcRef Go.Proofs.Ytlkljeghhahedaa.SixFn Go.Proofs.Ytlkljeghhahedaa.SixEv Go.Proofs.Ytlkljeghhahedaa.SixPut

theorem prog_out (x0 x6 x7 x13 : ByteArray) (xs : List ByteArray) : Ev (fun k => wal_Split.j2 k x0 xs x6 x7 true x13) (xs, wrap64 ((x0.size : Int) - (x6.size : Int))) :=
  Ev.step (f := fun _ => some (xs, wrap64 ((x0.size : Int) - (x6.size : Int)))) (fun k => by simp only [wal_Split.j2, if_true]) (Ev.now _)
theorem prog_err (x0 x6 x7 x13 : ByteArray) (xs : List ByteArray) (e : Int) (he : e ≠ 0) : Ev (fun k => wal_Split.j1 k x0 xs x6 x7 e x13) (xs, wrap64 ((x0.size : Int) - (x6.size : Int))) :=
  Ev.step (f := fun k => wal_Split.j2 k x0 xs x6 x7 true x13) (fun k => by simp only [wal_Split.j1]; rw [if_neg he]) (prog_out x0 x6 x7 x13 xs)
theorem prog_long (x0 x6 x7 x13 : ByteArray) (xs : List ByteArray) (h : (x7.size : Int) > 1048576) : Ev (fun k => wal_Split.j1 k x0 xs x6 x7 0 x13) (xs, wrap64 ((x0.size : Int) - (x6.size : Int))) :=
  Ev.step (f := fun k => wal_Split.j2 k x0 xs x6 x7 true x13) (fun k => by simp only [wal_Split.j1]; rw [if_pos trivial, if_pos h]) (prog_out x0 x6 x7 x13 xs)
theorem prog_step (x0 rest x7 rest1 rest2 : ByteArray) (e e2 : Int) (xs : List ByteArray) {raw4 : ByteArray} {r : List ByteArray × Int}
    (ht : Ev (fun k => six_Reader_Text.f k rest) (x7, e, rest1)) (hr : six_Reader_Raw.f rest1 4 = some (raw4, e2, rest2))
    (h : Ev (fun k => if e = 0 then wal_Split.j1 k x0 xs rest x7 e2 rest2 else wal_Split.j1 k x0 xs rest x7 e rest1) r) :
    Ev (fun k => wal_Split.l0 k x0 xs rest) r := by
  refine Ev.step (f := fun k => (six_Reader_Text.f k rest).bind fun bt132 => (if bt132.2.1 = 0 then ((six_Reader_Raw.f bt132.2.2 4).bind fun bt135 => (wal_Split.j1 k x0 xs rest bt132.1 bt135.2.1 bt135.2.2)) else (wal_Split.j1 k x0 xs rest bt132.1 bt132.2.1 bt132.2.2))) (fun k => ?_) (Ev.bind ht (Ev.congr (fun k => ?_) h))
  · simp only [wal_Split.l0, six_Reader_Rest.f, Option.bind_some]
  · dsimp only
    rw [hr]
    rfl
theorem ref_out (x0 x6 : ByteArray) (xs : List ByteArray) (i n : Int) : Ev (fun k => siloref12_Split.j1 k x0 xs i x6 n true) (xs, i) :=
  Ev.step (f := fun _ => some (xs, i)) (fun k => by simp only [siloref12_Split.j1, if_true]) (Ev.now _)
theorem frame_take {R : List UInt8} (h : (text R).2.2 = 0) (h4 : (text R).2.1 + 4 ≤ R.length) :
    frame (text R).1 = R.take ((text R).2.1 + 4) ↔ (take (R.take ((text R).2.1 + 4))).2 = 0 := by
  obtain ⟨hc, _⟩ := text_canon h
  unfold frame
  rw [← hc]
  have hl : (R.take ((text R).2.1 + 4)).length = (text R).2.1 + 4 := by rw [List.length_take]; omega
  have ht : (R.take ((text R).2.1 + 4)).take ((R.take ((text R).2.1 + 4)).length - 4) = R.take (text R).2.1 := by
    rw [hl, List.take_take]; congr 1; omega
  unfold take
  rw [if_neg (by omega), ht]
  constructor
  · intro e; rw [if_pos e]
  · intro e
    by_cases h : put (R.take (text R).2.1) = R.take ((text R).2.1 + 4)
    · exact h
    · rw [if_neg h] at e; simp at e
theorem drop_of (P : List UInt8) (i : Nat) : (ofL P).extract i (ofL P).size = ofL (P.drop i) := extract_drop (ofL P) i
theorem ar1 {L s : Nat} (h : L ≤ 1000000000) (hs : s ≤ L) : wrap64 ((L : Int) - (s : Int)) = (L : Int) - (s : Int) := wrap64_small (by omega) (by omega)
theorem ref_err (P : List UInt8) (hP : P.length ≤ 1000000000) (xs : List ByteArray) (i : Nat) (hi : i ≤ P.length) {g : Nat → Option (List ByteArray × Int)} {r : List ByteArray × Int}
    (hg : ∀ k, (if (text (P.drop i)).2.2 = 0 then (if ((ofL (text (P.drop i)).1).size : Int) > 1048576 then (siloref12_Split.j1 k (ofL P) xs (i : Int) (ofL (text (P.drop i)).1) ((text (P.drop i)).2.1 : Int) true) else (siloref12_Split.j1 k (ofL P) xs (i : Int) (ofL (text (P.drop i)).1) ((text (P.drop i)).2.1 : Int) (decide ((wrap64 ((wrap64 ((P.length : Int) - (i : Int))) - ((text (P.drop i)).2.1 : Int))) < 4)))) else (siloref12_Split.j1 k (ofL P) xs (i : Int) (ofL (text (P.drop i)).1) ((text (P.drop i)).2.1 : Int) true)) = g k) (h : Ev g r) :
    Ev (fun k => siloref12_Split.l0 k (ofL P) xs (i : Int)) r := by
  have hPs : (ofL P).size = P.length := size_ofL P
  have hsz : (ofL (P.drop i)).size ≤ 9223372036854775806 := by have := size_ofL (P.drop i); rw [List.length_drop] at this; omega
  have ht := ev_ReadText (ofL (P.drop i)) hsz
  rw [toL_ofL] at ht
  refine Ev.step (f := fun k => (siloref01_ReadText.f k (ofL (P.drop i))).bind fun bt147 => (if bt147.2.2 = 0 then (if (bt147.1.size : Int) > 1048576 then (siloref12_Split.j1 k (ofL P) xs (i : Int) bt147.1 bt147.2.1 true) else (siloref12_Split.j1 k (ofL P) xs (i : Int) bt147.1 bt147.2.1 (decide ((wrap64 ((wrap64 ((P.length : Int) - (i : Int))) - bt147.2.1)) < 4)))) else (siloref12_Split.j1 k (ofL P) xs (i : Int) bt147.1 bt147.2.1 true))) (fun k => ?_) (Ev.bind ht (Ev.congr hg h))
  simp only [siloref12_Split.l0]
  rw [if_pos (by omega), hPs, if_pos (by omega), Int.toNat_natCast, ← hPs, drop_of]
theorem splits (P : List UInt8) (hP : P.length ≤ 1000000000) (d : Nat) : ∀ (i : Nat) (xs : List ByteArray), P.length < i + d → i ≤ P.length → xs.length ≤ i →
    ∃ r : List ByteArray × Int, Ev (fun k => wal_Split.l0 k (ofL P) xs (ofL (P.drop i))) r ∧ Ev (fun k => siloref12_Split.l0 k (ofL P) xs (i : Int)) r ∧ r.1.length ≤ P.length := by
  induction d with
  | zero => intro i xs h hi; omega
  | succ d ih =>
    intro i xs hd hi hx
    have hPs : (ofL P).size = P.length := size_ofL P
    have hRl : (P.drop i).length = P.length - i := List.length_drop
    have hRs : (ofL (P.drop i)).size = P.length - i := by rw [← hRl]; exact size_ofL _
    have ht := ev_Text (ofL (P.drop i)) (by omega)
    rw [toL_ofL] at ht
    have hre := @ref_err P hP xs i hi
    have hz := text_size (P.drop i)
    have hfc := @frame_take (P.drop i)
    have hcan := @text_canon (P.drop i)
    have hts : (ofL (text (P.drop i)).1).size = (text (P.drop i)).1.length := size_ofL _
    have hout : wrap64 (((ofL P).size : Int) - ((ofL (P.drop i)).size : Int)) = (i : Int) := by rw [hPs, hRs, wrap64_small (by omega) (by omega)]; omega
    have hraw := raw_eq (ofL ((P.drop i).drop (text (P.drop i)).2.1)) 4
    rw [toL_ofL] at hraw
    have hps := fun (rest2 : ByteArray) (e2 : Int) => @prog_step (ofL P) (ofL (P.drop i)) (ofL (text (P.drop i)).1) (ofL ((P.drop i).drop (text (P.drop i)).2.1)) rest2 (text (P.drop i)).2.2 e2 xs
    generalize hR : P.drop i = R at *
    generalize hT : text R = T at *
    obtain ⟨t, z, e⟩ := T
    dsimp only at *
    by_cases he : e = 0
    · subst he
      have hcan := hcan rfl
      by_cases h4 : z + 4 ≤ R.length
      · have hraw2 : raw (R.drop z) 4 = ((R.drop z).take 4, 4, 0) := by
          unfold raw
          rw [if_neg (by omega), if_neg (by rw [List.length_drop]; omega)]
          rfl
        rw [hraw2] at hraw
        dsimp only at hraw
        by_cases hlong : ((ofL t).size : Int) > 1048576
        · refine ⟨(xs, (i : Int)), hps _ _ ht hraw (Ev.congr (fun k => if_pos rfl) ?_), hre (fun k => by rw [if_pos rfl, if_pos hlong]) (ref_out _ _ _ _ _), by dsimp only; omega⟩
          have := prog_long (ofL P) (ofL R) (ofL t) (ofL ((R.drop z).drop 4)) xs hlong
          rw [hout] at this
          exact this
        · have hdec : decide ((wrap64 ((wrap64 ((P.length : Int) - (i : Int))) - (z : Int))) < 4) = false := by
            rw [ar1 hP hi, wrap64_small (by omega) (by omega)]
            exact decide_eq_false (by omega)
          have hfr := ev_Frame t (by omega)
          have hrs2 : (ofL ((R.drop z).drop 4)).size = R.length - z - 4 := by have := size_ofL ((R.drop z).drop 4); rw [List.length_drop, List.length_drop] at this; exact this
          have hcut : wrap64 (((ofL R).size : Int) - ((ofL ((R.drop z).drop 4)).size : Int)) = ((z + 4 : Nat) : Int) := by rw [hRs, hrs2, wrap64_small (by omega) (by omega)]; omega
          have hex : (ofL R).extract 0 (z + 4) = ofL (R.take (z + 4)) := extract_take (ofL R) (z + 4)
          have hlt : (R.take (z + 4)).length = z + 4 := by rw [List.length_take]; omega
          have hls : (ofL (R.take (z + 4))).size = z + 4 := (size_ofL (R.take (z + 4))).trans hlt
          have htk := ref_take (ofL (R.take (z + 4))) (by omega)
          rw [toL_ofL] at htk
          -- the program's step behind the frame
          have hprog : ∀ {r : List ByteArray × Int}, Ev (fun k => wal_Split.j2 k (ofL P) xs (ofL R) (ofL t) (frame t != R.take (z + 4)) (ofL ((R.drop z).drop 4))) r → Ev (fun k => wal_Split.l0 k (ofL P) xs (ofL R)) r := by
            intro r h
            refine hps _ _ ht hraw (Ev.congr (fun k => if_pos rfl) ?_)
            refine Ev.step (f := fun k => (wal_Frame.f k (ofL t)).bind fun t138 => wal_Split.j2 k (ofL P) xs (ofL R) (ofL t) (t138.toList != R.take (z + 4)) (ofL ((R.drop z).drop 4))) (fun k => ?_) (Ev.bind hfr (Ev.congr (fun k => ?_) h))
            · simp only [wal_Split.j1, if_true, six_Reader_Rest.f, Option.bind_some]
              rw [if_neg hlong, hcut, Int.toNat_natCast, hex, toList_ofL]
              have q1 : (0 : Int) ≤ ((z + 4 : Nat) : Int) := by omega
              have q2 : ((z + 4 : Nat) : Int) ≤ ((ofL R).size : Int) := by omega
              simp only [q1, q2, if_true]
            · rw [toList_ofL]
          have href : ∀ {r : List ByteArray × Int}, Ev (fun k => if (take (R.take (z + 4))).2 = 0 then (siloref12_Split.l0 k (ofL P) (xs ++ [ofL t]) ((i + z + 4 : Nat) : Int)) else some (xs, (i : Int))) r → Ev (fun k => siloref12_Split.l0 k (ofL P) xs (i : Int)) r := by
            intro r h
            refine hre (g := fun k => siloref12_Split.j1 k (ofL P) xs (i : Int) (ofL t) (z : Int) false) (fun k => by rw [if_pos rfl, if_neg hlong, hdec]) ?_
            refine Ev.step (fun k => ?_) h
            have hd2 : (ofL P).extract i P.length = ofL R := by rw [← hPs, ← hR]; exact drop_of P i
            simp only [siloref12_Split.j1, Bool.false_eq_true, if_false]
            rw [hPs, wrap64_small (x := (z : Int) + 4) (by omega) (by omega), wrap64_small (x := (i : Int) + (z : Int)) (by omega) (by omega), wrap64_small (x := (i : Int) + (z : Int) + 4) (by omega) (by omega), Int.toNat_natCast, hd2, hRs, show ((z : Int) + 4).toNat = z + 4 by omega, hex, htk, if_pos (by omega), if_pos (by omega), if_pos (by omega), if_pos (by omega)]
            simp only [Option.bind_some]
            rw [if_pos (show xs.length < 8796093022208 by omega), show (i : Int) + (z : Int) + 4 = ((i + z + 4 : Nat) : Int) by omega]
          have hiff := hfc rfl h4
          by_cases hf : frame t = R.take (z + 4)
          · obtain ⟨r, q1, q2, q3⟩ := ih (i + z + 4) (xs ++ [ofL t]) (by omega) (by omega) (by rw [List.length_append]; simp; omega)
            have hdd : P.drop (i + z + 4) = (R.drop z).drop 4 := by rw [← hR, List.drop_drop, List.drop_drop]; congr 1
            rw [hdd] at q1
            refine ⟨r, hprog (Ev.step (fun k => ?_) q1), href (Ev.congr (fun k => if_pos (hiff.1 hf)) q2), q3⟩
            simp only [wal_Split.j2]
            rw [hf, if_neg (by simp), if_pos (by omega)]
          · refine ⟨(xs, (i : Int)), hprog ?_, href (Ev.congr (fun k => if_neg (fun h => hf (hiff.2 h))) (Ev.now _)), by dsimp only; omega⟩
            have := prog_out (ofL P) (ofL R) (ofL t) (ofL ((R.drop z).drop 4)) xs
            rw [hout] at this
            rw [show (frame t != R.take (z + 4)) = true by simp [hf]]
            exact this
      · have hraw2 : raw (R.drop z) 4 = ([], 0, 2) := by
          unfold raw
          rw [if_neg (by omega), if_pos (by rw [List.length_drop]; omega)]
        rw [hraw2] at hraw
        refine ⟨(xs, (i : Int)), hps _ _ ht hraw (Ev.congr (fun k => if_pos rfl) ?_), hre (g := fun k => siloref12_Split.j1 k (ofL P) xs (i : Int) (ofL t) (z : Int) true) (fun k => ?_) (ref_out _ _ _ _ _), by dsimp only; omega⟩
        · have := prog_err (ofL P) (ofL R) (ofL t) (ofL ((R.drop z).drop 0)) xs 2 (by omega)
          rw [hout] at this
          exact this
        · rw [if_pos rfl, ar1 hP hi, wrap64_small (by omega) (by omega), show decide ((P.length : Int) - (i : Int) - (z : Int) < 4) = true from decide_eq_true (by omega)]
          split <;> rfl
    · refine ⟨(xs, (i : Int)), hps _ _ ht hraw (Ev.congr (fun k => if_neg he) ?_), hre (fun k => by rw [if_neg he]) (ref_out _ _ _ _ _), by dsimp only; omega⟩
      have := prog_err (ofL P) (ofL R) (ofL t) (ofL (R.drop z)) xs e he
      rw [hout] at this
      exact this
end Go.Proofs.Ytlkljeghhahedaa.WalEv

/- WalFrames, over lists: the frames are the reference's, and what is told of any bytes is what the reference tells. -/
namespace Go.Proofs.Ytlkljeghhahedaa.Pure
open Go Go.RowKit Go.Proofs.YtlkljeghhahedaaW.PrintWords Go.Proofs.YtlkljeghhahedaaW.PrintLast Go.Proofs.Ytlkljeghhahedaa.PBase Go.Proofs.Ytlkljeghhahedaa.PWalFrames Go.Proofs.Ytlkljeghhahedaa.Base Go.Proofs.Ytlkljeghhahedaa.CrcFn Go.Proofs.Ytlkljeghhahedaa.CrcEv Go.Proofs.Ytlkljeghhahedaa.SixFn Go.Proofs.Ytlkljeghhahedaa.SixEv Go.Proofs.Ytlkljeghhahedaa.SixPut Go.Proofs.Ytlkljeghhahedaa.WalEv

theorem awake_at : silolaw12_awake.f 60 = some true := by decide +kernel
theorem awake_true : Ev (fun k => silolaw12_awake.f k) true := Ev.of (fun k => silolaw12_awake.mono k) awake_at
theorem few_no (ps : List ByteArray) (n i : Int) : Ev (fun k => silolaw12_few.j1 k ps n i true) false :=
  Ev.step (f := fun _ => some false) (fun k => by simp only [silolaw12_few.j1, if_true]) (Ev.now _)
theorem few_l0 (ps : List ByteArray) (d : Nat) : ∀ (j n : Nat), j + d = ps.length → n ≤ 60000 → j ≤ 200 →
    ∃ b, Ev (fun k => silolaw12_few.l0 k ps (n : Int) (j : Int)) b ∧ (b = true → ps.length ≤ 200 ∧ ∀ p ∈ ps.drop j, p.size ≤ 30000) := by
  induction d with
  | zero =>
    intro j n hj hn h2
    refine ⟨decide ((n : Int) ≤ 30000), Ev.step (f := fun _ => some (decide ((n : Int) ≤ 30000))) (fun k => ?_) (Ev.now _), fun _ => ⟨by omega, fun p hp => ?_⟩⟩
    · simp only [silolaw12_few.l0]
      rw [if_neg (by omega)]
    · rw [List.drop_eq_nil_of_le (by omega)] at hp; simp at hp
  | succ d ih =>
    intro j n hj hn h2
    have hlt : j < ps.length := by omega
    by_cases h3 : 200 ≤ j
    · refine ⟨false, Ev.step (f := fun k => silolaw12_few.j1 k ps (n : Int) (j : Int) true) (fun k => ?_) (few_no _ _ _), fun h => by cases h⟩
      simp only [silolaw12_few.l0]
      rw [if_pos (by omega), if_pos (by omega)]
    · by_cases h4 : (ps[j].size : Int) > 30000
      · refine ⟨false, Ev.step (f := fun k => silolaw12_few.j1 k ps (n : Int) (j : Int) true) (fun k => ?_) (few_no _ _ _), fun h => by cases h⟩
        simp only [silolaw12_few.l0, rd_ofL ps j hlt]
        rw [if_pos (by omega), if_neg (by omega), if_pos (by omega), if_pos h4]
      · by_cases h5 : (n : Int) > 30000
        · refine ⟨false, Ev.step (f := fun k => silolaw12_few.j1 k ps (n : Int) (j : Int) true) (fun k => ?_) (few_no _ _ _), fun h => by cases h⟩
          simp only [silolaw12_few.l0, rd_ofL ps j hlt]
          rw [if_pos (by omega), if_neg (by omega), if_pos (by omega), if_neg h4, show decide ((n : Int) > 30000) = true from decide_eq_true h5]
        · obtain ⟨b, q, hb⟩ := ih (j + 1) (n + ps[j].size) (by omega) (by omega) (by omega)
          refine ⟨b, Ev.step (f := fun k => silolaw12_few.j1 k ps (n : Int) (j : Int) false) (fun k => ?_) (Ev.step (fun k => ?_) q), fun h => ?_⟩
          · simp only [silolaw12_few.l0, rd_ofL ps j hlt]
            rw [if_pos (by omega), if_neg (by omega), if_pos (by omega), if_neg h4, show decide ((n : Int) > 30000) = false from decide_eq_false h5]
          · simp only [silolaw12_few.j1, Bool.false_eq_true, if_false, rd_ofL ps j hlt]
            rw [if_pos (by omega), if_pos (by omega), wrap64_small (x := (n : Int) + (ps[j].size : Int)) (by omega) (by omega), wrap64_small (by omega) (by omega)]
            rfl
          · obtain ⟨c1, c2⟩ := hb h
            refine ⟨c1, fun p hp => ?_⟩
            rw [List.drop_eq_getElem_cons hlt] at hp
            rcases List.mem_cons.1 hp with rfl | hp
            · omega
            · exact c2 p hp
theorem same_l0 (xs : List ByteArray) (hl : xs.length ≤ 1000000000) (d : Nat) : ∀ j : Nat, j + d = xs.length → Ev (fun k => siloref01_Same.l0 k xs xs (j : Int)) true := by
  induction d with
  | zero =>
    intro j hj
    refine Ev.step (f := fun _ => some true) (fun k => ?_) (Ev.now _)
    simp only [siloref01_Same.l0]
    rw [if_neg (by omega)]
  | succ d ih =>
    intro j hj
    refine Ev.step (fun k => ?_) (ih (j + 1) (by omega))
    simp only [siloref01_Same.l0]
    rw [if_pos (by omega), if_pos (by omega), if_pos (by omega), wrap64_small (by omega) (by omega)]
    simp
theorem loop (ps : List ByteArray) (hl : ps.length ≤ 200) (hp : ∀ p ∈ ps, p.size ≤ 30000) (s : List UInt8) (hs : s.length ≤ 30000) (d : Nat) : ∀ (j : Nat) (acc : List UInt8), j + d = ps.length → acc.length ≤ j * 30016 → acc ++ frames (ps.drop j) = frames ps →
    Ev (fun k => silolaw12_WalFrames.l0 k ps (ofL s) (ofL acc) (j : Int)) true := by
  induction d with
  | zero =>
    intro j acc hj ha hf
    rw [List.drop_eq_nil_of_le (by omega)] at hf
    simp only [frames, List.flatMap_nil, List.append_nil] at hf
    have e1 : (ofL acc).size = acc.length := size_ofL acc
    have e2 : (ofL s).size = s.length := size_ofL s
    have hP : (acc ++ s).length ≤ 1000000000 := by rw [List.length_append]; omega
    obtain ⟨r, q1, q2, q3⟩ := splits (acc ++ s) hP ((acc ++ s).length + 1) 0 [] (by omega) (by omega) (by simp)
    rw [List.drop_zero] at q1
    have p1 : Ev (fun k => wal_Split.f k (ofL (acc ++ s))) r := Ev.congr (fun k => by unfold wal_Split.f six_Over.f; simp only [Option.bind_some]) q1
    have p2 : Ev (fun k => siloref12_Split.f k (ofL (acc ++ s))) r := q2
    have p3 : Ev (fun k => siloref12_Frames.f k ps) (ofL acc) := by
      have := ev_Frames ps (fun p h => by have := hp p h; omega) (by omega) ps.length 0 [] (by omega) (by simp)
      rw [List.nil_append, List.drop_zero] at this
      rw [show acc = frames ps from hf]
      exact this
    have p4 : Ev (fun k => siloref01_Same.f k r.1 r.1) true := by
      unfold siloref01_Same.f
      exact Ev.congr (fun k => if_pos rfl) (same_l0 r.1 (by omega) r.1.length 0 (by omega))
    refine Ev.step (f := fun k => (wal_Split.f k (ofL (acc ++ s))).bind fun bt196 => ((siloref12_Frames.f k ps).bind fun t200 => (if t200.size + (ofL s).size ≤ 9223372036854775807 then ((siloref12_Split.f k (t200 ++ ofL s)).bind fun bt201 => ((siloref12_Frames.f k ps).bind fun t205 => (if (ofL acc).toList = t205.toList then ((siloref01_Same.f k bt196.1 bt201.1).bind fun t206 => (if t206 = true then (some (bt196.2 == bt201.2)) else (some false))) else (some false)))) else (none)))) (fun k => ?_) (Ev.bind p1 (Ev.bind p3 ?_))
    · simp only [silolaw12_WalFrames.l0]
      rw [if_neg (by omega), if_pos (by omega), append_ofL]
    · refine Ev.congr (f := fun k => (siloref12_Split.f k (ofL (acc ++ s))).bind fun bt201 => ((siloref12_Frames.f k ps).bind fun t205 => (if (ofL acc).toList = t205.toList then ((siloref01_Same.f k r.1 bt201.1).bind fun t206 => (if t206 = true then (some (r.2 == bt201.2)) else (some false))) else (some false)))) (fun k => ?_) (Ev.bind p2 (Ev.bind p3 (Ev.congr (fun k => if_pos rfl) (Ev.bind p4 (Ev.congr (fun k => ?_) (Ev.now _))))))
      · rw [if_pos (by omega), append_ofL]
      · simp
  | succ d ih =>
    intro j acc hj ha hf
    have hlt : j < ps.length := by omega
    have hsz : (toL ps[j]).length ≤ 30000 := by rw [← size_eq]; exact hp _ (List.getElem_mem hlt)
    have hfr := ev_Frame (toL ps[j]) (by omega)
    have hfl := frame_len (toL ps[j]) (by omega)
    rw [ofL_toL] at hfr
    have e1 : (ofL acc).size = acc.length := size_ofL acc
    have e2 : (ofL (frame (toL ps[j]))).size = (frame (toL ps[j])).length := size_ofL _
    rw [List.drop_eq_getElem_cons hlt] at hf
    simp only [frames, List.flatMap_cons] at hf
    rw [← List.append_assoc] at hf
    have hi := ih (j + 1) (acc ++ frame (toL ps[j])) (by omega) (by rw [List.length_append]; omega) hf
    refine Ev.step (f := fun k => (wal_Frame.f k ps[j]).bind fun t195 => (if (ofL acc).size + t195.size ≤ 9223372036854775807 then (silolaw12_WalFrames.l0 k ps (ofL s) (ofL acc ++ t195) ((j + 1 : Nat) : Int)) else (none))) (fun k => ?_) (Ev.bind hfr (Ev.congr (f := fun k => silolaw12_WalFrames.l0 k ps (ofL s) (ofL (acc ++ frame (toL ps[j]))) ((j + 1 : Nat) : Int)) (fun k => ?_) hi))
    · simp only [silolaw12_WalFrames.l0, rd_ofL ps j hlt]
      rw [if_pos (by omega), if_pos (by omega), wrap64_small (by omega) (by omega)]
      rfl
    · rw [e1, e2, if_pos (by omega), append_ofL]
theorem j0_true (ps : List ByteArray) (s : ByteArray) : Ev (fun k => silolaw12_WalFrames.j0 k ps s true) true :=
  Ev.step (f := fun k => (silolaw12_awake.f k).bind fun t193 => (some t193)) (fun k => by simp only [silolaw12_WalFrames.j0, if_true]) (Ev.bind awake_true (Ev.now _))
theorem WalFrames (ps : List ByteArray) (a1 : ByteArray) : ∃ k, silolaw12_WalFrames.f k ps a1 = some true := by
  apply Ev.rounds
  unfold silolaw12_WalFrames.f
  refine Ev.bind awake_true (Ev.congr (fun k => if_pos rfl) ?_)
  obtain ⟨b, hb, hfew⟩ := few_l0 ps ps.length 0 0 (by omega) (by omega) (by omega)
  have hb' : Ev (fun k => silolaw12_few.f k ps) b := hb
  refine Ev.bind hb' ?_
  cases b with
  | false => exact Ev.congr (fun k => if_neg (by decide)) (j0_true ps a1)
  | true =>
    obtain ⟨hl, hp⟩ := hfew rfl
    rw [List.drop_zero] at hp
    refine Ev.congr (fun k => if_pos rfl) ?_
    by_cases h : (a1.size : Int) > 30000
    · rw [show decide ((a1.size : Int) > 30000) = true from decide_eq_true h]
      exact j0_true ps a1
    · rw [show decide ((a1.size : Int) > 30000) = false from decide_eq_false h]
      have hs := size_eq a1
      refine Ev.step (f := fun k => silolaw12_WalFrames.l0 k ps a1 (⟨#[]⟩ : ByteArray) 0) (fun k => by simp only [silolaw12_WalFrames.j0, Bool.false_eq_true, if_false]) ?_
      exact loop ps hl hp (toL a1) (by omega) ps.length 0 [] (by omega) (by simp) (by rw [List.drop_zero, List.nil_append])
end Go.Proofs.Ytlkljeghhahedaa.Pure

/- The walk of the law WalFrames: for any slice of strings and any string the call returns true and changes nothing that was there. -/
namespace Go.Proofs.Ytlkljeghhahedaa
open Go.RowKit Go.Proofs.YtlkljeghhahedaaW.PrintWords
theorem walFrames_walk (w : World) (A : Option Addr) (c : Nat) (l : List ByteArray) (hr : Kd.string.C w A l.length l) (hc : l.length ≤ c) (_hl : l.length * 16 ≤ 140737488351232) (a : ByteArray) (_ha : a.size ≤ 140737488351232) :
    Calls Try.prog 3 #[.slice A l.length c, .string a] w fun e w' => e = .returned (.bool true) ∧ Below w.heap.size w w' := by
  obtain ⟨k, h⟩ := Pure.WalFrames l a
  exact PWalFrames.silolaw12_WalFrames.calls k A c l a true w hr hc h
end Go.Proofs.Ytlkljeghhahedaa
