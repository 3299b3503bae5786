/- What the printed crc functions come to: the plain sum over lists of bytes. -/
import Derived.Test.YtlgkmigdgjjoeaaPCrcx1
import Derived.Test.YtlgkmigdgjjoeaaCrcFn
import Derived.Test.YtlgkmigdgjjoeaaBase
namespace Go.Proofs.Ytlgkmigdgjjoeaa.CrcEv
open Go Go.RowKit Go.Proofs.YtlgkmigdgjjoeaaW.PrintWords Go.Proofs.Ytlgkmigdgjjoeaa.PCrc Go.Proofs.Ytlgkmigdgjjoeaa.Base Go.Proofs.Ytlgkmigdgjjoeaa.CrcFn

theorem mask (b : BitVec 32) : 0x82f63b78#32 &&& (-(b &&& 1#32)) = if b.getLsbD 0 then poly else 0#32 := by
  have h : b &&& 1#32 = if b.getLsbD 0 then 1#32 else 0#32 := by
    apply BitVec.eq_of_getLsbD_eq
    intro i hi
    rw [BitVec.getLsbD_and, BitVec.getLsbD_one]
    cases i with
    | zero => cases b.getLsbD 0 <;> simp
    | succ i => cases b.getLsbD 0 <;> simp
  rw [h]
  cases b.getLsbD 0 <;> decide
theorem step_num (x : BitVec 32) : Go.bits .xor .u32 ((x.toNat : Int) / 2) (Go.bits .and .u32 2197175160 ((-(Go.bits .and .u32 (x.toNat : Int) 1)) % 4294967296)) = ((crcStep x).toNat : Int) := by
  rw [show (1 : Int) = ((1#32 : BitVec 32).toNat : Int) from rfl, bits_and32, neg32, show (2197175160 : Int) = ((0x82f63b78#32 : BitVec 32).toNat : Int) from rfl, bits_and32, half32, bits_xor32, mask]
  rfl

theorem ev_l2 (s : ByteArray) (ps : List ByteArray) (n j i : Int) (r : Int) (d : Nat) : ∀ (x : BitVec 32) (c : Nat), c + d = 8 →
    Ev (fun k => crc_Sum.l1 k ((steps d x).toNat : Int) s (wrap64 (i + 1)) ps n j) r → Ev (fun k => crc_Sum.l2 k (x.toNat : Int) s i ps n j (c : Int)) r := by
  induction d with
  | zero =>
    intro x c hc h
    exact Ev.step (fun k => by simp only [crc_Sum.l2]; rw [if_neg (by omega)]; rfl) h
  | succ d ih =>
    intro x c hc h
    refine Ev.step (f := fun k => crc_Sum.l2 k ((crcStep x).toNat : Int) s i ps n j ((c + 1 : Nat) : Int)) (fun k => ?_) (ih _ _ (by omega) h)
    simp only [crc_Sum.l2]
    rw [if_pos (by omega), step_num, wrap64_small (by omega) (by omega)]
    rfl
theorem byte_num (x : BitVec 32) (c : UInt8) : Go.bits .xor .u32 (x.toNat : Int) ((c.toNat : Int) % 4294967296) = ((x ^^^ BitVec.ofNat 32 c.toNat).toNat : Int) := by
  rw [show ((c.toNat : Int) % 4294967296) = ((BitVec.ofNat 32 c.toNat).toNat : Int) by rw [BitVec.toNat_ofNat]; rfl, bits_xor32]
theorem ev_l1 (s : ByteArray) (hs : s.size ≤ 9223372036854775806) (ps : List ByteArray) (n j : Int) (r : Int) (d : Nat) : ∀ (x : BitVec 32) (i : Nat), i + d = s.size →
    Ev (fun k => crc_Sum.l0 k ((run x ((toL s).drop i)).toNat : Int) ps n (wrap64 (j + 1))) r → Ev (fun k => crc_Sum.l1 k (x.toNat : Int) s (i : Int) ps n j) r := by
  induction d with
  | zero =>
    intro x i hi h
    rw [List.drop_of_length_le (by rw [← size_eq]; omega)] at h
    exact Ev.step (fun k => by simp only [crc_Sum.l1]; rw [if_neg (by omega)]; rfl) h
  | succ d ih =>
    intro x i hi h
    have hlt : i < (toL s).length := by rw [← size_eq]; omega
    refine Ev.step (f := fun k => crc_Sum.l2 k ((x ^^^ BitVec.ofNat 32 ((toL s).getD i 0).toNat).toNat : Int) s (i : Int) ps n j ((0 : Nat) : Int)) (fun k => ?_) (ev_l2 s ps n j i r 8 _ 0 rfl ?_)
    · simp only [crc_Sum.l1]
      rw [if_pos (by omega), if_pos (by omega), bt_eq, byte_num]
      rfl
    · rw [wrap64_small (by omega) (by omega)]
      refine ih _ (i + 1) (by omega) ?_
      rw [List.drop_eq_getElem_cons hlt] at h
      rw [List.getD_eq_getElem?_getD, List.getElem?_eq_getElem hlt]
      exact h
theorem ev_l0 (ps : List ByteArray) (hl : ps.length ≤ 9223372036854775806) (hs : ∀ s ∈ ps, s.size ≤ 9223372036854775806) (d : Nat) : ∀ (x : BitVec 32) (j : Nat), j + d = ps.length →
    Ev (fun k => crc_Sum.l0 k (x.toNat : Int) ps (ps.length : Int) (j : Int)) ((~~~ (run x ((ps.drop j).flatMap toL))).toNat : Int) := by
  induction d with
  | zero =>
    intro x j hj
    rw [List.drop_of_length_le (by omega)]
    refine Ev.step (f := fun _ => some ((~~~ x).toNat : Int)) (fun k => ?_) (Ev.now _)
    simp only [crc_Sum.l0]
    rw [if_neg (by omega), show (4294967295 : Int) = ((BitVec.allOnes 32).toNat : Int) from rfl, bits_xor32, BitVec.allOnes_xor]
  | succ d ih =>
    intro x j hj
    have hlt : j < ps.length := by omega
    rw [List.drop_eq_getElem_cons hlt, List.flatMap_cons, run_append]
    refine Ev.step (f := fun k => crc_Sum.l1 k (x.toNat : Int) ps[j] ((0 : Nat) : Int) ps (ps.length : Int) (j : Int)) (fun k => ?_) (ev_l1 ps[j] (hs _ (List.getElem_mem hlt)) ps _ _ _ ps[j].size x 0 (by omega) ?_)
    · simp only [crc_Sum.l0]
      rw [if_pos (by omega), if_pos (by omega), if_pos (by omega)]
      have e : rdOf ByteArray.empty ps (j : Int) = ps[j] := by
        simp [rdOf, List.getD_eq_getElem?_getD, List.getElem?_eq_getElem hlt]
      rw [e]
      rfl
    · rw [wrap64_small (by omega) (by omega), List.drop_zero]
      exact ih _ (j + 1) (by omega)
/-- The sum of any texts. -/
theorem ev_sum (ps : List ByteArray) (hl : ps.length ≤ 9223372036854775806) (hs : ∀ s ∈ ps, s.size ≤ 9223372036854775806) :
    Ev (fun k => crc_Sum.f k ps) ((crc (ps.flatMap toL)).toNat : Int) :=
  ev_l0 ps hl hs ps.length (BitVec.allOnes 32) 0 (by omega)
theorem four_num (x : BitVec 32) : (([((x.toNat : Int) / 16777216) % 256, ((x.toNat : Int) / 65536) % 256, ((x.toNat : Int) / 256) % 256, ((x.toNat : Int)) % 256] : List Int).map fun n => UInt8.ofNat n.toNat) = four x := by
  have := x.isLt
  simp only [List.map_cons, List.map_nil, four, fourN]
  congr 1
  · congr 1
    omega
theorem ev_put (s : ByteArray) (hs : s.size ≤ 9223372036854775800) : Ev (fun k => crc_Put.f k s) (ofL (put (toL s))) := by
  unfold crc_Put.f
  have h1 := ev_sum [s] (by simp) (by intro t ht; simp at ht; subst ht; omega)
  simp only [List.flatMap_cons, List.flatMap_nil, List.append_nil] at h1
  refine Ev.bind h1 (Ev.congr (f := fun _ => some (ofL (put (toL s)))) (fun k => ?_) (Ev.now _))
  simp only [Option.bind_some, strOfNums_eq, four_num]
  have h4 : (ofL (four (crc (toL s)))).size = 4 := by rw [size_ofL, four_length]
  rw [if_pos (by omega)]
  congr 1
theorem put_length (l : List UInt8) : (put l).length = l.length + 4 := by simp [put, four, fourN]
/-- What Take tells: the text and 0, or nothing and a number. -/
def take (l : List UInt8) : List UInt8 × Int := if l.length < 4 then ([], 2) else if put (l.take (l.length - 4)) = l then (l.take (l.length - 4), 0) else ([], 4)
theorem ev_take (s : ByteArray) (hs : s.size ≤ 9223372036854775800) : Ev (fun k => crc_Take.f k s) (ofL (take (toL s)).1, (take (toL s)).2) := by
  unfold crc_Take.f take
  have hsz := size_eq s
  by_cases h4 : (toL s).length < 4
  · rw [if_pos h4]
    refine Ev.congr (fun k => ?_) (Ev.now _)
    rw [if_pos (by omega)]
  · rw [if_neg h4, wrap64_small (by omega) (by omega)]
    have e : s.extract 0 ((s.size : Int) - 4).toNat = ofL ((toL s).take ((toL s).length - 4)) := by
      rw [show ((s.size : Int) - 4).toNat = (toL s).length - 4 by omega]
      exact toL_inj (by rw [toL_extract, toL_ofL]; simp)
    have hp := ev_put (ofL ((toL s).take ((toL s).length - 4))) (by rw [size_ofL, List.length_take]; omega)
    rw [toL_ofL] at hp
    refine Ev.congr (f := fun k => (crc_Put.f k (ofL ((toL s).take ((toL s).length - 4)))).bind fun t109 => (if t109.toList = s.toList then (some (ofL ((toL s).take ((toL s).length - 4)), 0)) else (some ((⟨#[]⟩ : ByteArray), 4)))) (fun k => ?_) (Ev.bind hp (Ev.congr (fun k => ?_) (Ev.now _)))
    · rw [if_neg (by omega), if_pos (by omega), if_pos (by omega), e]
    · rw [toList_ofL, toList_eq]
      split <;> rfl
theorem take_put (l : List UInt8) : take (put l) = (l, 0) := by
  unfold take
  rw [if_neg (by rw [put_length]; omega), put_length, Nat.add_sub_cancel, show (put l).take l.length = l by simp [put], if_pos rfl]
theorem put_take (l : List UInt8) (h : (take l).2 = 0) : put (take l).1 = l := by
  unfold take at h ⊢
  split at h
  · simp at h
  · rename_i h4
    rw [if_neg h4]
    split at h
    · rename_i h5
      rw [if_pos h5]
      exact h5
    · simp at h
theorem awake_true : Ev (fun k => silolaw02_awake.f k) true := by
  unfold silolaw02_awake.f
  have h1 := ev_take ⟨#[0, 0, 0, 1]⟩ (by decide)
  have h2 := ev_sum [(⟨#[49, 50, 51, 52]⟩ : ByteArray), (⟨#[53, 54, 55, 56, 57]⟩ : ByteArray)] (by decide) (by decide)
  have h3 := ev_put ⟨#[]⟩ (by decide)
  rw [show ((crc ([(⟨#[49, 50, 51, 52]⟩ : ByteArray), (⟨#[53, 54, 55, 56, 57]⟩ : ByteArray)].flatMap toL)).toNat : Int) = 3808858755 by decide +kernel] at h2
  rw [show ofL (put (toL ⟨#[]⟩)) = ofL [0, 0, 0, 0] by decide +kernel] at h3
  have h4 : take (toL ⟨#[0, 0, 0, 1]⟩) = ([], 4) := by decide +kernel
  rw [h4] at h1
  refine Ev.bind h1 (Ev.bind h2 ?_)
  simp only [if_true]
  refine Ev.bind h3 (Ev.congr (fun k => ?_) (Ev.now _))
  rw [toList_ofL, if_pos rfl]
  rfl
end Go.Proofs.Ytlgkmigdgjjoeaa.CrcEv
