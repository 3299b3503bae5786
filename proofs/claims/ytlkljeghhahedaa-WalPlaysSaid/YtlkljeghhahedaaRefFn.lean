/- The reference's register of bits, as lists: it comes to the sum CRC-32C. -/
import Derived.Test.YtlkljeghhahedaaCrcFn
namespace Go.Proofs.Ytlkljeghhahedaa.RefFn
open Go Go.Proofs.Ytlkljeghhahedaa.CrcFn

/-- From 0 on, so many times. -/
def it {σ : Type} (f : Nat → σ → σ) : Nat → σ → σ
  | 0, s => s
  | k + 1, s => f k (it f k s)
def ones (k : Nat) : List Bool := it (fun i l => l.set i true) k (List.replicate 32 false)
theorem ones_length (k : Nat) : (ones k).length = 32 := by
  induction k with
  | zero => rfl
  | succ k ih => simpa [ones, it] using ih

def shifted (k : Nat) (l : List Bool) : List Bool := it (fun j l => l.set j (l.getD (j + 1) false)) k l
def polyBit (j : Nat) : Bool := decide (2197175160 / 2 ^ j % 2 = 1)
def turned (k : Nat) (l : List Bool) : List Bool := it (fun j l => if polyBit j then l.set j (!l.getD j false) else l) k l
def bitOf (c : UInt8) (k : Nat) : Bool := decide (c.toNat / 2 ^ k % 2 = 1)
def refBit (c : UInt8) (k : Nat) (l : List Bool) : List Bool :=
  if (l.getD 0 false != bitOf c k) then turned 32 ((shifted 31 l).set 31 false) else (shifted 31 l).set 31 false
def refByte (c : UInt8) (l : List Bool) : List Bool := it (refBit c) 8 l
def refRun (l : List UInt8) (k : Nat) : List Bool := it (fun i r => refByte (l.getD i 0) r) k (ones 32)
theorem it_length {f : Nat → List Bool → List Bool} (hf : ∀ i l, (f i l).length = l.length) (k : Nat) (l : List Bool) : (it f k l).length = l.length := by
  induction k with
  | zero => rfl
  | succ k ih => rw [it, hf, ih]
theorem shifted_length (k : Nat) (l : List Bool) : (shifted k l).length = l.length := it_length (fun i l => by simp) k l
theorem turned_length (k : Nat) (l : List Bool) : (turned k l).length = l.length := it_length (fun i l => by split <;> simp) k l
theorem refBit_length (c : UInt8) (k : Nat) (l : List Bool) : (refBit c k l).length = l.length := by unfold refBit; split <;> simp [turned_length, shifted_length]
theorem refByte_length (c : UInt8) (l : List Bool) : (refByte c l).length = l.length := it_length (fun i l => refBit_length c i l) 8 l
theorem refRun_length (l : List UInt8) (k : Nat) : (refRun l k).length = 32 := by
  unfold refRun
  rw [it_length (fun i l => refByte_length _ l), ones_length]

/-- The register's bits, turned, the highest first: so many of them. -/
def refVal : Nat → List Bool → Nat
  | 0, _ => 0
  | k + 1, reg => 2 * refVal k reg + (if reg.getD (31 - k) false then 0 else 1)
theorem refVal_lt (k : Nat) (reg : List Bool) : refVal k reg < 2 ^ k := by
  induction k with
  | zero => simp [refVal]
  | succ k ih => rw [refVal, Nat.pow_succ]; split <;> omega


/-! what it comes to -/
def bitsOf (x : BitVec 32) : List Bool := (List.range 32).map x.getLsbD
theorem bitsOf_getD (x : BitVec 32) (i : Nat) (hi : i < 32) : (bitsOf x).getD i false = x.getLsbD i := by
  simp [bitsOf, List.getD_eq_getElem?_getD, hi]
theorem ext32 {a b : List Bool} (ha : a.length = 32) (hb : b.length = 32) (h : ∀ i, i < 32 → a.getD i false = b.getD i false) : a = b := by
  apply List.ext_getElem (by omega)
  intro i h1 h2
  have := h i (by omega)
  simpa [List.getD_eq_getElem?_getD, List.getElem?_eq_getElem h1, List.getElem?_eq_getElem h2] using this
theorem bitsOf_length (x : BitVec 32) : (bitsOf x).length = 32 := by simp [bitsOf]
theorem set_getD (l : List Bool) (i j : Nat) (b : Bool) (hi : i < l.length) : (l.set i b).getD j false = if j = i then b else l.getD j false := by
  rw [List.getD_eq_getElem?_getD, List.getElem?_set]
  by_cases h : i = j
  · subst h; simp [hi]
  · rw [if_neg h, if_neg (Ne.symm h), List.getD_eq_getElem?_getD]
theorem shifted_getD (k : Nat) (l : List Bool) (hk : k < l.length) (i : Nat) : (shifted k l).getD i false = if i < k then l.getD (i + 1) false else l.getD i false := by
  induction k with
  | zero => rfl
  | succ k ih =>
    have h1 : shifted (k + 1) l = (shifted k l).set k ((shifted k l).getD (k + 1) false) := rfl
    rw [h1, set_getD _ _ _ _ (by rw [shifted_length]; omega)]
    by_cases hi : i = k
    · subst hi
      rw [if_pos rfl, if_pos (by omega)]
      have := shifted_getD_ge i l (i + 1) (by omega)
      exact this
    · rw [if_neg hi, ih (by omega)]
      by_cases h : i < k
      · rw [if_pos h, if_pos (by omega)]
      · rw [if_neg h, if_neg (by omega)]
where
  shifted_getD_ge (k : Nat) (l : List Bool) (j : Nat) (hj : k ≤ j) : (shifted k l).getD j false = l.getD j false := by
    induction k with
    | zero => rfl
    | succ k ih =>
      have h1 : shifted (k + 1) l = (shifted k l).set k ((shifted k l).getD (k + 1) false) := rfl
      rw [h1, List.getD_eq_getElem?_getD, List.getElem?_set_ne (by omega), ← List.getD_eq_getElem?_getD]
      exact ih (by omega)
theorem turned_getD (k : Nat) (l : List Bool) (hk : k ≤ l.length) (i : Nat) : (turned k l).getD i false = if i < k ∧ polyBit i = true then !l.getD i false else l.getD i false := by
  induction k with
  | zero => rw [if_neg (by omega)]; rfl
  | succ k ih =>
    have h1 : turned (k + 1) l = if polyBit k then (turned k l).set k (!(turned k l).getD k false) else turned k l := rfl
    rw [h1]
    by_cases hp : polyBit k = true
    · rw [if_pos hp, set_getD _ _ _ _ (by rw [turned_length]; omega)]
      by_cases hi : i = k
      · subst hi
        rw [if_pos rfl, if_pos ⟨by omega, hp⟩, ih (by omega), if_neg (by omega)]
      · rw [if_neg hi, ih (by omega)]
        by_cases h : i < k ∧ polyBit i = true
        · rw [if_pos h, if_pos ⟨by omega, h.2⟩]
        · rw [if_neg h, if_neg (fun h2 => h ⟨by omega, h2.2⟩)]
    · rw [if_neg hp, ih (by omega)]
      by_cases h : i < k ∧ polyBit i = true
      · rw [if_pos h, if_pos ⟨by omega, h.2⟩]
      · rw [if_neg h, if_neg (fun h2 => h ⟨by
          have : i ≠ k := fun e => hp (e ▸ h2.2)
          omega, h2.2⟩)]
theorem polyBit_eq (i : Nat) (hi : i < 32) : polyBit i = poly.getLsbD i := by
  have h : ∀ i : Fin 32, polyBit i.val = poly.getLsbD i.val := by decide +kernel
  exact h ⟨i, hi⟩
/-- One bit of the text. -/
def bitStep (y : BitVec 32) (b : Bool) : BitVec 32 := (y >>> 1) ^^^ (if (y.getLsbD 0 != b) then poly else 0#32)
theorem refBit_bits (c : UInt8) (k : Nat) (y : BitVec 32) : refBit c k (bitsOf y) = bitsOf (bitStep y (bitOf c k)) := by
  unfold refBit bitStep
  rw [bitsOf_getD y 0 (by omega)]
  have hs : ∀ i, i < 32 → ((shifted 31 (bitsOf y)).set 31 false).getD i false = (y >>> 1).getLsbD i := by
    intro i hi
    rw [set_getD _ _ _ _ (by rw [shifted_length, bitsOf_length]; omega), BitVec.getLsbD_ushiftRight]
    by_cases h : i = 31
    · subst h; simp
    · rw [if_neg h, shifted_getD _ _ (by rw [bitsOf_length]; omega), if_pos (by omega), bitsOf_getD _ _ (by omega), Nat.add_comm]
  by_cases ho : (y.getLsbD 0 != bitOf c k) = true
  · rw [if_pos ho, if_pos ho]
    refine ext32 (by rw [turned_length, List.length_set, shifted_length, bitsOf_length]) (bitsOf_length _) (fun i hi => ?_)
    rw [turned_getD _ _ (by rw [List.length_set, shifted_length, bitsOf_length]; omega), bitsOf_getD _ _ hi, BitVec.getLsbD_xor, hs i hi, polyBit_eq i hi]
    cases poly.getLsbD i <;> simp [hi]
  · rw [if_neg ho, if_neg ho]
    refine ext32 (by rw [List.length_set, shifted_length, bitsOf_length]) (bitsOf_length _) (fun i hi => ?_)
    rw [bitsOf_getD _ _ hi, hs i hi]
    simp
theorem bitOf_eq (c : UInt8) (k : Nat) : bitOf c k = (BitVec.ofNat 32 c.toNat >>> k).getLsbD 0 := by
  rw [BitVec.getLsbD_ushiftRight, BitVec.getLsbD_ofNat, Nat.add_zero, Nat.testBit_eq_decide_div_mod_eq]
  unfold bitOf
  by_cases h : k < 32
  · simp [h]
  · have : c.toNat / 2 ^ k = 0 := Nat.div_eq_of_lt (Nat.lt_of_lt_of_le c.toNat_lt (Nat.pow_le_pow_right (n := 2) (by omega) (show 8 ≤ k by omega)))
    simp [this]
theorem steps_bits (c : UInt8) (k : Nat) (x : BitVec 32) : steps k (x ^^^ BitVec.ofNat 32 c.toNat) = it (fun i y => bitStep y (bitOf c i)) k x ^^^ (BitVec.ofNat 32 c.toNat >>> k) := by
  induction k with
  | zero => simp [steps, it]
  | succ k ih =>
    rw [steps_succ', ih]
    show _ = bitStep _ _ ^^^ _
    generalize it (fun i y => bitStep y (bitOf c i)) k x = y
    unfold crcStep bitStep
    rw [BitVec.ushiftRight_xor_distrib, BitVec.getLsbD_xor, bitOf_eq, ← BitVec.shiftRight_add]
    rw [show ((y.getLsbD 0) ^^ ((BitVec.ofNat 32 c.toNat >>> k).getLsbD 0)) = (y.getLsbD 0 != (BitVec.ofNat 32 c.toNat >>> k).getLsbD 0) by cases y.getLsbD 0 <;> cases (BitVec.ofNat 32 c.toNat >>> k).getLsbD 0 <;> rfl]
    rw [BitVec.xor_assoc, BitVec.xor_assoc]
    congr 1
    exact BitVec.xor_comm _ _
theorem refByte_bits (c : UInt8) (x : BitVec 32) : refByte c (bitsOf x) = bitsOf (byteStep x c) := by
  have h : ∀ k, it (refBit c) k (bitsOf x) = bitsOf (it (fun i y => bitStep y (bitOf c i)) k x) := by
    intro k
    induction k with
    | zero => rfl
    | succ k ih =>
      show refBit c k (it (refBit c) k (bitsOf x)) = _
      rw [ih, refBit_bits]
      rfl
  unfold refByte byteStep
  rw [h, steps_bits]
  congr 1
  have : BitVec.ofNat 32 c.toNat >>> 8 = 0#32 := by
    apply BitVec.eq_of_toNat_eq
    rw [BitVec.toNat_ushiftRight, Nat.shiftRight_eq_div_pow, BitVec.toNat_ofNat]
    have := c.toNat_lt
    simp
    omega
  rw [this, BitVec.xor_zero]
theorem ones_eq : ones 32 = bitsOf (BitVec.allOnes 32) := by decide +kernel
theorem refRun_bits (l : List UInt8) (k : Nat) (hk : k ≤ l.length) : refRun l k = bitsOf (run (BitVec.allOnes 32) (l.take k)) := by
  induction k with
  | zero => rw [List.take_zero]; exact ones_eq
  | succ k ih =>
    have hlt : k < l.length := by omega
    have hs : refRun l (k + 1) = refByte (l.getD k 0) (refRun l k) := by simp only [refRun, it]
    rw [hs, ih (by omega), refByte_bits, List.take_succ_eq_append_getElem hlt, run_snoc, List.getD_eq_getElem?_getD, List.getElem?_eq_getElem hlt, Option.getD_some]
theorem refVal_bits (x : BitVec 32) (k : Nat) (hk : k ≤ 32) : refVal k (bitsOf x) = (~~~ x).toNat / 2 ^ (32 - k) := by
  induction k with
  | zero => rw [refVal, Nat.div_eq_of_lt (~~~ x).isLt]
  | succ k ih =>
    rw [refVal, ih (by omega), bitsOf_getD _ _ (by omega)]
    have h1 : (2 : Nat) ^ (32 - k) = 2 ^ (32 - (k + 1)) * 2 := by rw [← Nat.pow_succ]; congr 1; omega
    rw [h1, ← Nat.div_div_eq_div_mul]
    have h2 : (~~~ x).getLsbD (31 - k) = !x.getLsbD (31 - k) := by rw [BitVec.getLsbD_not]; simp; omega
    have h3 : (~~~ x).getLsbD (31 - k) = decide ((~~~ x).toNat / 2 ^ (32 - (k + 1)) % 2 = 1) := by
      rw [BitVec.getLsbD, Nat.testBit_eq_decide_div_mod_eq, show 31 - k = 32 - (k + 1) by omega]
    rw [h2] at h3
    generalize (~~~ x).toNat / 2 ^ (32 - (k + 1)) = q at h3 ⊢
    cases hx : x.getLsbD (31 - k) with
    | true => rw [hx] at h3; simp at h3; simp; omega
    | false => rw [hx] at h3; simp at h3; simp; omega
/-- The reference's sum is the sum. -/
theorem refSum_eq (l : List UInt8) : refVal 32 (refRun l l.length) = (crc l).toNat := by
  rw [refRun_bits l _ (Nat.le_refl _), List.take_length, refVal_bits _ _ (Nat.le_refl _)]
  simp [crc]
end Go.Proofs.Ytlkljeghhahedaa.RefFn
