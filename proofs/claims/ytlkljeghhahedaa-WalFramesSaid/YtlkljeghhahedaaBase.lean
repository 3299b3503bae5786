/- Small plain facts: strings as lists of bytes, words of 32 bits as numbers. -/
import Derived.Test.YtlkljeghhahedaaWMore
import Derived.Laws.BitsLemmas
import Derived.Laws.Entries
import Derived.Laws.Strings
import Derived.Lib.Strings
import Derived.RowKit
namespace Go.Proofs.Ytlkljeghhahedaa.Base
open Go Go.RowKit Go.Proofs.YtlkljeghhahedaaW.PrintWords

abbrev toL (s : ByteArray) : List UInt8 := s.data.toList
abbrev ofL (l : List UInt8) : ByteArray := ⟨l.toArray⟩
theorem size_eq (s : ByteArray) : s.size = (toL s).length := by rw [Array.length_toList]; rfl
theorem toL_ofL (l : List UInt8) : toL (ofL l) = l := rfl
theorem ofL_toL (s : ByteArray) : ofL (toL s) = s := rfl
theorem toL_inj {s t : ByteArray} (h : toL s = toL t) : s = t := by rw [← ofL_toL s, h, ofL_toL]
theorem toList_eq (s : ByteArray) : s.toList = toL s := ByteArray.toList_eq s
theorem toList_ofL (l : List UInt8) : (ofL l).toList = l := by rw [toList_eq]
theorem append_ofL (a b : List UInt8) : ofL a ++ ofL b = ofL (a ++ b) := toL_inj (by simp)
theorem toL_append (a b : ByteArray) : toL (a ++ b) = toL a ++ toL b := by simp
theorem toL_extract (s : ByteArray) (a b : Nat) : toL (s.extract a b) = ((toL s).drop a).take (b - a) := Lib.extract_data s a b
theorem extract_ofL (l : List UInt8) (a b : Nat) : (ofL l).extract a b = ofL ((l.drop a).take (b - a)) := toL_inj (Lib.extract_data _ a b)
theorem size_ofL (l : List UInt8) : (ofL l).size = l.length := size_eq _
theorem extract_drop (s : ByteArray) (n : Nat) : s.extract n s.size = ofL ((toL s).drop n) := by
  apply toL_inj
  have h := toL_extract s n s.size
  have h2 : ((toL s).drop n).length ≤ s.size - n := by rw [List.length_drop, ← size_eq]; exact Nat.le_refl _
  rw [List.take_of_length_le h2] at h
  exact h
theorem extract_take (s : ByteArray) (n : Nat) : s.extract 0 n = ofL ((toL s).take n) := by
  apply toL_inj
  have h := toL_extract s 0 n
  rw [List.drop_zero, Nat.sub_zero] at h
  exact h
theorem bt_ofL (l : List UInt8) (i : Nat) : bt (ofL l) (i : Int) = ((l.getD i 0).toNat : Int) := by
  unfold bt
  by_cases h : i < l.length
  · rw [dif_pos (by rw [size_ofL]; simpa using h)]
    simp only [Int.toNat_natCast]
    rw [List.getD_eq_getElem?_getD, List.getElem?_eq_getElem h]
    rfl
  · rw [dif_neg (by rw [size_ofL]; simpa using h)]
    rw [List.getD_eq_getElem?_getD, List.getElem?_eq_none (by omega)]
    rfl
theorem bt_eq (s : ByteArray) (i : Nat) : bt s (i : Int) = (((toL s).getD i 0).toNat : Int) := bt_ofL (toL s) i
theorem strOfNums_eq (l : List Int) : strOfNums l = ofL (l.map fun n => UInt8.ofNat n.toNat) := rfl
theorem wrap64_small {x : Int} (h0 : -9223372036854775808 ≤ x) (h1 : x < 9223372036854775808) : wrap64 x = x := by unfold wrap64; omega

/-! words of 32 bits -/
theorem ofInt_nat (n : Nat) (x : Nat) : BitVec.ofInt n (x : Int) = BitVec.ofNat n x := by simp [BitVec.ofInt_natCast]
theorem wrap_u32 (x : BitVec 32) : IntKind.u32.wrap (x.toNat : Int) = (x.toNat : Int) := by
  rw [IntKind.wrap_u32]; have := x.isLt; omega
theorem ofInt_bv (x : BitVec 32) : BitVec.ofInt 32 (x.toNat : Int) = x := by rw [ofInt_nat]; simp
theorem bits_xor32 (x y : BitVec 32) : Go.bits .xor .u32 (x.toNat : Int) (y.toNat : Int) = ((x ^^^ y).toNat : Int) := by
  unfold Go.bits
  show IntKind.u32.wrap (((BitVec.ofInt 32 (x.toNat : Int)) ^^^ (BitVec.ofInt 32 (y.toNat : Int))).toNat : Int) = _
  rw [ofInt_bv, ofInt_bv, wrap_u32]
theorem bits_and32 (x y : BitVec 32) : Go.bits .and .u32 (x.toNat : Int) (y.toNat : Int) = ((x &&& y).toNat : Int) := by
  unfold Go.bits
  show IntKind.u32.wrap (((BitVec.ofInt 32 (x.toNat : Int)) &&& (BitVec.ofInt 32 (y.toNat : Int))).toNat : Int) = _
  rw [ofInt_bv, ofInt_bv, wrap_u32]
theorem bits_or32 (x y : BitVec 32) : Go.bits .or .u32 (x.toNat : Int) (y.toNat : Int) = ((x ||| y).toNat : Int) := by
  unfold Go.bits
  show IntKind.u32.wrap (((BitVec.ofInt 32 (x.toNat : Int)) ||| (BitVec.ofInt 32 (y.toNat : Int))).toNat : Int) = _
  rw [ofInt_bv, ofInt_bv, wrap_u32]
theorem half32 (x : BitVec 32) : (x.toNat : Int) / (2 : Int) = ((x >>> 1).toNat : Int) := by
  rw [BitVec.toNat_ushiftRight, Nat.shiftRight_eq_div_pow]; omega
theorem neg32 (x : BitVec 32) : (-(x.toNat : Int)) % 4294967296 = ((-x).toNat : Int) := by
  rw [BitVec.toNat_neg]; have := x.isLt; omega
theorem num32 (n : Nat) (h : n < 4294967296) : (n : Int) = ((BitVec.ofNat 32 n).toNat : Int) := by
  rw [BitVec.toNat_ofNat, Nat.mod_eq_of_lt h]
end Go.Proofs.Ytlkljeghhahedaa.Base
