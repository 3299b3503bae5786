/- A byte that is another one is told by the sum: plain. -/
import Derived.Test.YtiipibmliffghaaBoxDisk
namespace Go.Proofs.Ytiipibmliffghaa.Box
open Go Go.Proofs.Ytiipibmliffghaa.Eng Go.Proofs.Ytiipibmliffghaa.Six Go.Proofs.Ytiipibmliffghaa.CrcFn
set_option linter.unusedVariables false
theorem steps_inj {n : Nat} {x y : BitVec 32} (h : steps n x = steps n y) : x = y := by
  have h1 : steps n (x ^^^ y) = 0#32 := by rw [steps_xor, h, BitVec.xor_self]
  have h2 := steps_zero n h1
  have h3 : (x ^^^ y) ^^^ y = y := by rw [h2]; simp
  rwa [BitVec.xor_assoc, BitVec.xor_self, BitVec.xor_zero] at h3
theorem byteStep_left {x y : BitVec 32} {c : UInt8} (h : byteStep x c = byteStep y c) : x = y := by
  unfold byteStep at h
  have := steps_inj h
  have h3 : (x ^^^ BitVec.ofNat 32 c.toNat) ^^^ BitVec.ofNat 32 c.toNat = (y ^^^ BitVec.ofNat 32 c.toNat) ^^^ BitVec.ofNat 32 c.toNat := by rw [this]
  rwa [BitVec.xor_assoc, BitVec.xor_assoc, BitVec.xor_self, BitVec.xor_zero, BitVec.xor_zero] at h3
theorem byteStep_right {x : BitVec 32} {c d : UInt8} (h : byteStep x c = byteStep x d) : c = d := by
  unfold byteStep at h
  have h1 := steps_inj h
  have h2 : x ^^^ (x ^^^ BitVec.ofNat 32 c.toNat) = x ^^^ (x ^^^ BitVec.ofNat 32 d.toNat) := by rw [h1]
  rw [← BitVec.xor_assoc, ← BitVec.xor_assoc, BitVec.xor_self, BitVec.zero_xor, BitVec.zero_xor] at h2
  have h3 := congrArg BitVec.toNat h2
  rw [BitVec.toNat_ofNat, BitVec.toNat_ofNat] at h3
  have := c.toNat_lt
  have := d.toNat_lt
  exact UInt8.toNat_inj.1 (by omega)
theorem run_left : ∀ {b : List UInt8} {x y : BitVec 32}, CrcFn.run x b = CrcFn.run y b → x = y
  | [], x, y, h => h
  | c :: b, x, y, h => byteStep_left (run_left (b := b) h)
theorem crc_ne {a b : List UInt8} {c d : UInt8} (h : c ≠ d) : crc (a ++ c :: b) ≠ crc (a ++ d :: b) := by
  intro e
  unfold crc at e
  have e1 : CrcFn.run (BitVec.allOnes 32) (a ++ c :: b) = CrcFn.run (BitVec.allOnes 32) (a ++ d :: b) := by
    have := congrArg (fun x => ~~~ x) e
    simpa using this
  rw [run_append, run_append] at e1
  have e2 : CrcFn.run (byteStep (CrcFn.run (BitVec.allOnes 32) a) c) b = CrcFn.run (byteStep (CrcFn.run (BitVec.allOnes 32) a) d) b := e1
  exact h (byteStep_right (run_left e2))
theorem four_inj {x y : BitVec 32} (h : four x = four y) : x = y := by
  unfold four fourN at h
  simp only [List.cons.injEq, and_true] at h
  obtain ⟨h1, h2, h3, h4⟩ := h
  have hx := x.isLt
  have hy := y.isLt
  have k1 := congrArg UInt8.toNat h1
  have k2 := congrArg UInt8.toNat h2
  have k3 := congrArg UInt8.toNat h3
  have k4 := congrArg UInt8.toNat h4
  simp only [UInt8.toNat_ofNat'] at k1 k2 k3 k4
  exact BitVec.eq_of_toNat_eq (by omega)
theorem xor_ne {c b : UInt8} (h : b ≠ 0) : c ^^^ b ≠ c := by
  intro e
  apply h
  have : c ^^^ (c ^^^ b) = c ^^^ c := by rw [e]
  rwa [← UInt8.xor_assoc, UInt8.xor_self, UInt8.zero_xor] at this
theorem put_set_ne {l : List UInt8} {i : Nat} {v : UInt8} (hi : i < (put l).length) (hv : v ≠ (put l)[i]) : Crc.take ((put l).set i v) = ([], 4) := by
  have hpl : (put l).length = l.length + 4 := by unfold put; rw [List.length_append, four_length]
  have hsl : ((put l).set i v).length = l.length + 4 := by rw [List.length_set, hpl]
  unfold Crc.take
  rw [if_neg (by omega), if_neg, ]
  rw [hsl, Nat.add_sub_cancel]
  intro e
  by_cases h : i < l.length
  · have e1 : (put l).set i v = l.set i v ++ four (crc l) := by unfold put; rw [List.set_append_left _ _ h]
    have hl2 : (l.set i v).length = l.length := List.length_set ..
    rw [e1, List.take_left' hl2] at e
    unfold put at e
    have e2 := four_inj (List.append_cancel_left e)
    have h3 : (put l)[i] = l[i] := List.getElem_append_left (bs := four (crc l)) h
    rw [h3] at hv
    have es : l.set i v = l.take i ++ v :: l.drop (i + 1) := by rw [List.set_eq_take_append_cons_drop, if_pos h]
    have el : l = l.take i ++ l[i] :: l.drop (i + 1) := by rw [← List.drop_eq_getElem_cons h, List.take_append_drop]
    rw [es] at e2
    exact crc_ne hv (e2.trans (congrArg crc el))
  · have e1 : (put l).set i v = l ++ (four (crc l)).set (i - l.length) v := by unfold put; rw [List.set_append_right _ _ (by omega)]
    rw [e1, List.take_left] at e
    unfold put at e
    have e2 := List.append_cancel_left e
    have h4 : i - l.length < (four (crc l)).length := by rw [four_length]; omega
    have e3 : (four (crc l))[i - l.length] = v := by
      have := congrArg (fun q => q[i - l.length]?) e2
      simp only [List.getElem?_eq_getElem h4, List.getElem?_set_self h4] at this
      exact Option.some.inj this
    apply hv
    rw [← e3]
    have h9 : ∀ h : i < (l ++ four (crc l)).length, (l ++ four (crc l))[i] = (four (crc l))[i - l.length] := fun h => List.getElem_append_right (by omega)
    exact (h9 hi).symm
theorem flip_take {l : List UInt8} {i : Nat} {b : UInt8} (hb : b ≠ 0) (hi : i < (put l).length) : Crc.take ((put l).set i ((put l)[i] ^^^ b)) = ([], 4) := put_set_ne hi (xor_ne hb)
end Go.Proofs.Ytiipibmliffghaa.Box
