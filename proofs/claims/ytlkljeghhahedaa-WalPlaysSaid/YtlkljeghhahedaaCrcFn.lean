/- Plain facts on CRC-32C over lists of bytes: the register's crcStep is linear and loses nothing, so bits turned within 32 in a row are told. -/
import Derived.Laws.BitsLemmas
import Derived.Laws.Entries
import Derived.Laws.Strings
import Derived.Lib.Strings
namespace Go.Proofs.Ytlkljeghhahedaa.CrcFn
open Go

def poly : BitVec 32 := 0x82f63b78#32
def crcStep (x : BitVec 32) : BitVec 32 := (x >>> 1) ^^^ (if x.getLsbD 0 then poly else 0#32)
def steps : Nat → BitVec 32 → BitVec 32
  | 0, x => x
  | n + 1, x => steps n (crcStep x)
def byteStep (x : BitVec 32) (c : UInt8) : BitVec 32 := steps 8 (x ^^^ BitVec.ofNat 32 c.toNat)
def run (x : BitVec 32) (l : List UInt8) : BitVec 32 := l.foldl byteStep x
def crc (l : List UInt8) : BitVec 32 := ~~~ (run (BitVec.allOnes 32) l)
def fourN (n : Nat) : List UInt8 := [UInt8.ofNat (n / 16777216), UInt8.ofNat (n / 65536 % 256), UInt8.ofNat (n / 256 % 256), UInt8.ofNat (n % 256)]
def four (x : BitVec 32) : List UInt8 := fourN x.toNat
def put (l : List UInt8) : List UInt8 := l ++ four (crc l)

theorem four_length (x : BitVec 32) : (four x).length = 4 := rfl
theorem steps_add (m n : Nat) (x : BitVec 32) : steps (m + n) x = steps n (steps m x) := by
  induction m generalizing x with
  | zero => simp [steps]
  | succ m ih => rw [Nat.succ_add]; exact ih _
theorem steps_succ' (n : Nat) (x : BitVec 32) : steps (n + 1) x = crcStep (steps n x) := steps_add n 1 x
theorem run_append (x : BitVec 32) (a b : List UInt8) : run x (a ++ b) = run (run x a) b := List.foldl_append ..
theorem run_snoc (x : BitVec 32) (a : List UInt8) (c : UInt8) : run x (a ++ [c]) = byteStep (run x a) c := by simp [run]

/-! linear -/
theorem step_xor (x y : BitVec 32) : crcStep (x ^^^ y) = crcStep x ^^^ crcStep y := by
  unfold crcStep
  rw [BitVec.ushiftRight_xor_distrib, BitVec.getLsbD_xor]
  have two (a b p : BitVec 32) : (a ^^^ p) ^^^ (b ^^^ p) = a ^^^ b := by
    rw [BitVec.xor_assoc, BitVec.xor_comm b p, ← BitVec.xor_assoc p, BitVec.xor_self, BitVec.zero_xor]
  cases x.getLsbD 0 <;> cases y.getLsbD 0
  · simp
  · simp [BitVec.xor_assoc]
  · simp only [Bool.bne_false, if_true, Bool.false_eq_true, if_false, BitVec.xor_zero]
    rw [BitVec.xor_assoc, BitVec.xor_assoc, BitVec.xor_comm poly]
  · simp only [bne_self_eq_false, Bool.false_eq_true, if_false, if_true, BitVec.xor_zero]
    exact (two _ _ _).symm
theorem steps_xor (n : Nat) (x y : BitVec 32) : steps n (x ^^^ y) = steps n x ^^^ steps n y := by
  induction n generalizing x y with
  | zero => rfl
  | succ n ih => simp only [steps, step_xor, ih]
theorem byteStep_xor (x y : BitVec 32) (c : UInt8) : byteStep (x ^^^ y) c = byteStep x c ^^^ steps 8 y := by
  unfold byteStep
  rw [← steps_xor]
  congr 1
  rw [BitVec.xor_assoc, BitVec.xor_assoc, BitVec.xor_comm y]
/-- Nothing is lost. -/
theorem step_zero {x : BitVec 32} (h : crcStep x = 0#32) : x = 0#32 := by
  unfold crcStep at h
  cases hb : x.getLsbD 0 with
  | true =>
    rw [hb] at h
    have h2 := congrArg (fun z : BitVec 32 => z.getLsbD 31) h
    simp [poly] at h2
  | false =>
    rw [hb] at h
    simp at h
    apply BitVec.eq_of_getLsbD_eq
    intro i hi
    cases i with
    | zero => simpa using hb
    | succ i =>
      have h2 := congrArg (fun z : BitVec 32 => z.getLsbD i) h
      simp at h2
      rw [Nat.add_comm, h2]
      simp
theorem steps_zero (n : Nat) : ∀ {x : BitVec 32}, steps n x = 0#32 → x = 0#32 := by
  induction n with
  | zero => exact fun h => h
  | succ n ih => exact fun h => step_zero (ih h)
theorem steps_zero0 (n : Nat) : steps n 0#32 = 0#32 := by
  induction n with
  | zero => rfl
  | succ n ih => simpa [steps, crcStep] using ih
end Go.Proofs.Ytlkljeghhahedaa.CrcFn
