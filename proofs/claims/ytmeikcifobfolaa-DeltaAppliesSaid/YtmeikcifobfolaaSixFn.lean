/- Plain facts on six: how numbers and texts are read off lists of bytes. -/
import Derived.Test.YtmeikcifobfolaaBase
namespace Go.Proofs.Ytmeikcifobfolaa.SixFn
open Go Go.RowKit

/-- What stands here: the error (0: none), the number, is it below 0, how many bytes. -/
structure Num where
  e : Int
  n : Nat
  below : Bool
  size : Nat
def num (x i : Nat) : List UInt8 → Num
  | [] => ⟨2, 0, false, 0⟩
  | c :: r => if 192 ≤ c.toNat ∨ 144115188075855871 < x ∨ (i = 0 ∧ c.toNat = 0) then ⟨3, 0, false, 0⟩
    else if 64 ≤ c.toNat then ⟨0, 64 * x + c.toNat % 64, decide (127 < c.toNat), i + 1⟩
    else num (64 * x + c.toNat % 64) (i + 1) r
/-- Any number: it, how many bytes, the error. -/
def whole (l : List UInt8) : Int × Nat × Int :=
  if (num 0 0 l).e = 0 then (if (num 0 0 l).below then -1 - ((num 0 0 l).n : Int) else ((num 0 0 l).n : Int), (num 0 0 l).size, 0) else (0, 0, (num 0 0 l).e)
def count (l : List UInt8) : Int × Nat × Int :=
  if (num 0 0 l).e = 0 then (if (num 0 0 l).below then (0, 0, 3) else (((num 0 0 l).n : Int), (num 0 0 l).size, 0)) else (0, 0, (num 0 0 l).e)
def raw (l : List UInt8) (n : Int) : List UInt8 × Nat × Int :=
  if n < 0 then ([], 0, 1) else if (l.length : Int) < n then ([], 0, 2) else (l.take n.toNat, n.toNat, 0)
def text (l : List UInt8) : List UInt8 × Nat × Int :=
  if (count l).2.2 = 0 then
    (if (raw (l.drop (count l).2.1) (count l).1).2.2 = 0 then ((raw (l.drop (count l).2.1) (count l).1).1, (count l).2.1 + (raw (l.drop (count l).2.1) (count l).1).2.1, 0) else ([], 0, (raw (l.drop (count l).2.1) (count l).1).2.2))
  else ([], 0, (count l).2.2)

theorem num_spec (l : List UInt8) : ∀ (x i : Nat), (num x i l).e = 0 ∨ (((num x i l).e = 2 ∨ (num x i l).e = 3) ∧ (num x i l).n = 0 ∧ (num x i l).below = false ∧ (num x i l).size = 0) := by
  induction l with
  | nil => intro x i; exact .inr ⟨.inl rfl, rfl, rfl, rfl⟩
  | cons c r ih =>
    intro x i
    unfold num
    split
    · exact .inr ⟨.inr rfl, rfl, rfl, rfl⟩
    · split
      · exact .inl rfl
      · exact ih _ _
theorem num_bound (l : List UInt8) : ∀ (x i : Nat), (num x i l).n ≤ 9223372036854775807 := by
  induction l with
  | nil => intro x i; simp [num]
  | cons c r ih =>
    intro x i
    unfold num
    split
    · simp
    · rename_i h
      split
      · have := c.toNat_lt; show 64 * x + c.toNat % 64 ≤ _; omega
      · exact ih _ _
theorem num_size (l : List UInt8) : ∀ (x i : Nat), (num x i l).e = 0 → i + 1 ≤ (num x i l).size ∧ (num x i l).size ≤ i + l.length := by
  induction l with
  | nil => intro x i h; simp [num] at h
  | cons c r ih =>
    intro x i h
    unfold num at h ⊢
    split at h
    · simp at h
    · rename_i h1
      rw [if_neg h1]
      split at h
      · rename_i h2
        rw [if_pos h2]
        exact ⟨Nat.le_refl _, by simp⟩
      · rename_i h2
        rw [if_neg h2]
        have := ih _ _ h
        simp
        omega
theorem whole_size (l : List UInt8) : (whole l).2.1 ≤ l.length := by
  unfold whole
  split
  · rename_i h; have := num_size l 0 0 h; simpa using this.2
  · simp
theorem count_size (l : List UInt8) : (count l).2.1 ≤ l.length := by
  unfold count
  split
  · rename_i h
    split
    · simp
    · have := num_size l 0 0 h; simpa using this.2
  · simp
theorem count_nonneg (l : List UInt8) : 0 ≤ (count l).1 := by
  unfold count
  split
  · split <;> simp
  · simp
theorem raw_size (l : List UInt8) (n : Int) : (raw l n).2.1 ≤ l.length := by
  unfold raw
  split
  · simp
  · split
    · simp
    · simp; omega
theorem text_size (l : List UInt8) : (text l).2.1 ≤ l.length := by
  unfold text
  split
  · split
    · have h1 := count_size l
      have h2 := raw_size (l.drop (count l).2.1) (count l).1
      rw [List.length_drop] at h2
      show (count l).2.1 + (raw (l.drop (count l).2.1) (count l).1).2.1 ≤ _
      omega
    · simp
  · simp
end Go.Proofs.Ytmeikcifobfolaa.SixFn
