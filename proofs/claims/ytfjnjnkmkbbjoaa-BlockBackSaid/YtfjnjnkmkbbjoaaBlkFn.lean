/- Blocks, plain: what two texts begin with alike; entries; why they may not be packed. -/
import Derived.Test.YtfjnjnkmkbbjoaaSixFn
import Derived.Test.YtfjnjnkmkbbjoaaMore
namespace Go.Proofs.Ytfjnjnkmkbbjoaa.Blk
open Go Go.Proofs.Ytfjnjnkmkbbjoaa.Eng Go.Proofs.Ytfjnjnkmkbbjoaa.Six
set_option linter.unusedVariables false
def shareN : List UInt8 → List UInt8 → Nat
  | x :: a, y :: b => if x = y then shareN a b + 1 else 0
  | _, _ => 0
theorem share_nil_r (a : List UInt8) : shareN a [] = 0 := by cases a <;> rfl
theorem share_le : ∀ (a b : List UInt8), shareN a b ≤ a.length ∧ shareN a b ≤ b.length
  | [], b => by simp [shareN]
  | x :: a, [] => by simp [shareN]
  | x :: a, y :: b => by
    have := share_le a b
    unfold shareN
    split <;> simp only [List.length_cons] <;> omega
theorem share_take : ∀ (a b : List UInt8), a.take (shareN a b) = b.take (shareN a b)
  | [], b => by simp [shareN]
  | x :: a, [] => by simp [shareN]
  | x :: a, y :: b => by
    unfold shareN
    split
    · rename_i h; rw [List.take_succ_cons, List.take_succ_cons, h, share_take a b]
    · rfl
/-- One step: alike at i, so one more. -/
theorem share_step {a b : List UInt8} {i : Nat} (ha : i < a.length) (hb : i < b.length) (h : a[i] = b[i]) : shareN (a.drop i) (b.drop i) = shareN (a.drop (i + 1)) (b.drop (i + 1)) + 1 := by
  rw [List.drop_eq_getElem_cons ha, List.drop_eq_getElem_cons hb, shareN, if_pos h]
theorem share_stop {a b : List UInt8} {i : Nat} (ha : i < a.length) (hb : i < b.length) (h : ¬ a[i] = b[i]) : shareN (a.drop i) (b.drop i) = 0 := by
  rw [List.drop_eq_getElem_cons ha, List.drop_eq_getElem_cons hb, shareN, if_neg h]
theorem share_end {a b : List UInt8} {i : Nat} (h : a.length ≤ i ∨ b.length ≤ i) : shareN (a.drop i) (b.drop i) = 0 := by
  rcases h with h | h
  · rw [List.drop_of_length_le h]; rfl
  · rw [List.drop_of_length_le h, share_nil_r]
structure Ent where
  key : List UInt8
  val : List UInt8
  gone : Bool
deriving DecidableEq
def entC (x : Ent) : List Value := [.string (ofL x.key), .string (ofL x.val), .bool x.gone]
end Go.Proofs.Ytfjnjnkmkbbjoaa.Blk
