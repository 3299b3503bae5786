/- The order of texts: one of two that differ stands ahead. -/
import Derived.Test.YtfjnjnkmkbbjoaaBlkFn
namespace Go.Proofs.Ytfjnjnkmkbbjoaa.Blk
open Go Go.Proofs.Ytfjnjnkmkbbjoaa.Eng Go.Proofs.Ytfjnjnkmkbbjoaa.Six
theorem less_irrefl : ∀ a : List UInt8, Op.bytesLess a a = false := by
  intro a
  induction a with
  | nil => rfl
  | cons x a ih => simp [Op.bytesLess, ih]
theorem less_tri : ∀ a b : List UInt8, (!Op.bytesLess a b) = (Op.bytesLess b a || decide (a = b)) := by
  intro a
  induction a with
  | nil => intro b; cases b <;> simp [Op.bytesLess]
  | cons x a ih =>
    intro b
    cases b with
    | nil => simp [Op.bytesLess]
    | cons y b =>
      have h := ih b
      simp only [Op.bytesLess]
      by_cases hxy : x = y
      · subst hxy
        simp [h]
      · have hn : x.toNat ≠ y.toNat := fun e => hxy (UInt8.toNat_inj.1 e)
        rcases Nat.lt_or_gt_of_ne hn with hlt | hgt
        · have h1 : x < y := UInt8.lt_iff_toNat_lt.2 hlt
          have h2 : ¬ y < x := fun h => by have := UInt8.lt_iff_toNat_lt.1 h; omega
          have h3 : ¬ y = x := fun e => hxy e.symm
          simp [h1, h2, hxy, h3]
        · have h1 : y < x := UInt8.lt_iff_toNat_lt.2 hgt
          have h2 : ¬ x < y := fun h => by have := UInt8.lt_iff_toNat_lt.1 h; omega
          have h3 : ¬ y = x := fun e => hxy e.symm
          simp [h1, h2, hxy, h3]
/-- What isn't below stands above or is the same. -/
theorem sLt_tri (a b : List UInt8) : (!sLt (ofL a) (ofL b)) = (sLt (ofL b) (ofL a) || decide (ofL b = ofL a)) := by
  unfold sLt
  rw [ByteArray.toList_eq, ByteArray.toList_eq]
  have h := less_tri a b
  have e : decide (ofL b = ofL a) = decide (a = b) := decide_eq_decide.2 ⟨fun h => by have h2 := congrArg toL h; simpa [Eng.toL_ofL] using h2.symm, fun h => by rw [h]⟩
  rw [e]
  exact h
end Go.Proofs.Ytfjnjnkmkbbjoaa.Blk
