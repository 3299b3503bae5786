/- What the taking of a turned row tells. -/
import Derived.Test.YtlgkmigdgjjoeaaBursts
import Derived.Test.YtlgkmigdgjjoeaaCrcBase
namespace Go.Proofs.Ytlgkmigdgjjoeaa.Bursts
open Go Go.Proofs.Ytlgkmigdgjjoeaa.CrcFn Go.Proofs.Ytlgkmigdgjjoeaa.Crc

theorem take_of (a b : List UInt8) (hb : b.length = 4) : (take (a ++ b)).2 = if b = four (crc a) then 0 else 4 := by
  unfold take
  have e : (a ++ b).take ((a ++ b).length - 4) = a := by rw [List.length_append, hb, Nat.add_sub_cancel]; simp
  rw [if_neg (by rw [List.length_append]; omega), e]
  unfold put
  by_cases h : b = four (crc a)
  · rw [if_pos h, if_pos (by rw [h])]
  · rw [if_neg h, if_neg (fun e2 => h (List.append_cancel_left e2).symm)]
theorem fourN_inj {x y : Nat} (hx : x < 4294967296) (hy : y < 4294967296) (h : fourN x = fourN y) : x = y := by
  unfold fourN at h
  simp only [List.cons.injEq, and_true] at h
  obtain ⟨h1, h2, h3, h4⟩ := h
  have f : ∀ {p q : Nat}, p < 256 → q < 256 → UInt8.ofNat p = UInt8.ofNat q → p = q := by
    intro p q hp hq e
    have := congrArg UInt8.toNat e
    rw [UInt8.toNat_ofNat', UInt8.toNat_ofNat'] at this
    omega
  have := f (by omega) (by omega) h1
  have := f (by omega) (by omega) h2
  have := f (by omega) (by omega) h3
  have := f (by omega) (by omega) h4
  omega
theorem told (m s : Nat) (l : List UInt8) (K : Nat) (h32 : K ≤ 32) (hK : s + K ≤ 8 * l.length ∨ (8 * l.length ≤ s ∧ s + K ≤ 8 * (l.length + 4))) :
    (take (turn m s (put l) K).1).2 = if (turn m s (put l) K).2 then 4 else 0 := by
  unfold put
  rcases hK with hK | ⟨h1, h2⟩
  · rw [turn_left m s l _ K hK, take_of _ _ (four_length _)]
    dsimp only
    cases ht : (turn m s l K).2
    · rw [turn_no m s l K ht]; simp
    · rw [if_neg]
      · rfl
      · intro e
        have := fourN_inj (crc l).isLt (crc (turn m s l K).1).isLt e
        exact crc_ne m s l K h32 hK ht (BitVec.eq_of_toNat_eq this.symm)
  · obtain ⟨t, rfl⟩ : ∃ t, s = 8 * l.length + t := ⟨s - 8 * l.length, by omega⟩
    rw [turn_right, take_of _ _ (by rw [turn_length, four_length])]
    dsimp only
    cases ht : (turn m t (four (crc l)) K).2
    · rw [turn_no m t _ K ht]; simp
    · rw [if_neg (turn_ne m t _ K (by rw [four_length]; omega) ht)]
      rfl
end Go.Proofs.Ytlgkmigdgjjoeaa.Bursts
