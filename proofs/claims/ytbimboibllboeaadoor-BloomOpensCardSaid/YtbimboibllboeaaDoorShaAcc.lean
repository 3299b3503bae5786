/- A block in the making, byte by byte. Plain. -/
import Derived.Test.YtbimboibllboeaaDoorShaFn
namespace Go.Proofs.YtbimboibllboeaaDoor.Sha
open Go
structure Acc where
  (bb : List UInt8) (n : Nat) (h : St)
def Acc.add (a : Acc) (c : UInt8) : Acc :=
  if a.n + 1 = 64 then ⟨a.bb.set a.n c, 0, mix a.h (a.bb.set a.n c)⟩ else ⟨a.bb.set a.n c, a.n + 1, a.h⟩
structure G (l : List UInt8) (a : Acc) : Prop where
  len : a.bb.length = 64
  n : a.n = l.length % 64
  h : a.h = hs l (l.length / 64)
  b : a.bb.take a.n = l.drop (64 * (l.length / 64))
theorem G.lt {l : List UInt8} {a : Acc} (g : G l a) : a.n < 64 := by rw [g.n]; exact Nat.mod_lt _ (by omega)
theorem g_nil : G [] ⟨List.replicate 64 0, 0, I0⟩ := ⟨List.length_replicate, rfl, rfl, rfl⟩
theorem take_set_one (l : List UInt8) (n : Nat) (c : UInt8) (h : n < l.length) : (l.set n c).take (n + 1) = l.take n ++ [c] := by
  rw [List.take_succ_eq_append_getElem (by rw [List.length_set]; exact h), List.take_set_of_le (by omega), List.getElem_set_self]
theorem G.add {l : List UInt8} {a : Acc} (g : G l a) (c : UInt8) : G (l ++ [c]) (a.add c) := by
  have hlt := g.lt
  obtain ⟨bb, n, h⟩ := a
  obtain ⟨g1, g2, g3, g4⟩ := g
  simp only at g1 g2 g3 g4 hlt
  have hl : (l ++ [c]).length = l.length + 1 := by simp
  have hd : (l ++ [c]).drop (64 * (l.length / 64)) = (bb.set n c).take (n + 1) := by
    rw [take_set_one _ _ _ (by omega), g4, List.drop_append_of_le_length (by omega)]
  unfold Acc.add
  by_cases h64 : n + 1 = 64
  · simp only [if_pos h64]
    have hq : (l ++ [c]).length / 64 = l.length / 64 + 1 := by omega
    refine ⟨by rw [List.length_set]; exact g1, by rw [hl]; show 0 = _; omega, ?_, ?_⟩
    · show mix h (bb.set n c) = _
      rw [hq, hs, hs_append _ _ _ (by omega), hd, ← g3, List.take_take, show min 64 (n + 1) = 64 by omega, List.take_of_length_le (by rw [List.length_set]; omega)]
    · rw [hq, List.drop_eq_nil_of_le (by omega)]; rfl
  · simp only [if_neg h64]
    have hq : (l ++ [c]).length / 64 = l.length / 64 := by omega
    refine ⟨by rw [List.length_set]; exact g1, by rw [hl]; show n + 1 = _; omega, ?_, ?_⟩
    · show h = _
      rw [hq, hs_append _ _ _ (by omega), g3]
    · show (bb.set n c).take (n + 1) = _
      rw [hq, hd]
/-- The byte of the length that is k bits up. -/
theorem len_byte (n k : Nat) (hk : k ≤ 56) : UInt8.ofNat ((BitVec.ofNat 64 n <<< 3) >>> k).toNat = UInt8.ofNat (n * 8 / 2 ^ k) := by
  apply UInt8.toNat_inj.1
  rw [BitVec.toNat_ushiftRight, BitVec.toNat_shiftLeft, BitVec.toNat_ofNat, Nat.shiftLeft_eq, Nat.shiftRight_eq_div_pow, UInt8.toNat_ofNat', UInt8.toNat_ofNat']
  have e : n % 2 ^ 64 * 2 ^ 3 % 2 ^ 64 = n * 8 % 2 ^ 64 := by rw [Nat.mod_mul_mod]
  rw [e]
  obtain ⟨d, hd⟩ : ∃ d, 64 = k + 8 + d := ⟨56 - k, by omega⟩
  have e2 : (2 : Nat) ^ 64 = 2 ^ k * (2 ^ 8 * 2 ^ d) := by rw [← Nat.pow_add, ← Nat.pow_add]; congr 1; omega
  rw [e2, Nat.mod_mul_right_div_self, Nat.mod_mul_right_mod]
/-- Padding, by counts. -/
theorem zeros_next (l : List UInt8) (j : Nat) (h : (l.length + 1 + j) % 64 ≠ 56) (hj : j ≤ (119 - l.length % 64) % 64) : j + 1 ≤ (119 - l.length % 64) % 64 := by omega
theorem zeros_done (l : List UInt8) (j : Nat) (h : (l.length + 1 + j) % 64 = 56) (hj : j ≤ (119 - l.length % 64) % 64) : j = (119 - l.length % 64) % 64 := by omega
theorem padded_eq (l : List UInt8) : padded l = l ++ [128] ++ List.replicate ((119 - l.length % 64) % 64) 0 ++ (List.range 8).map (fun i => UInt8.ofNat (l.length * 8 / 2 ^ (56 - 8 * i))) := by
  unfold padded zeros len8
  simp [List.range, List.range.loop]
end Go.Proofs.YtbimboibllboeaaDoor.Sha
