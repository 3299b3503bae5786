/- The document's bits, plain. -/
import Derived.Test.YtbimboibllboeaaDoorBlmFacts
namespace Go.Proofs.YtbimboibllboeaaDoor.Blm
open Go Go.RowKit Go.Proofs.YtbimboibllboeaaDoor.Eng Go.Proofs.YtbimboibllboeaaDoor.Sha Go.Proofs.YtbimboibllboeaaDoor.Six
set_option linter.unusedVariables false
def BL (b : List UInt8) : List Bool := (List.range (8 * b.length)).map (tstB b)
theorem BL_len (b : List UInt8) : (BL b).length = 8 * b.length := by simp [BL]
theorem BL_get {b : List UInt8} {m : Nat} (h : m < 8 * b.length) : (BL b)[m]? = some (tstB b m) := by simp [BL, h]
theorem BL_put {b : List UInt8} {n : Nat} (hn : n < 8 * b.length) : BL (putB b n) = (BL b).set n true := by
  apply List.ext_getElem?
  intro m
  by_cases hm : m < 8 * b.length
  · rw [BL_get (by rw [putB_len]; exact hm), tst_put hn hm, List.getElem?_set]
    by_cases e : n = m
    · subst e
      rw [if_pos rfl, if_pos (by rw [BL_len]; exact hm)]; simp
    · rw [if_neg e, BL_get hm, show decide (m = n) = false from decide_eq_false (fun h => e h.symm), Bool.or_false]
  · rw [List.getElem?_eq_none (by rw [BL_len, putB_len]; omega), List.getElem?_eq_none (by rw [List.length_set, BL_len]; omega)]
theorem BL_zero (z : Nat) : BL (List.replicate z 0) = List.replicate (8 * z) false := by
  apply List.ext_getElem?
  intro m
  by_cases hm : m < 8 * z
  · rw [BL_get (by simpa using hm), tst_zero, List.getElem?_replicate, if_pos hm]
  · rw [List.getElem?_eq_none (by rw [BL_len]; simp; omega), List.getElem?_eq_none (by simp; omega)]
theorem BL_tst {b : List UInt8} {i k : Nat} {c : UInt8} (h : b[i]? = some c) (hk : k < 8) : tstB b (8 * i + k) = bit8 c k := by
  unfold tstB
  rw [show (8 * i + k) / 8 = i by omega, show (8 * i + k) % 8 = k by omega, List.getD_eq_getElem?_getD, h]; rfl
/-- So many bits of the bytes, told one by one. -/
def BT (b : List UInt8) (n : Nat) : List Bool := (BL b).take n
theorem BT_next {b : List UInt8} {n : Nat} (h : n < 8 * b.length) : BT b (n + 1) = BT b n ++ [tstB b n] := by
  unfold BT; rw [List.take_add_one, BL_get h]; rfl
theorem BT_len {b : List UInt8} {n : Nat} (h : n ≤ 8 * b.length) : (BT b n).length = n := by
  unfold BT; rw [List.length_take, BL_len]; omega
def cntB (b : List UInt8) (n : Nat) : Nat := ((BT b n).filter id).length
theorem cnt_next {b : List UInt8} {n : Nat} (h : n < 8 * b.length) : cntB b (n + 1) = cntB b n + if tstB b n = true then 1 else 0 := by
  unfold cntB
  rw [BT_next h, List.filter_append, List.length_append]
  cases tstB b n <;> rfl
theorem cnt_byte {b : List UInt8} {i : Nat} {c : UInt8} (h : b[i]? = some c) : ∀ k, k ≤ 8 → cntB b (8 * i + k) = cntB b (8 * i) + ((List.range k).filter (bit8 c)).length
  | 0, _ => by simp
  | k + 1, hk => by
    have hi := (List.getElem?_eq_some_iff.1 h).1
    have ih := cnt_byte h k (by omega)
    rw [← Nat.add_assoc, cnt_next (by omega), ih, BL_tst h (by omega), List.range_succ, List.filter_append, List.length_append, Nat.add_assoc]
    congr 2
    cases hb : bit8 c k <;> simp [hb]
theorem cnt_bytes (b : List UInt8) : ∀ i, i ≤ b.length → cntB b (8 * i) = onesB (b.take i)
  | 0, _ => by simp [cntB, BT, onesB]
  | i + 1, hi => by
    have h : b[i]? = some b[i] := List.getElem?_eq_getElem (by omega)
    rw [show 8 * (i + 1) = 8 * i + 8 by omega, cnt_byte h 8 (by omega), cnt_bytes b i (by omega), ones_next h]; rfl
theorem cnt_all (b : List UInt8) : cntB b (8 * b.length) = onesB b := by rw [cnt_bytes b b.length (Nat.le_refl _), List.take_length]
theorem cnt_le (b : List UInt8) (n : Nat) : cntB b n ≤ n := by
  unfold cntB BT
  exact Nat.le_trans (List.length_filter_le _ _) (by rw [List.length_take]; omega)
/-- A byte put together, its high bits first. -/
def topB (c : UInt8) (j : Nat) : UInt8 := UInt8.ofNat (c.toNat / 2 ^ (8 - j))
theorem top_zero (c : UInt8) : topB c 0 = 0 := by
  have h : ∀ n < 256, topB (UInt8.ofNat n) 0 = 0 := by decide +kernel
  have := h c.toNat c.toNat_lt
  rwa [UInt8.ofNat_toNat] at this
theorem top_all (c : UInt8) : topB c 8 = c := by
  have h : ∀ n < 256, topB (UInt8.ofNat n) 8 = UInt8.ofNat n := by decide +kernel
  have := h c.toNat c.toNat_lt
  rwa [UInt8.ofNat_toNat] at this
theorem top_next (c : UInt8) {j : Nat} (hj : j < 8) : topB c (j + 1) = 2 * topB c j + if bit8 c (7 - j) = true then 1 else 0 := by
  have h : ∀ n < 256, ∀ j < 8, topB (UInt8.ofNat n) (j + 1) = 2 * topB (UInt8.ofNat n) j + if bit8 (UInt8.ofNat n) (7 - j) = true then 1 else 0 := by decide +kernel
  have := h c.toNat c.toNat_lt j hj
  rwa [UInt8.ofNat_toNat] at this
/-- A byte taken apart, its low bits first. -/
def lowB (c : UInt8) (j : Nat) : UInt8 := UInt8.ofNat (c.toNat / 2 ^ j)
theorem low_zero (c : UInt8) : lowB c 0 = c := by
  unfold lowB; rw [Nat.pow_zero, Nat.div_one, UInt8.ofNat_toNat]
theorem low_next (c : UInt8) {j : Nat} (hj : j < 8) : lowB c (j + 1) = lowB c j / 2 ∧ decide (lowB c j % 2 = 1) = bit8 c j := by
  have h : ∀ n < 256, ∀ j < 8, lowB (UInt8.ofNat n) (j + 1) = lowB (UInt8.ofNat n) j / 2 ∧ decide (lowB (UInt8.ofNat n) j % 2 = 1) = bit8 (UInt8.ofNat n) j := by decide +kernel
  have := h c.toNat c.toNat_lt j hj
  rwa [UInt8.ofNat_toNat] at this
theorem words_loop {p n j : Nat} (hj : 1 ≤ j) (h1 : j = 1 ∨ 64 * (j - 1) < p * n) (h2 : ¬ 64 * j < p * n) : j = wordsN p n := by
  unfold wordsN
  rw [Nat.mul_comm n p]
  omega
end Go.Proofs.YtbimboibllboeaaDoor.Blm
