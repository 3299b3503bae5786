/- Plain facts on six: how numbers and texts are read off lists of bytes, and written. -/
import Derived.Laws.Entries
namespace Go.Proofs.YtbimboibllboeaaDoor.Six
open Go

/-- What stands here: the error (0: none), the number, is it below 0, how many bytes. -/
structure Num where
  e : Int
  n : Nat
  below : Bool
  size : Nat
def num (x i : Nat) : List UInt8 → Num
  | [] => ⟨2, 0, false, 0⟩
  | c :: r => if 192 ≤ c.toNat ∨ 144115188075855871 < x ∨ (i = 0 ∧ c.toNat = 0) then ⟨3, 0, false, 0⟩
    else if 64 ≤ c.toNat then ⟨0, 64 * x + c.toNat % 64, decide (127 < c.toNat), i + 1⟩
    else num (64 * x + c.toNat % 64) (i + 1) r
/-- Any number: it, how many bytes, the error. -/
def whole (l : List UInt8) : Int × Nat × Int :=
  if (num 0 0 l).e = 0 then (if (num 0 0 l).below then -1 - ((num 0 0 l).n : Int) else ((num 0 0 l).n : Int), (num 0 0 l).size, 0) else (0, 0, (num 0 0 l).e)
def count (l : List UInt8) : Int × Nat × Int :=
  if (num 0 0 l).e = 0 then (if (num 0 0 l).below then (0, 0, 3) else (((num 0 0 l).n : Int), (num 0 0 l).size, 0)) else (0, 0, (num 0 0 l).e)
def raw (l : List UInt8) (n : Int) : List UInt8 × Nat × Int :=
  if n < 0 then ([], 0, 1) else if (l.length : Int) < n then ([], 0, 2) else (l.take n.toNat, n.toNat, 0)
def text (l : List UInt8) : List UInt8 × Nat × Int :=
  if (count l).2.2 = 0 then
    (if (raw (l.drop (count l).2.1) (count l).1).2.2 = 0 then ((raw (l.drop (count l).2.1) (count l).1).1, (count l).2.1 + (raw (l.drop (count l).2.1) (count l).1).2.1, 0) else ([], 0, (raw (l.drop (count l).2.1) (count l).1).2.2))
  else ([], 0, (count l).2.2)

theorem num_spec (l : List UInt8) : ∀ (x i : Nat), (num x i l).e = 0 ∨ (((num x i l).e = 2 ∨ (num x i l).e = 3) ∧ (num x i l).n = 0 ∧ (num x i l).below = false ∧ (num x i l).size = 0) := by
  induction l with
  | nil => intro x i; exact .inr ⟨.inl rfl, rfl, rfl, rfl⟩
  | cons c r ih =>
    intro x i
    unfold num
    split
    · exact .inr ⟨.inr rfl, rfl, rfl, rfl⟩
    · split
      · exact .inl rfl
      · exact ih _ _
theorem num_bound (l : List UInt8) : ∀ (x i : Nat), (num x i l).n ≤ 9223372036854775807 := by
  induction l with
  | nil => intro x i; simp [num]
  | cons c r ih =>
    intro x i
    unfold num
    split
    · simp
    · rename_i h
      split
      · have := c.toNat_lt; show 64 * x + c.toNat % 64 ≤ _; omega
      · exact ih _ _
theorem num_size (l : List UInt8) : ∀ (x i : Nat), (num x i l).e = 0 → i + 1 ≤ (num x i l).size ∧ (num x i l).size ≤ i + l.length := by
  induction l with
  | nil => intro x i h; simp [num] at h
  | cons c r ih =>
    intro x i h
    unfold num at h ⊢
    split at h
    · simp at h
    · rename_i h1
      rw [if_neg h1]
      split at h
      · rename_i h2
        rw [if_pos h2]
        exact ⟨Nat.le_refl _, by simp⟩
      · rename_i h2
        rw [if_neg h2]
        have := ih _ _ h
        simp
        omega
theorem whole_size (l : List UInt8) : (whole l).2.1 ≤ l.length := by
  unfold whole
  split
  · rename_i h; have := num_size l 0 0 h; simpa using this.2
  · simp
theorem count_size (l : List UInt8) : (count l).2.1 ≤ l.length := by
  unfold count
  split
  · rename_i h
    split
    · simp
    · have := num_size l 0 0 h; simpa using this.2
  · simp
theorem count_nonneg (l : List UInt8) : 0 ≤ (count l).1 := by
  unfold count
  split
  · split <;> simp
  · simp
theorem raw_size (l : List UInt8) (n : Int) : (raw l n).2.1 ≤ l.length := by
  unfold raw
  split
  · simp
  · split
    · simp
    · simp; omega
theorem text_size (l : List UInt8) : (text l).2.1 ≤ l.length := by
  unfold text
  split
  · split
    · have h1 := count_size l
      have h2 := raw_size (l.drop (count l).2.1) (count l).1
      rw [List.length_drop] at h2
      show (count l).2.1 + (raw (l.drop (count l).2.1) (count l).1).2.1 ≤ _
      omega
    · simp
  · simp

def high (x : Nat) : List UInt8 := if _h : x = 0 then [] else high (x / 64) ++ [UInt8.ofNat (x % 64)]
termination_by x
decreasing_by omega
theorem high_zero : high 0 = [] := by rw [high]; simp
theorem high_pos {x : Nat} (h : x ≠ 0) : high x = high (x / 64) ++ [UInt8.ofNat (x % 64)] := by rw [high]; simp [h]
def enc (m x : Nat) : List UInt8 := high (x / 64) ++ [UInt8.ofNat (m + x % 64)]
theorem num_canon (l : List UInt8) : ∀ (x i : Nat), (i = 0 → x = 0) → (i ≠ 0 → x ≠ 0) → (num x i l).e = 0 →
    high x ++ l.take ((num x i l).size - i) = enc (if (num x i l).below then 128 else 64) (num x i l).n := by
  induction l with
  | nil => intro x i _ _ h; simp [num] at h
  | cons c r ih =>
    intro x i h0 h1 he
    have hc := c.toNat_lt
    by_cases a : 192 ≤ c.toNat ∨ 144115188075855871 < x ∨ (i = 0 ∧ c.toNat = 0)
    · unfold num at he; rw [if_pos a] at he; simp at he
    · by_cases b : 64 ≤ c.toNat
      · have e : num x i (c :: r) = ⟨0, 64 * x + c.toNat % 64, decide (127 < c.toNat), i + 1⟩ := by
          rw [num, if_neg a, if_pos b]
        rw [e]
        dsimp only
        rw [Nat.add_sub_cancel_left]
        unfold enc
        rw [show (64 * x + c.toNat % 64) / 64 = x by omega, show (64 * x + c.toNat % 64) % 64 = c.toNat % 64 by omega]
        congr 1
        simp only [List.take_succ_cons, List.take_zero]
        congr 1
        apply UInt8.toNat_inj.1
        rw [UInt8.toNat_ofNat']
        by_cases d : 127 < c.toNat
        · simp only [d, decide_true, if_true]; omega
        · simp only [d, decide_false, Bool.false_eq_true, if_false]; omega
      · have e : num x i (c :: r) = num (64 * x + c.toNat % 64) (i + 1) r := by
          rw [num, if_neg a, if_neg b]
        rw [e] at he ⊢
        have hs := num_size r _ _ he
        have hx : 64 * x + c.toNat % 64 ≠ 0 := by
          by_cases hi : i = 0
          · omega
          · have := h1 hi; omega
        rw [← ih (64 * x + c.toNat % 64) (i + 1) (by omega) (fun _ => hx) he]
        rw [high_pos hx, show (64 * x + c.toNat % 64) / 64 = x by omega, show (64 * x + c.toNat % 64) % 64 = c.toNat by omega]
        rw [show (num (64 * x + c.toNat % 64) (i + 1) r).size - i = (num (64 * x + c.toNat % 64) (i + 1) r).size - (i + 1) + 1 by omega]
        simp
theorem count_canon {l : List UInt8} (h : (count l).2.2 = 0) : l.take (count l).2.1 = enc 64 (count l).1.toNat := by
  unfold count at h ⊢
  split at h
  · rename_i he
    rw [if_pos he]
    have hc := num_canon l 0 0 (fun _ => rfl) (fun h => absurd rfl h) he
    rw [high_zero, List.nil_append, Nat.sub_zero] at hc
    split at h
    · simp at h
    · rename_i hb
      rw [if_neg hb]
      rw [if_neg hb] at hc
      exact hc
  · rename_i he
    exact absurd h he
/-- A text that is read off stands in its form. -/
theorem text_canon {l : List UInt8} (h : (text l).2.2 = 0) : l.take (text l).2.1 = enc 64 (text l).1.length ++ (text l).1 ∧ (text l).2.1 ≤ l.length := by
  refine ⟨?_, text_size l⟩
  unfold text at h ⊢
  split at h
  · rename_i hc
    rw [if_pos hc]
    split at h
    · rename_i hr
      rw [if_pos hr]
      have hcc := count_canon hc
      have hcz := count_size l
      have hcn := count_nonneg l
      unfold raw at hr ⊢
      rw [if_neg (by omega)] at hr ⊢
      split at hr
      · simp at hr
      · rename_i hl
        rw [if_neg hl]
        rw [List.length_drop] at hl
        dsimp only
        rw [List.length_take, List.length_drop, Nat.min_eq_left (by omega), List.take_add, hcc]
    · rename_i hr
      exact absurd h hr
  · rename_i hc
    exact absurd h hc
/-- Any number's form. -/
def encW (n : Int) : List UInt8 := if n < 0 then enc 128 (-(n + 1)).toNat else enc 64 n.toNat
theorem whole_canon {l : List UInt8} (h : (whole l).2.2 = 0) : l.take (whole l).2.1 = encW (whole l).1 := by
  unfold whole at h ⊢
  split at h
  · rename_i he
    rw [if_pos he]
    have hc := num_canon l 0 0 (fun _ => rfl) (fun h => absurd rfl h) he
    rw [high_zero, List.nil_append, Nat.sub_zero] at hc
    dsimp only
    rw [hc]
    unfold encW
    cases hb : (num 0 0 l).below with
    | true =>
      simp only [if_true]
      rw [if_pos (by omega)]
      congr 1
      omega
    | false =>
      simp only [Bool.false_eq_true, if_false]
      rw [if_neg (by omega), Int.toNat_natCast]
  · rename_i he
    exact absurd h he
theorem high_len (k : Nat) : ∀ y, y < 64 ^ k → (high y).length ≤ k := by
  induction k with
  | zero => intro y h; rw [show y = 0 by simpa using h, high_zero]; simp
  | succ k ih =>
    intro y h
    by_cases h0 : y = 0
    · rw [h0, high_zero]; simp
    · rw [high_pos h0, List.length_append]
      have := ih (y / 64) (by rw [Nat.pow_succ] at h; omega)
      simp only [List.length_cons, List.length_nil]
      omega
theorem enc_len (m x : Nat) (h : x < 2 ^ 64) : (enc m x).length ≤ 11 := by
  unfold enc
  have := high_len 10 (x / 64) (by show _ < 64 ^ 10; omega)
  rw [List.length_append]
  simp only [List.length_cons, List.length_nil]
  omega
theorem enc_pos (m x : Nat) : 1 ≤ (enc m x).length := by
  unfold enc
  rw [List.length_append]
  simp only [List.length_cons, List.length_nil]
  omega
theorem encW_len (n : Int) (h : -9223372036854775808 ≤ n ∧ n ≤ 9223372036854775807) : (encW n).length ≤ 11 := by
  unfold encW
  split
  · exact enc_len _ _ (by omega)
  · exact enc_len _ _ (by omega)
theorem num_high (y : Nat) : ∀ (l : List UInt8), y ≠ 0 → y ≤ 144115188075855871 → num 0 0 (high y ++ l) = num y (high y).length l := by
  induction y using Nat.strongRecOn with
  | _ y ih =>
    intro l h0 hy
    rw [high_pos h0, List.append_assoc, List.singleton_append]
    have hc : (UInt8.ofNat (y % 64)).toNat = y % 64 := by rw [UInt8.toNat_ofNat']; omega
    by_cases h1 : y / 64 = 0
    · rw [h1, high_zero, List.nil_append, num, hc, if_neg (by omega), if_neg (by omega), List.nil_append]
      congr 1
      omega
    · rw [ih (y / 64) (by omega) _ h1 (by omega), num, hc, if_neg, if_neg (by omega), List.length_append]
      · congr 1
        omega
      · rintro (h | h | ⟨h, _⟩)
        · omega
        · omega
        · have := high_pos h1
          rw [List.length_eq_zero_iff.1 h] at this
          simp at this
theorem num_enc (b : Bool) (n : Nat) (hn : n ≤ 9223372036854775807) (r : List UInt8) :
    num 0 0 (enc (if b then 128 else 64) n ++ r) = ⟨0, n, b, (enc (if b then 128 else 64) n).length⟩ := by
  have hc : (UInt8.ofNat ((if b then 128 else 64) + n % 64)).toNat = (if b then 128 else 64) + n % 64 := by
    rw [UInt8.toNat_ofNat']; cases b <;> simp <;> omega
  unfold enc
  rw [List.append_assoc, List.singleton_append]
  by_cases h1 : n / 64 = 0
  · rw [h1, high_zero, List.nil_append, List.nil_append, num, hc, if_neg (by cases b <;> simp <;> omega), if_pos (by cases b <;> simp <;> omega)]
    cases b
    · simp only [Bool.false_eq_true, if_false]
      congr 1
      · omega
      · simp; omega
    · simp only [if_true]
      congr 1
      · omega
      · simp; omega
  · rw [num_high _ _ h1 (by omega), num, hc, if_neg, if_pos (by cases b <;> simp <;> omega)]
    · rw [List.length_append]
      cases b
      · simp only [Bool.false_eq_true, if_false]
        congr 1
        · omega
        · simp; omega
      · simp only [if_true]
        congr 1
        · omega
        · simp; omega
    · have h2 : (high (n / 64)).length ≠ 0 := by
        intro h
        have := high_pos h1
        rw [List.length_eq_zero_iff.1 h] at this
        simp at this
      cases b <;> simp <;> omega
theorem whole_encW (n : Int) (hn : -9223372036854775808 ≤ n ∧ n ≤ 9223372036854775807) (r : List UInt8) : whole (encW n ++ r) = (n, (encW n).length, 0) := by
  unfold whole encW
  by_cases h : n < 0
  · rw [if_pos h]
    have := num_enc true (-(n + 1)).toNat (by omega) r
    simp only [if_true] at this
    rw [this]
    simp only [if_true]
    congr 1
    omega
  · rw [if_neg h]
    have := num_enc false n.toNat (by omega) r
    simp only [Bool.false_eq_true, if_false] at this
    rw [this]
    simp only [Bool.false_eq_true, if_false, if_true]
    congr 1
    omega
theorem count_enc (n : Nat) (hn : n ≤ 9223372036854775807) (r : List UInt8) : count (enc 64 n ++ r) = ((n : Int), (enc 64 n).length, 0) := by
  unfold count
  have := num_enc false n hn r
  simp only [Bool.false_eq_true, if_false] at this
  rw [this]
  simp
/-- A text behind its length. -/
def encT (t : List UInt8) : List UInt8 := enc 64 t.length ++ t
theorem text_encT (t r : List UInt8) (ht : t.length ≤ 9223372036854775807) : text (encT t ++ r) = (t, (encT t).length, 0) := by
  unfold text encT
  rw [List.append_assoc, count_enc _ ht]
  dsimp only
  rw [List.drop_left]
  have hr : raw (t ++ r) (t.length : Int) = (t, t.length, 0) := by
    unfold raw
    rw [if_neg (by omega), if_neg (by rw [List.length_append]; omega), Int.toNat_natCast, List.take_left]
  rw [hr]
  simp
/-- The digits j to 1, the highest first: those of the high part. -/
theorem high_step (x j : Nat) (h : x / 64 ^ (j + 1) ≠ 0 ) : high (x / 64 ^ (j + 1)) = high (x / 64 ^ (j + 2)) ++ [UInt8.ofNat (x / 64 ^ (j + 1) % 64)] := by
  rw [high_pos h, Nat.div_div_eq_div_mul, ← Nat.pow_succ]
end Go.Proofs.YtbimboibllboeaaDoor.Six
