/- Bits turned in a row of bytes, as the law CrcBursts turns them: plain lists. -/
import Derived.Test.YtlgkmigdgjjoeaaCrcFn
namespace Go.Proofs.Ytlgkmigdgjjoeaa.Bursts
open Go Go.Proofs.Ytlgkmigdgjjoeaa.CrcFn

/-- The bit b turned. -/
def flip (l : List UInt8) (b : Nat) : List UInt8 := l.set (b / 8) (l.getD (b / 8) 0 ^^^ UInt8.ofNat (2 ^ (b % 8)))
theorem flip_length (l : List UInt8) (b : Nat) : (flip l b).length = l.length := by simp [flip]
def on (mask k : Nat) : Bool := decide (mask / 2 ^ k % 2 = 1)
/-- Behind k rounds: the bytes, and whether any bit was turned. -/
def turn (mask start : Nat) (l : List UInt8) : Nat → List UInt8 × Bool
  | 0 => (l, false)
  | k + 1 => if on mask k then (flip (turn mask start l k).1 (start + k), true) else turn mask start l k
theorem turn_length (mask start : Nat) (l : List UInt8) (k : Nat) : (turn mask start l k).1.length = l.length := by
  induction k with
  | zero => rfl
  | succ k ih =>
    unfold turn
    split
    · rw [flip_length]; exact ih
    · exact ih
theorem step_shift (j : Nat) (hj : j < 31) : crcStep (BitVec.twoPow 32 (j + 1)) = BitVec.twoPow 32 j := by
  have h : ∀ j : Fin 31, crcStep (BitVec.twoPow 32 (j.val + 1)) = BitVec.twoPow 32 j.val := by decide +kernel
  exact h ⟨j, hj⟩
theorem steps_shift (j : Nat) : j ≤ 31 → steps j (BitVec.twoPow 32 j) = BitVec.twoPow 32 0 := by
  induction j with
  | zero => intro _; rfl
  | succ j ih =>
    intro hj
    rw [show j + 1 = 1 + j by omega, steps_add, show 1 + j = j + 1 by omega]
    show steps j (steps 0 (crcStep (BitVec.twoPow 32 (j + 1)))) = _
    rw [step_shift j (by omega)]
    exact ih (by omega)
/-- The mask's lowest j bits; the registers' difference behind j bits of the window. -/
def low (m : Nat) : Nat → BitVec 32
  | 0 => 0#32
  | j + 1 => low m j ^^^ (if on m j then BitVec.twoPow 32 j else 0#32)
def win (m : Nat) : Nat → BitVec 32
  | 0 => 0#32
  | j + 1 => crcStep (win m j ^^^ (if on m j then BitVec.twoPow 32 0 else 0#32))
theorem win_eq (m : Nat) (j : Nat) : j ≤ 32 → win m j = steps j (low m j) := by
  induction j with
  | zero => intro _; rfl
  | succ j ih =>
    intro hj
    rw [steps_succ', win, low, steps_xor, ih (by omega)]
    congr 2
    split
    · exact (steps_shift j (by omega)).symm
    · exact (steps_zero0 j).symm
theorem low_bit (m : Nat) (j : Nat) (i : Nat) (hi : i < 32) : (low m j).getLsbD i = (decide (i < j) && on m i) := by
  induction j with
  | zero => simp [low]
  | succ j ih =>
    rw [low, BitVec.getLsbD_xor, ih]
    by_cases h : i = j
    · subst h
      cases hb : on m i
      · simp
      · simp [hi]
    · have : decide (i < j + 1) = decide (i < j) := by simp; omega
      rw [this]
      cases hb : on m j
      · simp
      · have h2 : decide (j = i) = false := decide_eq_false (fun e => h e.symm)
        simp [BitVec.getLsbD_twoPow, h2]
/-- Behind the window the registers are alike only if no bit was turned. -/
theorem win_zero {m j : Nat} (hj : j ≤ 32) (h : win m j = 0#32) : ∀ i, i < j → on m i = false := by
  intro i hi
  rw [win_eq m j hj] at h
  have h2 := steps_zero j h
  have h3 := low_bit m j i (by omega)
  rw [h2] at h3
  simp [hi] at h3
  exact h3
/-- The register behind N bits of a row of bytes. -/
def bitAt (l : List UInt8) (b : Nat) : Bool := on (l.getD (b / 8) 0).toNat (b % 8)
def brun (x : BitVec 32) (l : List UInt8) : Nat → BitVec 32
  | 0 => x
  | b + 1 => crcStep (brun x l b ^^^ (if bitAt l b then BitVec.twoPow 32 0 else 0#32))
theorem brun_in (x : BitVec 32) (l : List UInt8) (i j : Nat) : j ≤ 8 → brun x l (8 * i + j) = steps j (brun x l (8 * i) ^^^ low (l.getD i 0).toNat j) := by
  induction j with
  | zero => intro _; simp [low, steps]
  | succ j ih =>
    intro hj
    rw [steps_succ', ← Nat.add_assoc, brun, ih (by omega), low, ← BitVec.xor_assoc]
    generalize hZ : brun x l (8 * i) ^^^ low (l.getD i 0).toNat j = Z
    rw [steps_xor j Z]
    congr 2
    have : bitAt l (8 * i + j) = on (l.getD i 0).toNat j := by
      unfold bitAt
      rw [show (8 * i + j) / 8 = i by omega, show (8 * i + j) % 8 = j by omega]
    rw [this]
    split
    · exact (steps_shift j (by omega)).symm
    · exact (steps_zero0 j).symm
theorem low_byte (c : UInt8) : low c.toNat 8 = BitVec.ofNat 32 c.toNat := by
  have h : ∀ c : Fin 256, low c.val 8 = BitVec.ofNat 32 c.val := by decide +kernel
  exact h ⟨c.toNat, c.toNat_lt⟩
theorem brun_eq (x : BitVec 32) (l : List UInt8) (i : Nat) : i ≤ l.length → brun x l (8 * i) = run x (l.take i) := by
  induction i with
  | zero => intro _; rfl
  | succ i ih =>
    intro hi
    rw [show 8 * (i + 1) = 8 * i + 8 by omega, brun_in x l i 8 (by omega), low_byte, ih (by omega), List.take_succ_eq_append_getElem (by omega), run_snoc, byteStep]
    congr 3
    simp [List.getD_eq_getElem?_getD, List.getElem?_eq_getElem (show i < l.length by omega)]
theorem on_testBit (m k : Nat) : on m k = m.testBit k := by
  unfold on
  rw [Nat.testBit_eq_decide_div_mod_eq]
theorem bitAt_flip (l : List UInt8) (b c : Nat) (hb : b < 8 * l.length) : bitAt (flip l b) c = (bitAt l c != decide (c = b)) := by
  unfold bitAt flip
  rw [on_testBit, on_testBit]
  by_cases h : c / 8 = b / 8
  · rw [h]
    have e : (l.set (b / 8) (l.getD (b / 8) 0 ^^^ UInt8.ofNat (2 ^ (b % 8)))).getD (b / 8) 0 = l.getD (b / 8) 0 ^^^ UInt8.ofNat (2 ^ (b % 8)) := by
      simp [List.getD_eq_getElem?_getD, show b / 8 < l.length by omega]
    rw [e, UInt8.toNat_xor, Nat.testBit_xor, UInt8.toNat_ofNat']
    have hp : 2 ^ (b % 8) % 2 ^ 8 = 2 ^ (b % 8) := Nat.mod_eq_of_lt (Nat.pow_lt_pow_right (by omega) (by omega))
    rw [hp, Nat.testBit_two_pow]
    have : decide (b % 8 = c % 8) = decide (c = b) := by
      rw [decide_eq_decide]; omega
    rw [this]
  · have e : (l.set (b / 8) (l.getD (b / 8) 0 ^^^ UInt8.ofNat (2 ^ (b % 8)))).getD (c / 8) 0 = l.getD (c / 8) 0 := by
      simp [List.getD_eq_getElem?_getD, show ¬ b / 8 = c / 8 by omega]
    rw [e, show decide (c = b) = false from decide_eq_false (fun e => h (by rw [e]))]
    simp
theorem bitAt_turn (m s : Nat) (l : List UInt8) (K : Nat) (c : Nat) : s + K ≤ 8 * l.length → bitAt (turn m s l K).1 c = (bitAt l c != (decide (s ≤ c) && decide (c < s + K) && on m (c - s))) := by
  induction K with
  | zero =>
    intro _
    have : (decide (s ≤ c) && decide (c < s + 0)) = false := by simp
    rw [this]
    simp [turn]
  | succ K ih =>
    intro h
    have ih := ih (by omega)
    unfold turn
    by_cases hm : on m K = true
    · rw [if_pos hm, bitAt_flip _ _ _ (by rw [turn_length]; omega), ih]
      by_cases hc : c = s + K
      · subst hc
        simp [hm]
      · have : decide (c < s + (K + 1)) = decide (c < s + K) := by rw [decide_eq_decide]; omega
        rw [this]
        simp [hc]
    · rw [if_neg hm, ih]
      by_cases hc : c = s + K
      · subst hc
        simp [hm]
      · have : decide (c < s + (K + 1)) = decide (c < s + K) := by rw [decide_eq_decide]; omega
        rw [this]
theorem brun_step (x y : BitVec 32) (l r : List UInt8) (b : Nat) : brun x l (b + 1) ^^^ brun y r (b + 1) = crcStep ((brun x l b ^^^ brun y r b) ^^^ (if bitAt l b != bitAt r b then BitVec.twoPow 32 0 else 0#32)) := by
  rw [brun, brun, ← step_xor]
  congr 1
  generalize brun x l b = X
  generalize brun y r b = Y
  generalize BitVec.twoPow 32 0 = T
  cases bitAt l b <;> cases bitAt r b <;> simp <;> (apply BitVec.eq_of_getLsbD_eq; intro i _; simp only [BitVec.getLsbD_xor]; cases X.getLsbD i <;> cases Y.getLsbD i <;> cases T.getLsbD i <;> rfl)
theorem diff_before (x : BitVec 32) (m s : Nat) (l : List UInt8) (K N : Nat) (hK : s + K ≤ 8 * l.length) : N ≤ s → brun x (turn m s l K).1 N ^^^ brun x l N = 0#32 := by
  induction N with
  | zero => intro _; simp [brun]
  | succ N ih =>
    intro h
    rw [brun_step, ih (by omega), bitAt_turn m s l K N hK, show decide (s ≤ N) = false from decide_eq_false (by omega)]
    simp
    rfl
theorem diff_in (x : BitVec 32) (m s : Nat) (l : List UInt8) (K j : Nat) (hK : s + K ≤ 8 * l.length) : j ≤ K → brun x (turn m s l K).1 (s + j) ^^^ brun x l (s + j) = win m j := by
  induction j with
  | zero => intro _; exact diff_before x m s l K s hK (Nat.le_refl _)
  | succ j ih =>
    intro h
    rw [← Nat.add_assoc, brun_step, ih (by omega), bitAt_turn m s l K (s + j) hK, show decide (s ≤ s + j) = true from decide_eq_true (by omega), show decide (s + j < s + K) = true from decide_eq_true (by omega), show s + j - s = j by omega, win]
    cases bitAt l (s + j) <;> cases on m j <;> rfl
theorem diff_after (x : BitVec 32) (m s : Nat) (l : List UInt8) (K i : Nat) (hK : s + K ≤ 8 * l.length) : brun x (turn m s l K).1 (s + K + i) ^^^ brun x l (s + K + i) = steps i (win m K) := by
  induction i with
  | zero => exact diff_in x m s l K K hK (Nat.le_refl _)
  | succ i ih =>
    rw [← Nat.add_assoc, brun_step, ih, bitAt_turn m s l K (s + K + i) hK, show decide (s + K + i < s + K) = false from decide_eq_false (by omega), steps_succ']
    simp
theorem turn_no (m s : Nat) (l : List UInt8) (K : Nat) (h : (turn m s l K).2 = false) : (turn m s l K).1 = l := by
  induction K with
  | zero => rfl
  | succ K ih =>
    unfold turn at h ⊢
    split at h
    · simp at h
    · rename_i hm
      rw [if_neg hm]
      exact ih h
theorem turn_yes (m s : Nat) (l : List UInt8) (K : Nat) (h : (turn m s l K).2 = true) : ∃ k, k < K ∧ on m k = true := by
  induction K with
  | zero => simp [turn] at h
  | succ K ih =>
    unfold turn at h
    split at h
    · rename_i hm
      exact ⟨K, by omega, hm⟩
    · obtain ⟨k, h1, h2⟩ := ih h
      exact ⟨k, by omega, h2⟩
theorem turn_ne (m s : Nat) (l : List UInt8) (K : Nat) (hK : s + K ≤ 8 * l.length) (h : (turn m s l K).2 = true) : (turn m s l K).1 ≠ l := by
  obtain ⟨k, hk, hm⟩ := turn_yes m s l K h
  intro e
  have := bitAt_turn m s l K (s + k) hK
  rw [e, show decide (s ≤ s + k) = true from decide_eq_true (by omega), show decide (s + k < s + K) = true from decide_eq_true (by omega), show s + k - s = k by omega, hm] at this
  cases hb : bitAt l (s + k) <;> simp [hb] at this
/-- A burst in a message is told by the sum. -/
theorem crc_ne (m s : Nat) (l : List UInt8) (K : Nat) (h32 : K ≤ 32) (hK : s + K ≤ 8 * l.length) (h : (turn m s l K).2 = true) : crc (turn m s l K).1 ≠ crc l := by
  intro e
  obtain ⟨k, hk, hm⟩ := turn_yes m s l K h
  have hd := diff_after (BitVec.allOnes 32) m s l K (8 * l.length - (s + K)) hK
  rw [show s + K + (8 * l.length - (s + K)) = 8 * l.length by omega, brun_eq _ l l.length (Nat.le_refl _), List.take_length] at hd
  have hl := turn_length m s l K
  have h2 := brun_eq (BitVec.allOnes 32) (turn m s l K).1 l.length (by omega)
  rw [h2, ← hl, List.take_length] at hd
  unfold crc at e
  have e2 : run (BitVec.allOnes 32) (turn m s l K).1 = run (BitVec.allOnes 32) l := by
    have := congrArg (fun x => ~~~ x) e
    simpa using this
  rw [e2, BitVec.xor_self] at hd
  have hw := steps_zero _ hd.symm
  rw [win_zero h32 hw k hk] at hm
  cases hm
theorem flip_left (a b : List UInt8) (c : Nat) (h : c < 8 * a.length) : flip (a ++ b) c = flip a c ++ b := by
  unfold flip
  rw [List.set_append_left _ _ (by omega)]
  congr 3
  simp [List.getD_eq_getElem?_getD, List.getElem?_append_left (show c / 8 < a.length by omega)]
theorem flip_right (a b : List UInt8) (c : Nat) : flip (a ++ b) (8 * a.length + c) = a ++ flip b c := by
  unfold flip
  rw [show (8 * a.length + c) / 8 = a.length + c / 8 by omega, show (8 * a.length + c) % 8 = c % 8 by omega, List.set_append_right _ _ (by omega)]
  congr 2
  · omega
  · simp [List.getD_eq_getElem?_getD, List.getElem?_append_right]
theorem turn_left (m s : Nat) (a b : List UInt8) (K : Nat) : s + K ≤ 8 * a.length → turn m s (a ++ b) K = ((turn m s a K).1 ++ b, (turn m s a K).2) := by
  induction K with
  | zero => intro _; rfl
  | succ K ih =>
    intro h
    unfold turn
    rw [ih (by omega)]
    split
    · rw [flip_left _ _ _ (by rw [turn_length]; omega)]
    · rfl
theorem turn_right (m s : Nat) (a b : List UInt8) (K : Nat) : turn m (8 * a.length + s) (a ++ b) K = (a ++ (turn m s b K).1, (turn m s b K).2) := by
  induction K with
  | zero => rfl
  | succ K ih =>
    unfold turn
    rw [ih]
    split
    · rw [Nat.add_assoc, flip_right]
    · rfl
end Go.Proofs.Ytlgkmigdgjjoeaa.Bursts
