/- Frames of records, plain. -/
import Derived.Test.YtlkljeghhahedaaSixFn
import Derived.Test.YtlkljeghhahedaaCrcFn
namespace Go.Proofs.Ytlkljeghhahedaa.Wal
open Go Go.Proofs.Ytlkljeghhahedaa.Six Go.Proofs.Ytlkljeghhahedaa.CrcFn
set_option linter.unusedVariables false
def frame (x : List UInt8) : List UInt8 := put (encT x)
theorem frame_eq (x : List UInt8) : frame x = encT x ++ four (crc (encT x)) := rfl
theorem frame_len (x : List UInt8) : (frame x).length = (encT x).length + 4 := by rw [frame_eq, List.length_append]; rfl
/-- The record that begins here, and how many bytes its frame has. -/
def wstep (l : List UInt8) : Option (List UInt8 × Nat) :=
  if (text l).2.2 = 0 ∧ (raw (l.drop (text l).2.1) 4).2.2 = 0 ∧ (text l).1.length ≤ 1048576 ∧ frame (text l).1 = l.take ((text l).2.1 + 4) then some ((text l).1, (text l).2.1 + 4) else none
def splitA : Nat → List (List UInt8) → Nat → List UInt8 → List (List UInt8) × Nat
  | 0, ts, k, _ => (ts, k)
  | m + 1, ts, k, l => match wstep l with
    | none => (ts, k)
    | some (t, n) => splitA m (ts ++ [t]) (k + n) (l.drop n)
theorem raw4 (l : List UInt8) : (raw l 4).2.2 = 0 ↔ 4 ≤ l.length := by
  unfold raw
  rw [if_neg (by decide)]
  split
  · rename_i h; simp; omega
  · rename_i h; simp; omega
theorem wstep_size {l t : List UInt8} {n : Nat} (h : wstep l = some (t, n)) : 5 ≤ n ∧ n ≤ l.length := by
  unfold wstep at h
  split at h
  · rename_i hc
    simp only [Option.some.injEq, Prod.mk.injEq] at h
    have h2 := (raw4 _).1 hc.2.1
    rw [List.length_drop] at h2
    have hts := text_size l
    have : 1 ≤ (text l).2.1 := by
      have h3 := hc.2.2.2
      have h4 := congrArg List.length h3
      rw [frame_len, List.length_take] at h4
      unfold encT at h4
      rw [List.length_append] at h4
      have := enc_pos 64 (text l).1.length
      omega
    omega
  · cases h
theorem wstep_frame (x r : List UInt8) (hx : x.length ≤ 1048576) : wstep (frame x ++ r) = some (x, (frame x).length) := by
  have ht : text (frame x ++ r) = (x, (encT x).length, 0) := by
    rw [frame_eq, List.append_assoc]; exact text_encT x _ (by omega)
  unfold wstep
  rw [ht, frame_len]
  rw [if_pos]
  refine ⟨rfl, (raw4 _).2 ?_, hx, ?_⟩
  · rw [List.length_drop, List.length_append, frame_len]; dsimp only; omega
  · dsimp only
    rw [← frame_len, List.take_left]
theorem split_frames (xs : List (List UInt8)) : ∀ (m : Nat) (acc : List (List UInt8)) (k : Nat) (r : List UInt8), (∀ x ∈ xs, x.length ≤ 1048576) →
    splitA (m + xs.length) acc k (xs.flatMap frame ++ r) = splitA m (acc ++ xs) (k + (xs.flatMap frame).length) r := by
  induction xs with
  | nil => intro m acc k r _; simp
  | cons x xs ih =>
    intro m acc k r h
    rw [List.length_cons, ← Nat.add_assoc, List.flatMap_cons, List.append_assoc, splitA, wstep_frame _ _ (h x (List.mem_cons_self ..))]
    dsimp only
    rw [List.drop_left, ih _ _ _ _ (fun y hy => h y (List.mem_cons_of_mem _ hy)), List.length_append]
    simp [Nat.add_assoc]
theorem split_more : ∀ (m : Nat) (ts : List (List UInt8)) (k : Nat) (l : List UInt8), ts <+: (splitA m ts k l).1
  | 0, ts, k, l => List.prefix_refl _
  | m + 1, ts, k, l => by
    rw [splitA]
    split
    · exact List.prefix_refl _
    · exact (List.prefix_append _ _).trans (split_more m _ _ _)
theorem num_short (c : Nat) : ∀ (l : List UInt8) (x i : Nat), (num x i l).e = 0 → ∀ j, j < (num x i l).size - i → (num x i (l.take j)).e ≠ 0 := by
  intro l
  induction l with
  | nil => intro x i h; simp [num] at h
  | cons a r ih =>
    intro x i h j hj
    cases j with
    | zero => simp [num]
    | succ j =>
      rw [List.take_succ_cons]
      unfold num at h hj ⊢
      split
      · simp
      · rename_i h1
        rw [if_neg h1] at h hj
        split
        · rename_i h2
          rw [if_pos h2] at hj
          dsimp only at hj
          omega
        · rename_i h2
          rw [if_neg h2] at h hj
          exact ih _ _ h j (by omega)
theorem num_more : ∀ (l : List UInt8) (x i : Nat) (j : Nat), (num x i l).e = 0 → (num x i l).size - i ≤ j → num x i (l.take j) = num x i l := by
  intro l
  induction l with
  | nil => intro x i j h; simp [num] at h
  | cons a r ih =>
    intro x i j h hj
    have hs := num_size (a :: r) x i h
    cases j with
    | zero => omega
    | succ j =>
      rw [List.take_succ_cons]
      unfold num at h hj hs ⊢
      split
      · rename_i h1; rw [if_pos h1] at h; try cases h
      · rename_i h1
        rw [if_neg h1] at h hj hs
        split
        · rfl
        · rename_i h2
          rw [if_neg h2] at h hj hs
          exact ih _ _ j h (by omega)
/-- A frame that is cut off bears no record. -/
theorem wstep_cut (x : List UInt8) (hx : x.length ≤ 1048576) (j : Nat) (hj : j < (frame x).length) : wstep ((frame x).take j) = none := by
  unfold wstep
  rw [if_neg]
  rintro ⟨h1, h2, h3, h4⟩
  have h5 := congrArg List.length h4
  have h6 := (raw4 _).1 h2
  rw [List.length_drop, List.length_take, Nat.min_eq_left (by omega)] at h6
  rw [frame_len, List.length_take, List.length_take] at h5
  rw [frame_len] at hj
  -- the count is whole
  have hn := num_enc false x.length (by omega) (x ++ four (crc (encT x)))
  simp only [Bool.false_eq_true, if_false] at hn
  have hf : frame x = enc 64 x.length ++ (x ++ four (crc (encT x))) := by rw [frame_eq]; unfold encT; rw [List.append_assoc]
  rw [← hf] at hn
  have hce : (count ((frame x).take j)).2.2 = 0 := by
    unfold text at h1
    split at h1
    · assumption
    · rename_i hc; exact absurd h1 hc
  have hne : (num 0 0 ((frame x).take j)).e = 0 := by
    unfold count at hce
    split at hce
    · assumption
    · rename_i hc; exact absurd hce hc
  have hlen : (enc 64 x.length).length ≤ j := by
    rcases Nat.lt_or_ge j (enc 64 x.length).length with h | h
    · exact absurd hne (num_short 0 (frame x) 0 0 (by rw [hn]) j (by rw [hn]; exact h))
    · exact h
  have hnum : num 0 0 ((frame x).take j) = ⟨0, x.length, false, (enc 64 x.length).length⟩ := by
    rw [num_more (frame x) 0 0 j (by rw [hn]) (by rw [hn]; exact hlen), hn]
  have hcnt : count ((frame x).take j) = ((x.length : Int), (enc 64 x.length).length, 0) := by
    unfold count; rw [hnum]; simp
  have ht : text ((frame x).take j) = if (raw (((frame x).take j).drop (enc 64 x.length).length) (x.length : Int)).2.2 = 0 then ((raw (((frame x).take j).drop (enc 64 x.length).length) (x.length : Int)).1, (enc 64 x.length).length + (raw (((frame x).take j).drop (enc 64 x.length).length) (x.length : Int)).2.1, 0) else ([], 0, (raw (((frame x).take j).drop (enc 64 x.length).length) (x.length : Int)).2.2) := by
    unfold text; rw [hcnt]; simp
  rw [ht] at h1 h6
  split at h1
  · rename_i hr
    rw [if_pos hr] at h6
    unfold raw at hr h6
    rw [if_neg (by omega)] at hr h6
    split at hr
    · cases hr
    · rename_i hl
      rw [if_neg hl] at h6
      dsimp only at h6
      have : (encT x).length = (enc 64 x.length).length + x.length := by unfold encT; rw [List.length_append]
      omega
  · rename_i hr; exact absurd h1 hr
end Go.Proofs.Ytlkljeghhahedaa.Wal
