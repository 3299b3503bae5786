/- Entries out of bytes, plain. -/
import Derived.Test.YtfjnjnkmkbbjoaaBlkPacks
namespace Go.Proofs.Ytfjnjnkmkbbjoaa.Blk
open Go Go.Proofs.Ytfjnjnkmkbbjoaa.Eng Go.Proofs.Ytfjnjnkmkbbjoaa.Six
set_option linter.unusedVariables false
theorem count_bound (l : List UInt8) : (count l).1 ≤ 9223372036854775807 := by
  have := num_bound l 0 0
  unfold count
  split
  · split <;> (dsimp only; omega)
  · dsimp only; omega
theorem count_pos {l : List UInt8} (h : (count l).2.2 = 0) : 1 ≤ (count l).2.1 := by
  unfold count at *
  split
  · rename_i h0
    rw [if_pos h0] at h
    have := num_size l 0 0 h0
    split
    · rename_i hb; rw [if_pos hb] at h; cases h
    · exact this.1
  · rename_i h0; rw [if_neg h0] at h; exact absurd h h0
theorem text_len {l : List UInt8} : (text l).1.length ≤ l.length := by
  unfold text
  split
  · split
    · dsimp only
      unfold raw
      split
      · simp
      · split
        · simp
        · dsimp only; rw [List.length_take, List.length_drop]; omega
    · simp
  · simp
def entZ : Ent := ⟨[], [], false⟩
def no (e : Int) : Ent × Nat × Int := (entZ, 0, e)
def entryV (key : List UInt8) (k : Nat) (l : List UInt8) : Ent × Nat × Int :=
  if (count l).2.2 ≠ 0 then no (count l).2.2 else
  if (count l).1 = 0 then (⟨key, [], true⟩, k + (count l).2.1, 0) else
  if 65537 < (count l).1 then no 6 else
  if (raw (l.drop (count l).2.1) ((count l).1 - 1)).2.2 ≠ 0 then no (raw (l.drop (count l).2.1) ((count l).1 - 1)).2.2 else
  (⟨key, (raw (l.drop (count l).2.1) ((count l).1 - 1)).1, false⟩, k + (count l).2.1 + (raw (l.drop (count l).2.1) ((count l).1 - 1)).2.1, 0)
def entryK (last : List UInt8) (n : Nat) (k : Nat) (l : List UInt8) : Ent × Nat × Int :=
  if (text l).2.2 ≠ 0 then no (text l).2.2 else
  if last.length < n ∨ shareN last (last.take n ++ (text l).1) ≠ n then no 3 else
  if 65536 < n + (text l).1.length then no 6 else
  entryV (last.take n ++ (text l).1) (k + (text l).2.1) (l.drop (text l).2.1)
/-- An entry behind one with the key last: it, how many bytes, the error. -/
def entry (last l : List UInt8) : Ent × Nat × Int :=
  if (count l).2.2 ≠ 0 then no (count l).2.2 else entryK last (count l).1.toNat (count l).2.1 (l.drop (count l).2.1)
/-- What an entry that was taken is. -/
theorem entryV_canon {key : List UInt8} {k : Nat} {l : List UInt8} (h : (entryV key k l).2.2 = 0) (hk : key.length ≤ 65536) :
    ∃ m, (entryV key k l).2.1 = k + m ∧ m ≤ l.length ∧ (entryV key k l).1.key = key ∧ l.take m = packV (entryV key k l).1 ∧ (entryV key k l).1.val.length ≤ 65536 ∧ ((entryV key k l).1.gone = true → (entryV key k l).1.val = []) := by
  have hcn := count_nonneg l
  have hcs := count_size l
  unfold entryV at *
  by_cases h1 : (count l).2.2 = 0
  · rw [if_neg (fun h' => h' h1)] at h ⊢
    have hcc := count_canon h1
    by_cases h2 : (count l).1 = 0
    · rw [if_pos h2] at h ⊢
      refine ⟨(count l).2.1, rfl, hcs, rfl, ?_, by simp, fun _ => rfl⟩
      rw [hcc, h2]; rfl
    · rw [if_neg h2] at h ⊢
      by_cases h3 : 65537 < (count l).1
      · rw [if_pos h3] at h; cases h
      · rw [if_neg h3] at h ⊢
        have hrs := raw_size (l.drop (count l).2.1) ((count l).1 - 1)
        by_cases h4 : (raw (l.drop (count l).2.1) ((count l).1 - 1)).2.2 = 0
        · rw [if_neg (fun h' => h' h4)]
          have hr : raw (l.drop (count l).2.1) ((count l).1 - 1) = ((l.drop (count l).2.1).take ((count l).1 - 1).toNat, ((count l).1 - 1).toNat, 0) ∧ ((count l).1 - 1).toNat ≤ (l.drop (count l).2.1).length := by
            unfold raw at h4 ⊢
            rw [if_neg (by omega)] at h4 ⊢
            split at h4
            · cases h4
            · rename_i h5; rw [if_neg h5]; exact ⟨rfl, by omega⟩
          rw [hr.1]
          rw [hr.1] at hrs
          rw [List.length_drop] at hrs hr
          refine ⟨(count l).2.1 + ((count l).1 - 1).toNat, by dsimp only; omega, by dsimp only at hrs; omega, rfl, ?_, ?_, fun h' => by cases h'⟩
          · rw [List.take_add, hcc]
            show _ = packV ⟨key, (l.drop (count l).2.1).take ((count l).1 - 1).toNat, false⟩
            unfold packV
            rw [if_neg (fun h => by cases h)]
            dsimp only
            rw [List.length_take, List.length_drop, Nat.min_eq_left hr.2, show ((count l).1 - 1).toNat + 1 = (count l).1.toNat by omega]
          · dsimp only; rw [List.length_take]; omega
        · rw [if_pos h4] at h; exact absurd h h4
  · rw [if_pos h1] at h; exact absurd h h1
theorem entry_canon {last l : List UInt8} (h : (entry last l).2.2 = 0) :
    (entry last l).2.1 ≤ l.length ∧ l.take (entry last l).2.1 = packE last (entry last l).1 ∧ (entry last l).1.key.length ≤ 65536 ∧ (entry last l).1.val.length ≤ 65536 ∧ ((entry last l).1.gone = true → (entry last l).1.val = []) := by
  have hcn := count_nonneg l
  have hcs := count_size l
  unfold entry at *
  by_cases h1 : (count l).2.2 = 0
  · rw [if_neg (fun h' => h' h1)] at h ⊢
    have hcc := count_canon h1
    generalize count l = C at *
    have hl1l : (l.drop C.2.1).length = l.length - C.2.1 := List.length_drop ..
    generalize hN : C.1.toNat = N at *
    generalize hl1 : l.drop C.2.1 = l1 at *
    have hts := text_size l1
    unfold entryK at *
    by_cases h2 : (text l1).2.2 = 0
    · rw [if_neg (fun h' => h' h2)] at h ⊢
      have htc := (text_canon h2).1
      by_cases h3 : last.length < N ∨ shareN last (last.take N ++ (text l1).1) ≠ N
      · rw [if_pos h3] at h; cases h
      · rw [if_neg h3] at h ⊢
        have hNl : N ≤ last.length := by omega
        have hsh : shareN last (last.take N ++ (text l1).1) = N := by
          have := (not_or.1 h3).2
          exact Decidable.of_not_not this
        by_cases h4 : 65536 < N + (text l1).1.length
        · rw [if_pos h4] at h; cases h
        · rw [if_neg h4] at h ⊢
          have hkl : (last.take N ++ (text l1).1).length = N + (text l1).1.length := by rw [List.length_append, List.length_take, Nat.min_eq_left hNl]
          obtain ⟨m, e1, e2, e3, e4, e5, e6⟩ := entryV_canon h (by omega)
          generalize entryV (last.take N ++ (text l1).1) (C.2.1 + (text l1).2.1) (l1.drop (text l1).2.1) = V at *
          rw [List.length_drop] at e2
          refine ⟨by omega, ?_, by rw [e3]; omega, e5, e6⟩
          unfold packE
          rw [e1, e3, hsh, List.drop_append_of_le_length (by rw [List.length_take]; omega), List.drop_of_length_le (by rw [List.length_take]; omega), List.nil_append, Nat.add_assoc, List.take_add, hcc, hl1, List.take_add, htc, e4]
          rfl
    · rw [if_pos h2] at h; exact absurd h h2
  · rw [if_pos h1] at h; exact absurd h h1
end Go.Proofs.Ytfjnjnkmkbbjoaa.Blk
