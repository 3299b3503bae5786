/- What is packed is opened, and what is opened is packed so: plain. -/
import Derived.Test.YtfjnjnkmkbbjoaaBlkROpen
namespace Go.Proofs.Ytfjnjnkmkbbjoaa.Blk
open Go Go.Proofs.Ytfjnjnkmkbbjoaa.Eng Go.Proofs.Ytfjnjnkmkbbjoaa.Six Go.Proofs.Ytfjnjnkmkbbjoaa.CrcFn
set_option linter.unusedVariables false
def pOf (xs : List Ent) : Option (List UInt8) := if xs = [] then none else some (lastK xs)
theorem pOf_next (xs : List Ent) (x : Ent) : pOf (xs ++ [x]) = some x.key := by unfold pOf; rw [if_neg (by simp), lastK_next]
theorem fit_notUp (xs : List Ent) (k : List UInt8) : fit (pOf xs) k = notUp xs k := by
  unfold pOf notUp
  by_cases h : xs = []
  · rw [if_pos h, decide_eq_true h]; rfl
  · rw [if_neg h, decide_eq_false h]
    show (!sLt (ofL (lastK xs)) (ofL k)) = _
    rw [sLt_tri, Bool.not_false, Bool.true_and]
theorem gone_val {x : Ent} : (x.gone && decide (x.val ≠ [])) = false ↔ (x.gone = true → x.val = []) := by
  cases x.gone <;> simp
theorem takeE_spec : ∀ (m : Nat) (xs : List Ent) (k : Nat) (l : List UInt8), (takeE m xs k l).2.2 = 0 →
    ∃ zs n, takeE m xs k l = (xs ++ zs, k + n, 0) ∧ zs.length = m ∧ n ≤ l.length ∧ l.take n = packL (lastK xs) zs ∧ chk (pOf xs) zs = 0
  | 0, xs, k, l, _ => ⟨[], 0, by simp [takeE], rfl, Nat.zero_le _, rfl, by simp [chk]⟩
  | m + 1, xs, k, l, h => by
    rw [takeE] at h ⊢
    by_cases h1 : l = []
    · rw [if_pos h1] at h; cases h
    · rw [if_neg h1] at h ⊢
      by_cases h2 : (stepE xs l).2.2 = 0
      · rw [if_pos h2] at h ⊢
        obtain ⟨e1, e2, e3⟩ := stepE_zero h2
        obtain ⟨c1, c2, c3, c4, c5⟩ := entry_canon e2
        rw [← e1] at c1 c2 c3 c4 c5 e3
        obtain ⟨zs, n, d1, d2, d3, d4, d5⟩ := takeE_spec m _ _ _ h
        generalize stepE xs l = T at *
        rw [List.length_drop] at d3
        rw [pOf_next] at d5
        rw [lastK_next] at d4
        refine ⟨T.1 :: zs, T.2.1 + n, by rw [d1, List.append_assoc, Nat.add_assoc]; rfl, by rw [List.length_cons, d2], by omega, ?_, ?_⟩
        · rw [packL, List.take_add, c2, d4]
        · rw [chk, if_neg (by omega), if_neg, d5]
          rw [fit_notUp, e3, gone_val.2 c5]
          decide
      · rw [if_neg h2] at h; exact absurd h h2
theorem openL_canon {l : List UInt8} (h : (openL l).2 = 0) : l = packB (openL l).1 ∧ check (openL l).1 = 0 := by
  have hcs := count_size l
  unfold openL at *
  by_cases h1 : (takeLE l).2.2 = 0
  · rw [if_neg (fun h' => h' h1)] at h ⊢
    by_cases h2 : 65536 < (takeLE l).1.length
    · rw [if_pos h2] at h; cases h
    · rw [if_neg h2] at h ⊢
      by_cases h3 : (takeLE l).2.1 < l.length
      · rw [if_pos h3] at h; cases h
      · rw [if_neg h3]
        unfold takeLE at *
        by_cases h4 : (count l).2.2 = 0
        · rw [if_pos h4] at h1 h2 h3 ⊢
          have hcc := count_canon h4
          obtain ⟨zs, n, d1, d2, d3, d4, d5⟩ := takeE_spec _ _ _ _ h1
          rw [d1] at h2 h3 ⊢
          rw [List.length_drop] at d3
          dsimp only [List.nil_append] at *
          refine ⟨?_, by unfold check; rw [if_neg h2]; exact d5⟩
          unfold packB
          rw [d2, ← hcc]
          have d4' : (l.drop (count l).2.1).take n = packL [] zs := d4
          rw [← d4', ← List.take_add, List.take_of_length_le (by omega)]
        · rw [if_neg h4] at h1; exact absurd h1 h4
  · rw [if_pos h1] at h; exact absurd h h1
theorem take_zero {s : List UInt8} (h : (Crc.take s).2 = 0) : put (Crc.take s).1 = s := by
  unfold Crc.take at *
  split at h
  · cases h
  · rename_i h1
    rw [if_neg h1]
    split at h
    · rename_i h2; rw [if_pos h2]; exact h2
    · cases h
theorem openB_canon {s : List UInt8} (h : (openB s).2 = 0) : check (openB s).1 = 0 ∧ packR (openB s).1 = s := by
  unfold openB at *
  by_cases h1 : (Crc.take s).2 = 0
  · rw [if_neg (fun h' => h' h1)] at h ⊢
    obtain ⟨h2, h3⟩ := openL_canon h
    refine ⟨h3, ?_⟩
    unfold packR
    rw [if_pos h3, ← h2, take_zero h1]
  · rw [if_pos h1] at h; exact absurd h h1
theorem entry_pack (last : List UInt8) (x : Ent) (hk : x.key.length ≤ 65536) (hv : x.val.length ≤ 65536) (hg : x.gone = true → x.val = []) (r : List UInt8) : entry last (packE last x ++ r) = (x, (packE last x).length, 0) := by
  have hsl := share_le last x.key
  have hst := share_take last x.key
  obtain ⟨key, val, gone⟩ := x
  dsimp only at *
  have hN := hst
  unfold packE entry
  dsimp only
  generalize hn : shareN last key = N at *
  have hkk : last.take N ++ key.drop N = key := by rw [hst, List.take_append_drop]
  rw [List.append_assoc, List.append_assoc, count_enc N (by omega)]
  dsimp only
  rw [if_neg (fun h => h rfl), Int.toNat_natCast, List.drop_left]
  unfold entryK
  have ht := text_encT (key.drop N) (packV ⟨key, val, gone⟩ ++ r) (by rw [List.length_drop]; omega)
  rw [ht]
  dsimp only
  rw [if_neg (fun h => h rfl), hkk, if_neg (by rw [hn]; omega), if_neg (by rw [List.length_drop]; omega), List.drop_left]
  unfold entryV packV
  dsimp only
  cases gone with
  | true =>
    rw [hg rfl, if_pos rfl, count_enc 0 (by omega)]
    dsimp only
    rw [if_neg (fun h => h rfl), if_pos (show ((0 : Nat) : Int) = 0 from rfl)]
    simp only [List.length_append, Nat.add_assoc]
  | false =>
    simp only [Bool.false_eq_true, if_false]
    rw [List.append_assoc, count_enc (val.length + 1) (by omega)]
    dsimp only
    rw [if_neg (fun h => h rfl), if_neg (by omega), if_neg (by omega), List.drop_left, show ((val.length + 1 : Nat) : Int) - 1 = (val.length : Int) by omega]
    have hraw : raw (val ++ r) (val.length : Int) = (val, val.length, 0) := by
      unfold raw
      rw [if_neg (by omega), if_neg (by rw [List.length_append]; omega), Int.toNat_natCast, List.take_left]
    rw [hraw, if_neg (fun h => h rfl)]
    simp only [List.length_append, Nat.add_assoc]
theorem takeE_pack : ∀ (zs xs : List Ent) (k : Nat) (r : List UInt8), chk (pOf xs) zs = 0 → takeE zs.length xs k (packL (lastK xs) zs ++ r) = (xs ++ zs, k + (packL (lastK xs) zs).length, 0)
  | [], xs, k, r, _ => by simp [takeE, packL]
  | z :: zs, xs, k, r, h => by
    rw [chk] at h
    split at h
    · cases h
    · rename_i h1
      split at h
      · cases h
      · rename_i h2
        have h2' : (fit (pOf xs) z.key || (z.gone && decide (z.val ≠ []))) = false := by simpa using h2
        rw [Bool.or_eq_false_iff, gone_val, fit_notUp] at h2'
        have hep := entry_pack (lastK xs) z (by omega) (by omega) h2'.2 (packL z.key zs ++ r)
        have hse : stepE xs (packE (lastK xs) z ++ (packL z.key zs ++ r)) = (z, (packE (lastK xs) z).length, 0) := by
          unfold stepE
          rw [hep, if_neg (fun h => by rw [h2'.1] at h; exact absurd h.2 (by decide))]
        have hpos : 1 ≤ (packE (lastK xs) z).length := by
          have hp := enc_pos 64 (shareN (lastK xs) z.key)
          unfold packE; rw [List.length_append]; omega
        rw [List.length_cons, packL, List.append_assoc, takeE, if_neg (fun h => by have := congrArg List.length h; rw [List.length_append] at this; simp only [List.length_nil] at this; omega), hse, if_pos rfl]
        dsimp only
        have ih := takeE_pack zs (xs ++ [z]) (k + (packE (lastK xs) z).length) r (by rw [pOf_next]; exact h)
        rw [lastK_next] at ih
        rw [List.drop_left, ih, List.append_assoc, List.length_append, Nat.add_assoc]; rfl
theorem openL_pack {xs : List Ent} (h : check xs = 0) : openL (packB xs) = (xs, 0) := by
  have h2 := h
  unfold check at h2
  split at h2
  · cases h2
  · rename_i h1
    have ht : takeLE (packB xs) = (xs, (packB xs).length, 0) := by
      unfold takeLE packB
      rw [count_enc xs.length (by omega)]
      dsimp only
      rw [if_pos rfl, Int.toNat_natCast, List.drop_left]
      have := takeE_pack xs [] (enc 64 xs.length).length [] h2
      rw [List.append_nil] at this
      rw [List.length_append]
      exact this
    unfold openL
    rw [ht]
    dsimp only
    rw [if_neg (fun h => h rfl), if_neg h1, if_neg (by omega)]
theorem take_put (l : List UInt8) : Crc.take (put l) = (l, 0) := by
  have hl : (put l).length = l.length + 4 := by unfold put; rw [List.length_append, four_length]
  have ht : (put l).take ((put l).length - 4) = l := by rw [hl, Nat.add_sub_cancel]; unfold put; rw [List.take_left]
  unfold Crc.take
  rw [if_neg (by omega), ht, if_pos rfl]
theorem openB_pack {xs : List Ent} (h : check xs = 0) : openB (packR xs) = (xs, 0) := by
  unfold openB packR
  rw [if_pos h, take_put]
  dsimp only
  rw [if_neg (fun h => h rfl), openL_pack h]
end Go.Proofs.Ytfjnjnkmkbbjoaa.Blk
