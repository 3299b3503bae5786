/- Records, plain. -/
import Derived.Test.YtiipibmliffghaaSixFn
import Derived.Test.YtiipibmliffghaaCrcBase
namespace Go.Proofs.Ytiipibmliffghaa.Box
open Go Go.RowKit Go.Proofs.Ytiipibmliffghaa.Eng Go.Proofs.Ytiipibmliffghaa.Six Go.Proofs.Ytiipibmliffghaa.CrcFn Go.Proofs.Ytiipibmliffghaa.Crc
set_option linter.unusedVariables false
structure Rec where
  (key base : List UInt8) (patch : Bool) (body : List UInt8)
def zeros : List UInt8 := List.replicate 32 0
def Rec.zero : Rec := ⟨zeros, zeros, false, []⟩
def Rec.ok (r : Rec) : Prop := r.key.length = 32 ∧ r.base.length = 32
theorem zero_ok : Rec.zero.ok := ⟨by decide, by decide⟩
def recC (r : Rec) : List Value := r.key.map u8V ++ r.base.map u8V ++ [bV r.patch, sV (ofL r.body)]
theorem recC_length {r : Rec} (h : r.ok) : (recC r).length = 66 := by
  unfold recC; rw [List.length_append, List.length_append, List.length_map, List.length_map, h.1, h.2]; rfl
def bodyOf (r : Rec) : List UInt8 := r.key ++ (if r.patch then [65] ++ r.base else [64]) ++ encT r.body
open Classical in
noncomputable def packR (r : Rec) : List UInt8 × Int :=
  if 8192 < r.body.length then ([], 6) else if r.patch = false ∧ r.base ≠ zeros then ([], 1) else (put (bodyOf r), 0)
/-- What stands here, and how many bytes it has; the error. -/
def nextR (l : List UInt8) : Rec × Nat × Int :=
  if l.length < 32 then (.zero, 0, 2) else
  if (count (l.drop 32)).2.2 ≠ 0 then (.zero, 0, (count (l.drop 32)).2.2) else
  if 1 < (count (l.drop 32)).1 then (.zero, 0, 3) else
  if (count (l.drop 32)).1 = 1 then
    if (l.drop (32 + (count (l.drop 32)).2.1)).length < 32 then (.zero, 0, 2) else
    if (text (l.drop (32 + (count (l.drop 32)).2.1 + 32))).2.2 ≠ 0 then (.zero, 0, (text (l.drop (32 + (count (l.drop 32)).2.1 + 32))).2.2) else
    if 8192 < (text (l.drop (32 + (count (l.drop 32)).2.1 + 32))).1.length then (.zero, 0, 6) else
    (⟨l.take 32, (l.drop (32 + (count (l.drop 32)).2.1)).take 32, true, (text (l.drop (32 + (count (l.drop 32)).2.1 + 32))).1⟩, 32 + (count (l.drop 32)).2.1 + 32 + (text (l.drop (32 + (count (l.drop 32)).2.1 + 32))).2.1, 0)
  else
    if (text (l.drop (32 + (count (l.drop 32)).2.1))).2.2 ≠ 0 then (.zero, 0, (text (l.drop (32 + (count (l.drop 32)).2.1))).2.2) else
    if 8192 < (text (l.drop (32 + (count (l.drop 32)).2.1))).1.length then (.zero, 0, 6) else
    (⟨l.take 32, zeros, false, (text (l.drop (32 + (count (l.drop 32)).2.1))).1⟩, 32 + (count (l.drop 32)).2.1 + (text (l.drop (32 + (count (l.drop 32)).2.1))).2.1, 0)
def openR (l : List UInt8) : Rec × Int :=
  if (take l).2 ≠ 0 then (.zero, (take l).2) else
  if (nextR (take l).1).2.2 ≠ 0 then (.zero, (nextR (take l).1).2.2) else
  if (nextR (take l).1).2.1 < (take l).1.length then (.zero, 5) else ((nextR (take l).1).1, 0)
theorem nextR_ok (l : List UInt8) : (nextR l).1.ok := by
  unfold nextR
  split
  · exact zero_ok
  · split
    · exact zero_ok
    · split
      · exact zero_ok
      · split
        · split
          · exact zero_ok
          · split
            · exact zero_ok
            · split
              · exact zero_ok
              · rename_i h1 _ _ _ h2 _ _
                exact ⟨by rw [List.length_take]; omega, by rw [List.length_take]; omega⟩
        · split
          · exact zero_ok
          · split
            · exact zero_ok
            · rename_i h1 _ _ _ _ _
              exact ⟨by rw [List.length_take]; omega, show zeros.length = 32 by decide⟩
theorem openR_ok (l : List UInt8) : (openR l).1.ok := by
  unfold openR
  split
  · exact zero_ok
  · split
    · exact zero_ok
    · split
      · exact zero_ok
      · exact nextR_ok _
theorem enc1 : enc 64 1 = [65] := by unfold enc; rw [show 1 / 64 = 0 by rfl, high_zero]; rfl
theorem enc0 : enc 64 0 = [64] := by unfold enc; rw [show 0 / 64 = 0 by rfl, high_zero]; rfl
theorem nextR_size (l : List UInt8) : (nextR l).2.1 ≤ l.length := by
  have hc := count_size (l.drop 32)
  have ht1 := text_size (l.drop (32 + (count (l.drop 32)).2.1 + 32))
  have ht2 := text_size (l.drop (32 + (count (l.drop 32)).2.1))
  rw [List.length_drop] at hc ht1 ht2
  unfold nextR
  split
  · exact Nat.zero_le _
  · split
    · exact Nat.zero_le _
    · split
      · exact Nat.zero_le _
      · split
        · split
          · exact Nat.zero_le _
          · rename_i h5
            rw [List.length_drop] at h5
            split
            · exact Nat.zero_le _
            · split
              · exact Nat.zero_le _
              · dsimp only; omega
        · split
          · exact Nat.zero_le _
          · split
            · exact Nat.zero_le _
            · dsimp only; omega
/-- What was gone over is the record's form. -/
theorem nextR_canon {l : List UInt8} (h : (nextR l).2.2 = 0) : l.take (nextR l).2.1 = bodyOf (nextR l).1 ∧ ¬ 8192 < (nextR l).1.body.length ∧ ¬ ((nextR l).1.patch = false ∧ (nextR l).1.base ≠ zeros) := by
  have hcc := @count_canon (l.drop 32)
  have hcn := count_nonneg (l.drop 32)
  have ht1 := @text_canon (l.drop (32 + (count (l.drop 32)).2.1 + 32))
  have ht2 := @text_canon (l.drop (32 + (count (l.drop 32)).2.1))
  have cut3 : ∀ a b : Nat, l.take (a + b) = l.take a ++ (l.drop a).take b := fun a b => List.take_add
  unfold nextR at h ⊢
  split
  · rename_i c; rw [if_pos c] at h; cases h
  · rename_i c1
    rw [if_neg c1] at h
    split
    · rename_i c; rw [if_pos c] at h; exact absurd h c
    · rename_i c2
      rw [if_neg c2] at h
      split
      · rename_i c; rw [if_pos c] at h; cases h
      · rename_i c3
        rw [if_neg c3] at h
        have hc0 := hcc (Classical.not_not.1 c2)
        split
        · rename_i c4
          rw [if_pos c4] at h
          split
          · rename_i c; rw [if_pos c] at h; cases h
          · rename_i c5
            rw [if_neg c5] at h
            split
            · rename_i c; rw [if_pos c] at h; exact absurd h c
            · rename_i c6
              rw [if_neg c6] at h
              split
              · rename_i c; rw [if_pos c] at h; cases h
              · rename_i c7
                refine ⟨?_, c7, fun hh => by cases hh.1⟩
                have hT := (ht1 (Classical.not_not.1 c6)).1
                dsimp only
                rw [cut3, cut3, cut3, hc0, c4, hT]
                unfold bodyOf encT
                rw [show (1 : Int).toNat = 1 from rfl, enc1]
                simp
        · rename_i c4
          rw [if_neg c4] at h
          split
          · rename_i c; rw [if_pos c] at h; exact absurd h c
          · rename_i c6
            rw [if_neg c6] at h
            split
            · rename_i c; rw [if_pos c] at h; cases h
            · rename_i c7
              refine ⟨?_, c7, fun hh => hh.2 rfl⟩
              have hT := (ht2 (Classical.not_not.1 c6)).1
              have hz : (count (l.drop 32)).1 = 0 := by omega
              dsimp only
              rw [cut3, cut3, hc0, hz, hT]
              unfold bodyOf encT
              rw [show (0 : Int).toNat = 0 from rfl, enc0]
              simp
/-- What is taken is packed so. -/
theorem pack_open {l : List UInt8} (h : (openR l).2 = 0) : packR (openR l).1 = (l, 0) := by
  unfold openR at *
  split
  · rename_i c; rw [if_pos c] at h; exact absurd h c
  · rename_i c
    rw [if_neg c] at h
    split
    · rename_i c2; rw [if_pos c2] at h; exact absurd h c2
    · rename_i c2
      rw [if_neg c2] at h
      split
      · rename_i c3; rw [if_pos c3] at h; cases h
      · rename_i c3
        obtain ⟨h1, h2, h3⟩ := nextR_canon (Classical.not_not.1 c2)
        have h4 := nextR_size (take l).1
        rw [List.take_of_length_le (by omega)] at h1
        unfold packR
        rw [if_neg h2, if_neg h3, ← h1]
        have hl : put (take l).1 = l := by
          have c := Classical.not_not.1 c
          unfold take at c ⊢
          split
          · rename_i d; rw [if_pos d] at c; cases c
          · rename_i d
            rw [if_neg d] at c
            split
            · rename_i d2; exact d2
            · rename_i d2; rw [if_neg d2] at c; cases c
        rw [hl]
theorem take_put (l : List UInt8) : take (put l) = (l, 0) := by
  have hl : (put l).length = l.length + 4 := by unfold put; rw [List.length_append]; rfl
  have e : (put l).take ((put l).length - 4) = l := by rw [hl, Nat.add_sub_cancel]; unfold put; exact List.take_left
  unfold take
  rw [if_neg (by omega), e, if_pos rfl]
theorem next_body (r : Rec) (h : r.ok) (hb : r.body.length ≤ 8192) (hz : r.patch = true ∨ r.base = zeros) (x : List UInt8) : nextR (bodyOf r ++ x) = (r, (bodyOf r).length, 0) := by
  obtain ⟨k, b, p, t⟩ := r
  obtain ⟨hk, hbl⟩ := h
  dsimp only at hk hbl hb hz
  have htx := text_encT t x (by omega)
  unfold nextR
  cases p with
  | true =>
    have e0 : bodyOf ⟨k, b, true, t⟩ ++ x = k ++ ([65] ++ (b ++ (encT t ++ x))) := by unfold bodyOf; simp
    have d32 : (k ++ ([65] ++ (b ++ (encT t ++ x)))).drop 32 = [65] ++ (b ++ (encT t ++ x)) := by rw [← hk, List.drop_left]
    have hc : count ([65] ++ (b ++ (encT t ++ x))) = (1, 1, 0) := by
      have := count_enc 1 (by decide) (b ++ (encT t ++ x)); rw [enc1] at this; exact this
    have d33 : (k ++ ([65] ++ (b ++ (encT t ++ x)))).drop 33 = b ++ (encT t ++ x) := by
      rw [show 33 = 32 + 1 from rfl, ← List.drop_drop, d32]; rfl
    have d65 : (k ++ ([65] ++ (b ++ (encT t ++ x)))).drop 65 = encT t ++ x := by
      rw [show 65 = 33 + 32 from rfl, ← List.drop_drop, d33, ← hbl, List.drop_left]
    rw [e0, d32, hc, if_neg (by simp [hk]), if_neg (by decide), if_neg (by decide), if_pos rfl]
    dsimp only
    have c1 : ¬ ((k ++ ([65] ++ (b ++ (encT t ++ x)))).drop (32 + 1)).length < 32 := by rw [show 32 + 1 = 33 from rfl, d33]; simp [hbl]
    have c2 : ¬ (text ((k ++ ([65] ++ (b ++ (encT t ++ x)))).drop (32 + 1 + 32))).2.2 ≠ 0 := by rw [show 32 + 1 + 32 = 65 from rfl, d65, htx]; simp
    have c3 : ¬ 8192 < (text ((k ++ ([65] ++ (b ++ (encT t ++ x)))).drop (32 + 1 + 32))).1.length := by rw [show 32 + 1 + 32 = 65 from rfl, d65, htx]; dsimp only; omega
    rw [if_neg c1, if_neg c2, if_neg c3, show 32 + 1 + 32 = 65 from rfl, show 32 + 1 = 33 from rfl, d65, d33, htx]
    have et : (k ++ ([65] ++ (b ++ (encT t ++ x)))).take 32 = k := by rw [← hk, List.take_left]
    have eb : (b ++ (encT t ++ x)).take 32 = b := by rw [← hbl, List.take_left]
    rw [et, eb]
    unfold bodyOf
    simp [hk, hbl]
    omega
  | false =>
    have hb0 : b = zeros := by rcases hz with h | h; cases h; exact h
    subst hb0
    have e0 : bodyOf ⟨k, zeros, false, t⟩ ++ x = k ++ ([64] ++ (encT t ++ x)) := by unfold bodyOf; simp
    have d32 : (k ++ ([64] ++ (encT t ++ x))).drop 32 = [64] ++ (encT t ++ x) := by rw [← hk, List.drop_left]
    have hc : count ([64] ++ (encT t ++ x)) = (0, 1, 0) := by
      have := count_enc 0 (by decide) (encT t ++ x); rw [enc0] at this; exact this
    have d33 : (k ++ ([64] ++ (encT t ++ x))).drop 33 = encT t ++ x := by
      rw [show 33 = 32 + 1 from rfl, ← List.drop_drop, d32]; rfl
    rw [e0, d32, hc, if_neg (by simp [hk]), if_neg (by decide), if_neg (by decide), if_neg (by decide)]
    dsimp only
    have c2 : ¬ (text ((k ++ ([64] ++ (encT t ++ x))).drop (32 + 1))).2.2 ≠ 0 := by rw [show 32 + 1 = 33 from rfl, d33, htx]; simp
    have c3 : ¬ 8192 < (text ((k ++ ([64] ++ (encT t ++ x))).drop (32 + 1))).1.length := by rw [show 32 + 1 = 33 from rfl, d33, htx]; dsimp only; omega
    rw [if_neg c2, if_neg c3, show 32 + 1 = 33 from rfl, d33, htx]
    have et : (k ++ ([64] ++ (encT t ++ x))).take 32 = k := by rw [← hk, List.take_left]
    rw [et]
    unfold bodyOf
    simp [hk]
    omega
theorem open_pack {r : Rec} {l : List UInt8} (h : r.ok) (hp : packR r = (l, 0)) : openR l = (r, 0) := by
  unfold packR at hp
  split at hp
  · cases hp
  · rename_i h1
    split at hp
    · cases hp
    · rename_i h2
      obtain ⟨rfl, _⟩ := Prod.mk.inj hp
      have hz : r.patch = true ∨ r.base = zeros := by
        cases hp' : r.patch with
        | true => exact .inl rfl
        | false => exact .inr (Classical.not_not.1 fun hn => h2 ⟨hp', hn⟩)
      have hn := next_body r h (by omega) hz []
      rw [List.append_nil] at hn
      unfold openR
      rw [take_put, if_neg (fun h => h rfl), hn, if_neg (fun h => h rfl), if_neg (Nat.lt_irrefl _)]
end Go.Proofs.Ytiipibmliffghaa.Box
