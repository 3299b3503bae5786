/- Digits and keys, plain. -/
import Derived.Test.YtcnljmbjhdfblaaDoorShaAwake
namespace Go.Proofs.YtcnljmbjhdfblaaDoor.Sha
open Go Go.RowKit Go.Proofs.YtcnljmbjhdfblaaDoor.Eng
set_option linter.unusedVariables false
set_option maxRecDepth 100000
def digF (c : UInt8) : UInt8 := if 48 ≤ c ∧ c ≤ 57 then c - 48 else if 97 ≤ c ∧ c ≤ 102 then c - 87 else 16
theorem u8_all {p : UInt8 → Bool} (h : (List.range 256).all (fun n => p (UInt8.ofNat n)) = true) (c : UInt8) : p c = true := by
  have := List.all_eq_true.1 h c.toNat (List.mem_range.2 c.toNat_lt)
  rwa [UInt8.ofNat_toNat] at this
theorem digF_ok (c : UInt8) (h : digF c ≠ 16) : digs.getD (digF c).toNat 0 = c ∧ (digF c).toNat < 16 := by
  have := u8_all (p := fun c => decide (digF c ≠ 16 → digs.getD (digF c).toNat 0 = c ∧ (digF c).toNat < 16)) (by decide +kernel) c
  exact of_decide_eq_true this h
theorem digF_digs (r : UInt8) (h : r.toNat < 16) : digF (digs.getD r.toNat 0) = r := by
  have := u8_all (p := fun r => decide (r.toNat < 16 → digF (digs.getD r.toNat 0) = r)) (by decide +kernel) r
  exact of_decide_eq_true this h
theorem isDig_digF {c : UInt8} {r : Nat} (h : isDig c r) : UInt8.ofNat r = digF c := by
  obtain ⟨h1, h2, h3⟩ := h
  by_cases hr : r < 16
  · have := digF_digs (UInt8.ofNat r) (by rw [UInt8.toNat_ofNat']; omega)
    rw [UInt8.toNat_ofNat', Nat.mod_eq_of_lt (by omega), h3 hr] at this
    exact this.symm
  · obtain rfl : r = 16 := by omega
    by_cases hd : digF c = 16
    · rw [hd]; rfl
    · exact absurd (digF_ok c hd).1 (h2 _ (digF_ok c hd).2)
theorem put4 (x d : UInt8) (h : d.toNat < 16) : x <<< 4 ||| d = 16 * x + d := by
  have := List.all_eq_true.1 (u8_all (p := fun x => (List.range 16).all fun d => decide (x <<< 4 ||| UInt8.ofNat d = 16 * x + UInt8.ofNat d)) (by decide +kernel) x) d.toNat (List.mem_range.2 h)
  rw [UInt8.ofNat_toNat] at this
  exact of_decide_eq_true this
theorem cut4 (x y : UInt8) (hx : x.toNat < 16) (hy : y.toNat < 16) : (16 * x + y) / 16 = x ∧ (16 * x + y) % 16 = y := by
  constructor <;> apply UInt8.toNat_inj.1
  · rw [UInt8.toNat_div, UInt8.toNat_add, UInt8.toNat_mul]
    show (16 * x.toNat % 256 + y.toNat) % 256 / 16 = _
    omega
  · rw [UInt8.toNat_mod, UInt8.toNat_add, UInt8.toNat_mul]
    show (16 * x.toNat % 256 + y.toNat) % 256 % 16 = _
    omega
theorem join4 (c : UInt8) : 16 * (c / 16) + c % 16 = c := by
  have := u8_all (p := fun c => decide (16 * (c / 16) + c % 16 = c)) (by decide +kernel) c
  exact of_decide_eq_true this
def d4 (l : List UInt8) (i : Nat) : UInt8 := digF (l.getD i 0)
def pkAt (l : List UInt8) (i j : Nat) : UInt8 := if 2 * j + 1 < i then 16 * d4 l (2 * j) + d4 l (2 * j + 1) else if 2 * j < i then d4 l (2 * j) else 0
def pk (l : List UInt8) (i : Nat) : List UInt8 := (List.range 32).map (pkAt l i)
theorem pk_length (l : List UInt8) (i : Nat) : (pk l i).length = 32 := by simp [pk]
theorem pk_get (l : List UInt8) (i j : Nat) (h : j < 32) : (pk l i).getD j 0 = pkAt l i j := by
  unfold pk
  rw [List.getD_eq_getElem?_getD, List.getElem?_map, List.getElem?_range h]; rfl
theorem pk_getElem (l : List UInt8) (i j : Nat) (h : j < (pk l i).length) : (pk l i)[j]'h = pkAt l i j := by simp [pk]
theorem pk_zero (l : List UInt8) : pk l 0 = List.replicate 32 0 := by
  apply List.ext_getElem (by simp [pk])
  intro j h1 h2
  rw [pk_getElem, List.getElem_replicate]
  unfold pkAt
  rw [if_neg (by omega), if_neg (by omega)]
theorem pk_next (l : List UInt8) (i : Nat) (h : i < 64) : (pk l i).set (i / 2) (16 * (pk l i).getD (i / 2) 0 + d4 l i) = pk l (i + 1) := by
  rw [pk_get l i _ (by omega)]
  apply List.ext_getElem (by simp [pk])
  intro j h1 h2
  rw [List.getElem_set]
  have hj : j < 32 := by rw [pk_length] at h2; exact h2
  rw [pk_getElem, pk_getElem]
  split
  · rename_i hij
    unfold pkAt
    subst hij
    rcases (by omega : i % 2 = 0 ∨ i % 2 = 1) with hm | hm
    · rw [if_neg (by omega), if_neg (by omega), if_neg (by omega), if_pos (by omega), show 2 * (i / 2) = i by omega]
      simp
    · rw [if_neg (by omega), if_pos (by omega), if_pos (by omega), show 2 * (i / 2) + 1 = i by omega]
  · rename_i hij
    unfold pkAt
    by_cases ha : 2 * j + 1 < i
    · rw [if_pos ha, if_pos (by omega)]
    · have hb : ¬ 2 * j < i := by omega
      rw [if_neg ha, if_neg hb, if_neg (by omega), if_neg (by omega)]
theorem hexOf_cons (c : UInt8) (k : List UInt8) : hexOf (c :: k) = digs.getD (c / 16).toNat 0 :: digs.getD (c % 16).toNat 0 :: hexOf k := rfl
theorem hexOf_get (k : List UInt8) : ∀ j, j < k.length → (hexOf k).getD (2 * j) 0 = digs.getD (k.getD j 0 / 16).toNat 0 ∧ (hexOf k).getD (2 * j + 1) 0 = digs.getD (k.getD j 0 % 16).toNat 0 := by
  induction k with
  | nil => intro j h; cases h
  | cons c k ih =>
    intro j h
    rw [hexOf_cons]
    cases j with
    | zero => exact ⟨rfl, rfl⟩
    | succ j => exact ih j (by simpa using h)
def good (l : List UInt8) : Prop := ∀ i, i < 64 → d4 l i ≠ 16
theorem pk_hex (k : List UInt8) (hk : k.length = 32) : good (hexOf k) ∧ pk (hexOf k) 64 = k := by
  have hd : ∀ j, j < 32 → d4 (hexOf k) (2 * j) = k.getD j 0 / 16 ∧ d4 (hexOf k) (2 * j + 1) = k.getD j 0 % 16 := by
    intro j hj
    obtain ⟨h1, h2⟩ := hexOf_get k j (by omega)
    unfold d4
    rw [h1, h2]
    exact ⟨digF_digs _ (hi4 _).2, digF_digs _ (lo4 _).2⟩
  constructor
  · intro i hi he
    have hx := (hi4 (k.getD (i / 2) 0)).2
    have hy := (lo4 (k.getD (i / 2) 0)).2
    obtain ⟨h1, h2⟩ := hd (i / 2) (by omega)
    rcases (by omega : i % 2 = 0 ∨ i % 2 = 1) with hm | hm
    · rw [show 2 * (i / 2) = i by omega] at h1
      rw [← h1, he] at hx; exact absurd hx (by decide)
    · rw [show 2 * (i / 2) + 1 = i by omega] at h2
      rw [← h2, he] at hy; exact absurd hy (by decide)
  · apply List.ext_getElem (by rw [pk_length, hk])
    intro j h1 h2
    have hj : j < 32 := by rw [pk_length] at h1; exact h1
    obtain ⟨h3, h4⟩ := hd j hj
    rw [pk_getElem]
    unfold pkAt
    rw [if_pos (by omega), h3, h4, join4, List.getD_eq_getElem?_getD, List.getElem?_eq_getElem h2]; rfl
theorem hex_pk (l : List UInt8) (hl : l.length = 64) (h : good l) : hexOf (pk l 64) = l := by
  apply List.ext_getElem (by rw [hex_len, pk_length, hl])
  intro i h1 h2
  have hi : i < 64 := by omega
  have ok : ∀ i, i < 64 → digs.getD (d4 l i).toNat 0 = l.getD i 0 ∧ (d4 l i).toNat < 16 := fun i hi => digF_ok _ (h i hi)
  obtain ⟨g1, g2⟩ := hexOf_get (pk l 64) (i / 2) (by rw [pk_length]; omega)
  rw [pk_get l 64 _ (by omega)] at g1 g2
  unfold pkAt at g1 g2
  rw [if_pos (by omega)] at g1 g2
  obtain ⟨c1, c2⟩ := cut4 _ _ (ok (2 * (i / 2)) (by omega)).2 (ok (2 * (i / 2) + 1) (by omega)).2
  rw [c1, (ok (2 * (i / 2)) (by omega)).1] at g1
  rw [c2, (ok (2 * (i / 2) + 1) (by omega)).1] at g2
  have e : (hexOf (pk l 64)).getD i 0 = l.getD i 0 := by
    rcases (by omega : i % 2 = 0 ∨ i % 2 = 1) with hm | hm
    · rwa [show 2 * (i / 2) = i by omega] at g1
    · rwa [show 2 * (i / 2) + 1 = i by omega] at g2
  rwa [List.getD_eq_getElem?_getD, List.getD_eq_getElem?_getD, List.getElem?_eq_getElem h1, List.getElem?_eq_getElem h2] at e
open Classical in
/-- What Parse answers: the key, and whether it is one. -/
noncomputable def parsed (l : List UInt8) : List UInt8 × Bool := if l.length = 64 ∧ good l then (pk l 64, true) else (List.replicate 32 0, false)
theorem parsed_yes {l : List UInt8} (h1 : l.length = 64) (h2 : good l) : parsed l = (pk l 64, true) := if_pos ⟨h1, h2⟩
theorem parsed_len {l : List UInt8} (h : l.length ≠ 64) : parsed l = (List.replicate 32 0, false) := if_neg (fun h' => h h'.1)
theorem parsed_no {l : List UInt8} {i : Nat} (hi : i < 64) (h : d4 l i = 16) : parsed l = (List.replicate 32 0, false) := if_neg (fun h' => h'.2 i hi h)
theorem parsed_length (l : List UInt8) : (parsed l).1.length = 32 := by
  unfold parsed
  split
  · exact pk_length _ _
  · simp
end Go.Proofs.YtcnljmbjhdfblaaDoor.Sha
