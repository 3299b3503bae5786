/- Records behind one another, cut off anywhere: plain. And a disk with the file 3 alone. -/
import Derived.Test.YtiipibmliffghaaBoxDisk
import Derived.Test.YtiipibmliffghaaBoxSplit
import Derived.Test.YtiipibmliffghaaDskBackFn
namespace Go.Proofs.Ytiipibmliffghaa.Box
open Go Go.RowKit Go.Proofs.Ytiipibmliffghaa.Eng Go.Proofs.Ytiipibmliffghaa.Six Go.Proofs.Ytiipibmliffghaa.CrcFn Go.Proofs.Ytiipibmliffghaa.Crc Go.Proofs.Ytiipibmliffghaa.Dsk
set_option linter.unusedVariables false
def fine (r : Rec) : Prop := r.ok ∧ (packR r).2 = 0
noncomputable abbrev pk (r : Rec) : List UInt8 := (packR r).1
theorem fine_spec {r : Rec} (h : fine r) : packR r = (put (bodyOf r), 0) ∧ r.body.length ≤ 8192 ∧ (r.patch = true ∨ r.base = zeros) := by
  have h2 := h.2
  unfold packR at h2 ⊢
  split at h2
  · cases h2
  · rename_i h3
    split at h2
    · cases h2
    · rename_i h4
      rw [if_neg h3, if_neg h4]
      refine ⟨rfl, by omega, ?_⟩
      cases hp : r.patch
      · right
        by_cases hb : r.base = zeros
        · exact hb
        · exact absurd ⟨hp, hb⟩ h4
      · left; rfl
theorem pk_eq {r : Rec} (h : fine r) : pk r = bodyOf r ++ four (crc (bodyOf r)) := by rw [pk, (fine_spec h).1]; rfl
theorem pk_len {r : Rec} (h : fine r) : (pk r).length = (bodyOf r).length + 4 := by rw [pk_eq h, List.length_append, four_length]
theorem bstep_pk {r : Rec} (h : fine r) (x : List UInt8) : bstep (pk r ++ x) = some (r, (pk r).length) := by
  obtain ⟨h1, h2, h3⟩ := fine_spec h
  have hn : nextR (pk r ++ x) = (r, (bodyOf r).length, 0) := by
    rw [pk_eq h, List.append_assoc]; exact next_body r h.1 h2 h3 _
  have hl := pk_len h
  have ho : openR (pk r) = (r, 0) := open_pack h.1 (by rw [h1, pk, h1])
  unfold bstep
  rw [hn]
  dsimp only
  rw [← hl, List.take_left, ho, if_pos ⟨rfl, by rw [List.length_append]; omega, rfl⟩]
theorem bstep_cut {r : Rec} (h : fine r) {j : Nat} (hj : j < (pk r).length) : bstep ((pk r).take j) = none := by
  obtain ⟨h1, h2, h3⟩ := fine_spec h
  have hl := pk_len h
  unfold bstep
  rw [if_neg]
  rintro ⟨e1, e2, _⟩
  rw [List.length_take, Nat.min_eq_left (by omega)] at e2
  obtain ⟨c1, c2, c3⟩ := nextR_canon e1
  have hok := nextR_ok ((pk r).take j)
  generalize nextR ((pk r).take j) = M at *
  rw [List.take_take, Nat.min_eq_left (by omega)] at c1
  have hpre : (bodyOf r).take M.2.1 = bodyOf M.1 := by
    rw [← c1, pk_eq h, List.take_append_of_le_length (by omega)]
  have hml : (bodyOf M.1).length = M.2.1 := by rw [← hpre, List.length_take]; omega
  have hp3 : M.1.patch = true ∨ M.1.base = zeros := by
    cases hp : M.1.patch
    · right
      by_cases hb : M.1.base = zeros
      · exact hb
      · exact absurd ⟨hp, hb⟩ c3
    · left; rfl
  have n1 := next_body M.1 hok (by omega) hp3 ((bodyOf r).drop M.2.1)
  rw [← hpre, List.take_append_drop] at n1
  have n2 := next_body r h.1 h2 h3 []
  rw [List.append_nil, n1] at n2
  have n3 := congrArg (fun z => z.2.1) n2
  dsimp only at n3
  rw [hpre, hml] at n3
  omega
noncomputable def itemsF : Nat → List Rec → List It
  | _, [] => []
  | k, r :: rs => (r, k, (pk r).length) :: itemsF (k + (pk r).length) rs
noncomputable def PK (rs : List Rec) : List UInt8 := rs.flatMap pk
theorem PK_cons (r : Rec) (rs : List Rec) : PK (r :: rs) = pk r ++ PK rs := List.flatMap_cons ..
theorem PK_app (a b : List Rec) : PK (a ++ b) = PK a ++ PK b := List.flatMap_append ..
theorem items_app : ∀ (a b : List Rec) (k : Nat), itemsF k (a ++ b) = itemsF k a ++ itemsF (k + (PK a).length) b
  | [], b, k => by simp [itemsF, PK]
  | r :: a, b, k => by
    rw [List.cons_append, itemsF, itemsF, items_app a b, PK_cons, List.length_append, List.cons_append, Nat.add_assoc]
theorem items_len : ∀ (a : List Rec) (k : Nat), (itemsF k a).length = a.length
  | [], k => rfl
  | r :: a, k => by rw [itemsF, List.length_cons, List.length_cons, items_len a]
theorem items_get : ∀ (a : List Rec) (k i : Nat) (r : Rec), a[i]? = some r → (itemsF k a)[i]? = some (r, k + (PK (a.take i)).length, (pk r).length)
  | [], k, i, r, h => by simp at h
  | x :: a, k, 0, r, h => by
    have : x = r := by simpa using h
    subst this
    simp [itemsF, PK]
  | x :: a, k, i + 1, r, h => by
    rw [itemsF, List.getElem?_cons_succ, items_get a _ i r (by simpa using h), List.take_succ_cons, PK_cons, List.length_append, Nat.add_assoc]
theorem split_pks : ∀ (xs : List Rec) (m : Nat) (acc : List It) (k : Nat) (x : List UInt8), (∀ r ∈ xs, fine r) → splitB (m + xs.length) acc k (PK xs ++ x) = splitB m (acc ++ itemsF k xs) (k + (PK xs).length) x
  | [], m, acc, k, x, _ => by simp [itemsF, PK]
  | r :: xs, m, acc, k, x, h => by
    rw [List.length_cons, ← Nat.add_assoc, PK_cons, List.append_assoc, splitB, bstep_pk (h r (List.mem_cons_self ..))]
    dsimp only
    rw [List.drop_left, split_pks xs m _ _ x fun y hy => h y (List.mem_cons_of_mem _ hy), itemsF, List.append_assoc, List.length_append, Nat.add_assoc]
    rfl
theorem bstep_nil : bstep [] = none := by
  unfold bstep
  rw [if_neg]
  rintro ⟨_, h, _⟩
  simp at h
/-- What a cut leaves. -/
theorem split_cut {xs : List Rec} (hx : ∀ r ∈ xs, fine r) {i q f : Nat} (hi : i ≤ xs.length) (h1 : (PK (xs.take i)).length ≤ q) (h2 : i < xs.length → q < (PK (xs.take (i + 1))).length) (hq : q ≤ (PK xs).length) (hf : i ≤ f) :
    splitB (f + 1) [] 0 ((PK xs).take q) = (itemsF 0 (xs.take i), (PK (xs.take i)).length) := by
  have e0 : PK xs = PK (xs.take i) ++ PK (xs.drop i) := by rw [← PK_app, List.take_append_drop]
  have hs := split_pks (xs.take i) (f + 1 - i) [] 0 ((PK (xs.drop i)).take (q - (PK (xs.take i)).length)) (fun x hm => hx x (List.mem_of_mem_take hm))
  rw [List.length_take, Nat.min_eq_left hi, show f + 1 - i + i = f + 1 by omega] at hs
  rw [e0, List.take_append, List.take_of_length_le h1, hs, List.nil_append, Nat.zero_add]
  have hno : bstep ((PK (xs.drop i)).take (q - (PK (xs.take i)).length)) = none := by
    by_cases h : i < xs.length
    · have h3 := h2 h
      have et : xs.take (i + 1) = xs.take i ++ [xs[i]] := by rw [List.take_add_one, List.getElem?_eq_getElem h]; rfl
      rw [et, PK_app, List.length_append] at h3
      have e1 : PK [xs[i]] = pk xs[i] := by rw [PK_cons]; simp [PK]
      rw [e1] at h3
      rw [List.drop_eq_getElem_cons h, PK_cons, List.take_append_of_le_length (by omega)]
      exact bstep_cut (hx _ (List.getElem_mem _)) (by omega)
    · rw [List.drop_of_length_le (by omega)]
      show bstep (List.take _ []) = none
      rw [List.take_nil]; exact bstep_nil
  exact splitB_no (by omega) hno
/-- There is such a number. -/
theorem cut_at (xs : List Rec) (q : Nat) : ∃ i, i ≤ xs.length ∧ (PK (xs.take i)).length ≤ q ∧ (i < xs.length → q < (PK (xs.take (i + 1))).length) := by
  have : ∀ m, m ≤ xs.length → ∃ i, i ≤ m ∧ (PK (xs.take i)).length ≤ q ∧ (i < m → q < (PK (xs.take (i + 1))).length) := by
    intro m
    induction m with
    | zero => intro _; exact ⟨0, Nat.le_refl _, by simp [PK], fun h => by omega⟩
    | succ m ih =>
      intro hm
      obtain ⟨i, h1, h2, h3⟩ := ih (by omega)
      by_cases him : i = m
      · subst him
        by_cases hq : (PK (xs.take (i + 1))).length ≤ q
        · exact ⟨i + 1, Nat.le_refl _, hq, fun h => by omega⟩
        · exact ⟨i, by omega, h2, fun _ => by omega⟩
      · exact ⟨i, by omega, h2, fun _ => h3 (by omega)⟩
  exact this _ (Nat.le_refl _)
theorem PK_mono {xs : List Rec} {i j : Nat} (h : i ≤ j) : (PK (xs.take i)).length ≤ (PK (xs.take j)).length := by
  have e : xs.take j = xs.take i ++ (xs.take j).drop i := by
    conv => lhs; rw [← List.take_append_drop i (xs.take j), List.take_take, Nat.min_eq_left h]
  rw [e, PK_app, List.length_append]; omega
theorem PK_next {th : List Rec} {k : Nat} {r : Rec} (h : th[k]? = some r) : (PK (th.take (k + 1))).length = (PK (th.take k)).length + (pk r).length := by
  have et : th.take (k + 1) = th.take k ++ [r] := by rw [List.take_add_one, h]; rfl
  rw [et, PK_app, List.length_append, PK_cons]
  simp [PK]
theorem PK_piece {th : List Rec} {k : Nat} {r : Rec} (h : th[k]? = some r) : ((PK th).drop (PK (th.take k)).length).take (pk r).length = pk r := by
  have hk := (List.getElem?_eq_some_iff.1 h).1
  have e0 : PK th = PK (th.take k) ++ (pk r ++ PK (th.drop (k + 1))) := by
    conv => lhs; rw [← List.take_append_drop k th]
    rw [PK_app, List.drop_eq_getElem_cons hk, PK_cons, (List.getElem?_eq_some_iff.1 h).2]
  rw [e0, List.drop_left, List.take_left]
theorem PK_piece_cut {th : List Rec} {k q : Nat} {r : Rec} (h : th[k]? = some r) (hq : (PK (th.take (k + 1))).length ≤ q) : (((PK th).take q).drop (PK (th.take k)).length).take (pk r).length = pk r := by
  have hn := PK_next h
  rw [List.drop_take, List.take_take, Nat.min_eq_left (by omega)]
  exact PK_piece h
theorem PK_ge : ∀ (th : List Rec), (∀ r ∈ th, fine r) → th.length ≤ (PK th).length
  | [], _ => Nat.zero_le _
  | r :: th, h => by
    have := PK_ge th fun x hx => h x (List.mem_cons_of_mem _ hx)
    have h2 := pk_len (h r (List.mem_cons_self ..))
    rw [PK_cons, List.length_cons, List.length_append]
    omega
theorem open_pk {r : Rec} (h : fine r) : openR (pk r) = (r, 0) := open_pack h.1 (by rw [(fine_spec h).1, pk, (fine_spec h).1])
/-! the disk with the file 3 -/
def kS (t : Nat) (d : List UInt8) (sr st : Int) : DiskS := ⟨[(3, ⟨t, d, sr⟩)], fun q => if q = 0 then 2000 else 2000, fun q => if q = t then (blocksN d.length : Int) else 0, 0, st, -1, false⟩
theorem k_find (t : Nat) (d : List UInt8) (sr st : Int) : findE (kS t d sr st) 3 = 0 := rfl
theorem k_get (t : Nat) (d : List UInt8) (sr st : Int) : (kS t d sr st).get 3 = some ⟨t, d, sr⟩ := rfl
theorem k_make {t : Nat} (ht : t < 2) : makeS (newS 2000 2000) (t : Int) 3 = (kS t [] (-1) 1, 0) := by
  have h1 : findE (newS 2000 2000) 3 = 9 := rfl
  have h2 : stepOk (newS 2000 2000) = true := rfl
  have h4 : (newS 2000 2000).room ((t : Int)).toNat = 2000 := by show (if _ then (2000 : Int) else 2000) = 2000; split <;> rfl
  unfold makeS
  rw [h1, if_neg (by decide), if_neg (by omega), if_neg (by decide), h4, if_neg (by show ¬ ((0 : Int) = 2000); decide), h2, if_pos rfl, Int.toNat_natCast]
  refine Prod.ext ?_ rfl
  show DiskS.mk _ _ _ _ _ _ _ = DiskS.mk _ _ _ _ _ _ _
  congr 1
theorem k_add {t : Nat} {d s : List UInt8} {sr st : Int} (hb : (blocksN (d.length + s.length) : Int) ≤ 2000) : addS (kS t d sr st) 3 s = (kS t (d ++ s) sr (st + 1), 0) := by
  have hro : (kS t d sr st).room t = 2000 := by show (if _ then (2000 : Int) else 2000) = 2000; split <;> rfl
  have hus : (kS t d sr st).used t = (blocksN d.length : Int) := if_pos rfl
  rw [add_yes (k_find ..) (k_get ..), if_neg (show ¬ ((blocksN (d.length + s.length) : Int) - (blocksN d.length : Int) > (kS t d sr st).room t - (kS t d sr st).used t) by rw [hro, hus]; omega)]
  refine Prod.ext ?_ rfl
  show DiskS.mk _ _ _ _ _ _ _ = DiskS.mk _ _ _ _ _ _ _
  congr 1
  refine ext_fun fun q => ?_
  show (if q = t then (kS t d sr st).used t + _ else (if q = t then _ else 0)) = (if q = t then _ else 0)
  rw [hus, List.length_append]
  dsimp only
  split <;> omega
theorem k_sync {t : Nat} {d : List UInt8} {sr st : Int} : syncS (kS t d sr st) 3 = (kS t d d.length (st + 1), 0) := by
  rw [sync_yes (k_find ..) (k_get ..)]
  rfl
theorem k_size {t : Nat} {d : List UInt8} {sr st : Int} : sizeS (kS t d sr st) 3 = ((d.length : Int), (t : Int), 0) := by
  rw [size_yes (k_find ..) (k_get ..)]
theorem k_read {t : Nat} {d : List UInt8} {sr st a z : Int} : readS (kS t d sr st) 3 a z = if a < 0 ∨ z < 0 ∨ (d.length : Int) < a ∨ (d.length : Int) - a < z then ([], 1) else ((d.drop a.toNat).take z.toNat, 0) := by
  rw [read_yes (k_find ..) (k_get ..)]
theorem back_at {S : DiskS} (hn : keysNd S.files) (K : List (Int × Int)) {n : Int} {x : FileS} (hx : S.get n = some x) : (backS S K).get n = backF x (keptF K n) := by
  have hp := mid_perm (K := K) (Lf := fun _ => false) (fget_perm hn hx)
  have hnd := mid_nd (K := K) (Lf := fun _ => false) hn
  show fget (midL K (fun _ => false) S.files) n = _
  rw [fget_inv hnd hp, mid_cons, if_neg (by decide)]
  dsimp only
  have hno : fget (midL K (fun _ => false) (fdel S.files n)) n = none := by
    rw [mid_del, fget_del, if_pos rfl]
  cases hb : backF x (keptF K n) with
  | none => exact hno
  | some y => exact if_pos rfl
end Go.Proofs.Ytiipibmliffghaa.Box
