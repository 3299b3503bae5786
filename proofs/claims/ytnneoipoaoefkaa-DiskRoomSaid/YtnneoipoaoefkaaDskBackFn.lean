/- The loss of power, plain. -/
import Derived.Test.YtnneoipoaoefkaaDskDrop
import Derived.Test.YtnneoipoaoefkaaDskGood
namespace Go.Proofs.Ytnneoipoaoefkaa.Dsk
open Go Go.Proofs.Ytnneoipoaoefkaa.Eng
set_option linter.unusedVariables false
def keptF : List (Int × Int) → Int → Option Int
  | [], _ => none
  | q :: l, n => if q.1 = n then some q.2 else keptF l n
theorem kept_snoc (l : List (Int × Int)) (q : Int × Int) (n : Int) : keptF (l ++ [q]) n = match keptF l n with | some v => some v | none => if q.1 = n then some q.2 else none := by
  induction l with
  | nil => rfl
  | cons r l ih =>
    rw [List.cons_append, keptF, keptF, ih]
    by_cases h : r.1 = n
    · rw [if_pos h, if_pos h]
    · rw [if_neg h, if_neg h]
def keptP (K : List (Int × Int)) : MapF := fun k => match k with
  | .int .i64 n => (keptF K n).map iV
  | _ => none
theorem keptP_nil : keptP [] = fun _ => none := by funext k; unfold keptP; split <;> rfl
theorem keptP_no {K : List (Int × Int)} {q : Int × Int} (h : (keptF K q.1).isSome = true) : keptP (K ++ [q]) = keptP K := by
  funext k
  unfold keptP
  split
  · rename_i n
    rw [kept_snoc]
    cases hk : keptF K n with
    | some v => rfl
    | none =>
      have : q.1 ≠ n := fun e => by rw [e, hk] at h; cases h
      rw [if_neg this]
  · rfl
theorem keptP_yes {K : List (Int × Int)} {q : Int × Int} (h : keptF K q.1 = none) : keptP (K ++ [q]) = mput (keptP K) (iV q.1) (iV q.2) := by
  funext k
  by_cases hk : k = iV q.1
  · rw [hk, mput_same]
    show (keptF (K ++ [q]) q.1).map iV = _
    rw [kept_snoc, h, if_pos rfl]; rfl
  · rw [mput_other _ _ _ hk]
    unfold keptP
    split
    · rename_i n
      have hne : q.1 ≠ n := fun e => hk (by rw [e])
      rw [kept_snoc, if_neg hne]
      cases keptF K n <;> rfl
    · rfl
def clampB (a b : Int) : Int := if b < (if a < 0 then 0 else a) then b else (if a < 0 then 0 else a)
def sureB (x : FileS) : Int := if x.sure < 0 then 0 else x.sure
def cutB (x : FileS) (k : Option Int) : Nat := (sureB x + clampB (k.getD 0) ((x.data.length : Int) - sureB x)).toNat
def backF (x : FileS) (k : Option Int) : Option FileS := if x.sure < 0 ∧ k = none then none else some ⟨x.tier, x.data.take (cutB x k), (cutB x k : Int)⟩
theorem cut_le {x : FileS} (h : -1 ≤ x.sure ∧ x.sure ≤ (x.data.length : Int)) (k : Option Int) : sureB x ≤ (cutB x k : Int) ∧ cutB x k ≤ x.data.length ∧ (cutB x k : Int) = sureB x + clampB (k.getD 0) ((x.data.length : Int) - sureB x) := by
  unfold cutB
  have h1 : 0 ≤ sureB x ∧ sureB x ≤ (x.data.length : Int) := by unfold sureB; split <;> omega
  have h2 : 0 ≤ clampB (k.getD 0) ((x.data.length : Int) - sureB x) ∧ clampB (k.getD 0) ((x.data.length : Int) - sureB x) ≤ (x.data.length : Int) - sureB x := by
    unfold clampB; split <;> split <;> omega
  omega
def midL (K : List (Int × Int)) (Lf : Value → Bool) (l : List (Int × FileS)) : List (Int × FileS) := l.filterMap fun q => if Lf (iV q.1) = true then some q else (backF q.2 (keptF K q.1)).map fun x => (q.1, x)
theorem mid_all (K : List (Int × Int)) (l : List (Int × FileS)) : midL K (fun _ => true) l = l := by
  unfold midL
  simp
def backL (K : List (Int × Int)) (l : List (Int × FileS)) : List (Int × FileS) := midL K (fun _ => false) l
theorem mid_keys {K : List (Int × Int)} {Lf : Value → Bool} {l : List (Int × FileS)} {q : Int × FileS} (h : q ∈ midL K Lf l) : ∃ x, (q.1, x) ∈ l ∧ (if Lf (iV q.1) = true then q.2 = x else backF x (keptF K q.1) = some q.2) := by
  unfold midL at h
  obtain ⟨r, hr, he⟩ := List.mem_filterMap.1 h
  by_cases hl : Lf (iV r.1) = true
  · rw [if_pos hl] at he
    injection he with he
    subst he
    exact ⟨r.2, hr, by rw [if_pos hl]⟩
  · rw [if_neg hl] at he
    cases hb : backF r.2 (keptF K r.1) with
    | none => rw [hb] at he; cases he
    | some y =>
      rw [hb] at he
      injection he with he
      subst he
      exact ⟨r.2, hr, by rw [if_neg hl]; exact hb⟩
theorem mid_sub (K : List (Int × Int)) (Lf : Value → Bool) (l : List (Int × FileS)) : ((midL K Lf l).map Prod.fst).Sublist (l.map Prod.fst) := by
  induction l with
  | nil => exact List.Sublist.refl _
  | cons q l ih =>
    unfold midL at ih ⊢
    rw [List.filterMap_cons]
    by_cases hl : Lf (iV q.1) = true
    · rw [if_pos hl]
      exact ih.cons_cons _
    · rw [if_neg hl]
      cases backF q.2 (keptF K q.1) with
      | none => exact ih.cons _
      | some y => exact ih.cons_cons _
theorem mid_nd {K : List (Int × Int)} {Lf : Value → Bool} {l : List (Int × FileS)} (h : keysNd l) : keysNd (midL K Lf l) := (mid_sub K Lf l).nodup h
theorem mid_cons (K : List (Int × Int)) (Lf : Value → Bool) (q : Int × FileS) (l : List (Int × FileS)) : midL K Lf (q :: l) = if Lf (iV q.1) = true then q :: midL K Lf l else match backF q.2 (keptF K q.1) with | some y => (q.1, y) :: midL K Lf l | none => midL K Lf l := by
  unfold midL
  rw [List.filterMap_cons]
  by_cases hl : Lf (iV q.1) = true
  · rw [if_pos hl, if_pos hl]
  · rw [if_neg hl, if_neg hl]
    cases backF q.2 (keptF K q.1) <;> rfl
theorem mid_congr {K : List (Int × Int)} {Lf Lg : Value → Bool} {l : List (Int × FileS)} (h : ∀ q ∈ l, Lf (iV q.1) = Lg (iV q.1)) : midL K Lf l = midL K Lg l := by
  induction l with
  | nil => rfl
  | cons q l ih => rw [mid_cons, mid_cons, h q (List.mem_cons_self ..), ih fun r hr => h r (List.mem_cons_of_mem _ hr)]
theorem mid_perm {K : List (Int × Int)} {Lf : Value → Bool} {l l' : List (Int × FileS)} (h : l.Perm l') : (midL K Lf l).Perm (midL K Lf l') := h.filterMap _
theorem mid_del {K : List (Int × Int)} {Lf : Value → Bool} {n : Int} (l : List (Int × FileS)) : midL K Lf (fdel l n) = fdel (midL K Lf l) n := by
  induction l with
  | nil => rfl
  | cons q l ih =>
    unfold fdel midL at *
    by_cases h : q.1 = n
    · rw [List.filter_cons_of_neg (by simp [h]), ih, List.filterMap_cons]
      by_cases hl : Lf (iV q.1) = true
      · rw [if_pos hl]
        show _ = List.filter _ (q :: _)
        rw [List.filter_cons_of_neg (by simp [h])]
      · rw [if_neg hl]
        cases backF q.2 (keptF K q.1) with
        | none => rfl
        | some y => show _ = List.filter _ ((q.1, y) :: _); rw [List.filter_cons_of_neg (by simp [h])]
    · rw [List.filter_cons_of_pos (by simp [h]), List.filterMap_cons, List.filterMap_cons, ih]
      by_cases hl : Lf (iV q.1) = true
      · rw [if_pos hl]
        show _ = List.filter _ (q :: _)
        rw [List.filter_cons_of_pos (by simp [h])]
      · rw [if_neg hl]
        cases backF q.2 (keptF K q.1) with
        | none => rfl
        | some y => show _ = List.filter _ ((q.1, y) :: _); rw [List.filter_cons_of_pos (by simp [h])]; rfl
theorem fget_inv {l l' : List (Int × FileS)} (hn : keysNd l) (h : l.Perm l') (n : Int) : fget l n = fget l' n := by
  have hn' : keysNd l' := (h.map Prod.fst).nodup_iff.1 hn
  cases hx : fget l n with
  | some x => exact (fget_of hn' (h.mem_iff.1 (fget_mem hx))).symm
  | none =>
    cases hy : fget l' n with
    | none => rfl
    | some y =>
      have := fget_of hn (h.mem_iff.2 (fget_mem hy))
      rw [hx] at this
      cases this
theorem mapF_inv {l l' : List (Int × FileS)} {p : Int → Nat} (hn : keysNd l) (h : l.Perm l') : mapF l p = mapF l' p := by
  funext k
  unfold mapF
  split
  · rw [fget_inv hn h]
  · rfl
/-- One file stepped over. -/
theorem mid_step {K : List (Int × Int)} {Lf Lg : Value → Bool} {l : List (Int × FileS)} (hn : keysNd l) {n : Int} {x : FileS} (hL : Lf (iV n) = true) (hg : Lg (iV n) = false) (ho : ∀ m, m ≠ n → Lg (iV m) = Lf (iV m)) (hx : fget (midL K Lf l) n = some x) :
    fget l n = some x ∧ (midL K Lg l).Perm (match backF x (keptF K n) with | some y => (n, y) :: fdel (midL K Lf l) n | none => fdel (midL K Lf l) n) := by
  obtain ⟨y, hy, he⟩ := mid_keys (fget_mem hx)
  dsimp only at hy he
  rw [if_pos hL] at he
  subst he
  have hl := fget_of hn hy
  refine ⟨hl, ?_⟩
  have h1 := mid_perm (K := K) (Lf := Lg) (fget_perm hn hl)
  refine h1.trans ?_
  rw [← mid_del]
  have h2 : midL K Lg (fdel l n) = midL K Lf (fdel l n) := mid_congr fun q hq => ho q.1 (del_ne q hq)
  rw [← h2]
  unfold midL
  rw [List.filterMap_cons, if_neg (by rw [hg]; decide)]
  cases backF x (keptF K n) with
  | none => exact List.Perm.refl _
  | some y => exact List.Perm.refl _
def usedOf (l : List (Int × FileS)) : Nat → Int := fun t => (sumT t l : Int)
def withF (S : DiskS) (l : List (Int × FileS)) : DiskS := { S with files := l, used := usedOf l }
def backS (S : DiskS) (K : List (Int × Int)) : DiskS := { S with files := backL K S.files, used := usedOf (backL K S.files), fuse := -1, down := false }
theorem sumT_cut {t : Nat} {l : List (Int × FileS)} {n : Int} {x : FileS} (hn : keysNd l) (hx : fget l n = some x) : (if t = x.tier then usedOf l x.tier - (blocksN x.data.length : Int) else usedOf l t) = usedOf (fdel l n) t := by
  unfold usedOf
  by_cases h : t = x.tier
  · rw [if_pos h, h, sumT_get hn hx, if_pos rfl]; omega
  · rw [if_neg h, sumT_get hn hx, if_neg (fun e => h e.symm)]; omega
theorem usedOf_inv {l l' : List (Int × FileS)} (h : l.Perm l') : usedOf l = usedOf l' := by funext t; unfold usedOf; rw [sumT_perm h]
theorem usedOf_cons (q : Int × FileS) (l : List (Int × FileS)) (t : Nat) : usedOf (q :: l) t = if t = q.2.tier then usedOf l q.2.tier + (blocksN q.2.data.length : Int) else usedOf l t := by
  unfold usedOf sumT
  rw [List.map_cons, List.sum_cons]
  by_cases h : t = q.2.tier
  · rw [if_pos h, if_pos h.symm, h]; omega
  · rw [if_neg h, if_neg (fun e => h e.symm)]; omega
theorem back_some {x y : FileS} {k : Option Int} (h : backF x k = some y) : y = ⟨x.tier, x.data.take (cutB x k), (cutB x k : Int)⟩ ∧ ¬ (x.sure < 0 ∧ k = none) := by
  unfold backF at h
  split at h
  · cases h
  · rename_i hh; injection h with h; exact ⟨h.symm, hh⟩
theorem sumT_cons (t : Nat) (q : Int × FileS) (l : List (Int × FileS)) : sumT t (q :: l) = (if q.2.tier = t then blocksN q.2.data.length else 0) + sumT t l := by
  unfold sumT; rw [List.map_cons, List.sum_cons]
theorem mid_sum {K : List (Int × Int)} {Lf : Value → Bool} (t : Nat) : ∀ (l : List (Int × FileS)), sumT t (midL K Lf l) ≤ sumT t l
  | [] => Nat.le_refl _
  | q :: l => by
    have ih := mid_sum (K := K) (Lf := Lf) t l
    rw [mid_cons, sumT_cons]
    split
    · rw [sumT_cons]; omega
    · split
      · rename_i y hb
        obtain ⟨rfl, _⟩ := back_some hb
        rw [sumT_cons]
        dsimp only
        have : blocksN (q.2.data.take (cutB q.2 (keptF K q.1))).length ≤ blocksN q.2.data.length := by unfold blocksN; rw [List.length_take]; omega
        split <;> omega
      · omega
theorem good_back {S : DiskS} (h : GoodS S) (K : List (Int × Int)) : GoodS (backS S K) := by
  refine ⟨mid_nd (K := K) (Lf := fun _ => false) h.nd, fun q hq => ?_, fun t ht => rfl, fun t ht => ?_, fun q hq => ?_, fun q hq => ?_, by show (-1 : Int) ≤ -1 ∧ (-1 : Int) ≤ _; omega, h.steps⟩
  · obtain ⟨x, hx, he⟩ := mid_keys (K := K) (Lf := fun _ => false) (l := S.files) hq
    rw [if_neg (by decide)] at he
    rw [(back_some he).1]
    exact h.tier _ hx
  · have h1 := mid_sum (K := K) (Lf := fun _ => false) t S.files
    have h2 := h.sum t ht
    have h3 := h.le t ht
    refine ⟨?_, h3.2⟩
    show ((sumT t (backL K S.files) : Nat) : Int) ≤ S.room t
    unfold backL
    omega
  · obtain ⟨x, hx, he⟩ := mid_keys (K := K) (Lf := fun _ => false) (l := S.files) hq
    rw [if_neg (by decide)] at he
    have hs := h.sure _ hx
    have hc := cut_le hs (keptF K q.1)
    rw [(back_some he).1]
    dsimp only at *
    rw [List.length_take]
    omega
  · obtain ⟨x, hx, he⟩ := mid_keys (K := K) (Lf := fun _ => false) (l := S.files) hq
    exact h.key (q.1, x) hx
end Go.Proofs.Ytnneoipoaoefkaa.Dsk
