/- The disk, plain: files, what each call makes of it and answers. -/
import Derived.Test.YtnneoipoaoefkaaMap
namespace Go.Proofs.Ytnneoipoaoefkaa.Dsk
open Go Go.Proofs.Ytnneoipoaoefkaa.Eng
set_option linter.unusedVariables false
structure FileS where
  tier : Nat
  data : List UInt8
  sure : Int
structure DiskS where
  files : List (Int × FileS)
  room : Nat → Int
  used : Nat → Int
  root : Int
  steps : Int
  fuse : Int
  down : Bool
def fget : List (Int × FileS) → Int → Option FileS
  | [], _ => none
  | q :: l, n => if q.1 = n then some q.2 else fget l n
def fdel (l : List (Int × FileS)) (n : Int) : List (Int × FileS) := l.filter fun q => decide (q.1 ≠ n)
def fput (l : List (Int × FileS)) (n : Int) (x : FileS) : List (Int × FileS) := (n, x) :: fdel l n
def DiskS.get (S : DiskS) (n : Int) : Option FileS := fget S.files n
def blocksN (n : Nat) : Nat := 1 + (n + 63) / 64
def sumT (t : Nat) (l : List (Int × FileS)) : Nat := (l.map fun q => if q.2.tier = t then blocksN q.2.data.length else 0).sum
theorem fget_mem {l : List (Int × FileS)} {n : Int} {x : FileS} (h : fget l n = some x) : (n, x) ∈ l := by
  induction l with
  | nil => cases h
  | cons q l ih =>
    unfold fget at h
    split at h
    · rename_i e; injection h with h; subst e h; exact List.mem_cons_self ..
    · exact List.mem_cons_of_mem _ (ih h)
theorem fget_none {l : List (Int × FileS)} {n : Int} (h : fget l n = none) : ∀ q ∈ l, q.1 ≠ n := by
  induction l with
  | nil => intro q hq; cases hq
  | cons q l ih =>
    unfold fget at h
    split at h
    · cases h
    · rename_i e
      intro r hr
      rcases List.mem_cons.1 hr with rfl | hr
      · exact e
      · exact ih h r hr
theorem fdel_same {l : List (Int × FileS)} {n : Int} (h : ∀ q ∈ l, q.1 ≠ n) : fdel l n = l := List.filter_eq_self.2 fun q hq => decide_eq_true (h q hq)
theorem fget_del (l : List (Int × FileS)) (n m : Int) : fget (fdel l n) m = if m = n then none else fget l m := by
  induction l with
  | nil => simp [fdel, fget]
  | cons q l ih =>
    unfold fdel at *
    by_cases h : q.1 = n
    · rw [List.filter_cons_of_neg (by simp [h]), ih]
      by_cases hm : m = n
      · rw [if_pos hm, if_pos hm]
      · rw [if_neg hm, if_neg hm, fget, if_neg (fun e => hm (by omega))]
    · rw [List.filter_cons_of_pos (by simp [h]), fget, fget, ih]
      by_cases hq : q.1 = m
      · rw [if_pos hq, if_pos hq, if_neg (fun e => h (by omega))]
      · rw [if_neg hq, if_neg hq]
theorem fget_put (l : List (Int × FileS)) (n m : Int) (x : FileS) : fget (fput l n x) m = if m = n then some x else fget l m := by
  unfold fput
  rw [fget, fget_del]
  by_cases h : m = n
  · rw [if_pos h.symm, if_pos h]
  · rw [if_neg (fun e => h e.symm), if_neg h, if_neg h]
abbrev keysNd (l : List (Int × FileS)) : Prop := (l.map Prod.fst).Nodup
theorem fget_of {l : List (Int × FileS)} (hn : keysNd l) {q : Int × FileS} (h : q ∈ l) : fget l q.1 = some q.2 := by
  induction l with
  | nil => cases h
  | cons r l ih =>
    have h' := List.nodup_cons.1 hn
    unfold fget
    rcases List.mem_cons.1 h with rfl | h
    · rw [if_pos rfl]
    · rw [if_neg, ih h'.2 h]
      intro e
      exact h'.1 (by rw [e]; exact List.mem_map_of_mem h)
theorem fget_perm {l : List (Int × FileS)} (hn : keysNd l) {n : Int} {x : FileS} (h : fget l n = some x) : l.Perm ((n, x) :: fdel l n) := by
  induction l with
  | nil => cases h
  | cons q l ih =>
    have h' := List.nodup_cons.1 hn
    unfold fget at h
    split at h
    · rename_i e
      injection h with h
      subst e h
      have hne : ∀ r ∈ l, r.1 ≠ q.1 := fun r hr e => h'.1 (by rw [← e]; exact List.mem_map_of_mem hr)
      unfold fdel
      rw [List.filter_cons_of_neg (by simp)]
      have := fdel_same hne
      unfold fdel at this
      rw [this]
    · rename_i e
      unfold fdel
      rw [List.filter_cons_of_pos (by simp [e])]
      exact (List.Perm.cons q (ih h'.2 h)).trans (List.Perm.swap _ _ _)
theorem nd_del {l : List (Int × FileS)} (hn : keysNd l) (n : Int) : keysNd (fdel l n) := (List.filter_sublist.map _).nodup hn
theorem del_ne {l : List (Int × FileS)} {n : Int} : ∀ q ∈ fdel l n, q.1 ≠ n := fun q hq => of_decide_eq_true (List.mem_filter.1 hq).2
theorem del_sub {l : List (Int × FileS)} {n : Int} : ∀ q ∈ fdel l n, q ∈ l := fun q hq => (List.mem_filter.1 hq).1
theorem nd_put {l : List (Int × FileS)} (hn : keysNd l) (n : Int) (x : FileS) : keysNd (fput l n x) := by
  refine List.nodup_cons.2 ⟨fun h => ?_, nd_del hn n⟩
  obtain ⟨q, hq, e⟩ := List.mem_map.1 h
  exact del_ne q hq e
theorem sumT_perm {t : Nat} {l l' : List (Int × FileS)} (h : l.Perm l') : sumT t l = sumT t l' := (h.map _).sum_nat
theorem sumT_get {t : Nat} {l : List (Int × FileS)} (hn : keysNd l) {n : Int} {x : FileS} (h : fget l n = some x) : sumT t l = (if x.tier = t then blocksN x.data.length else 0) + sumT t (fdel l n) := by
  rw [sumT_perm (fget_perm hn h)]; unfold sumT; rw [List.map_cons, List.sum_cons]
theorem sumT_put (t : Nat) (l : List (Int × FileS)) (n : Int) (x : FileS) : sumT t (fput l n x) = (if x.tier = t then blocksN x.data.length else 0) + sumT t (fdel l n) := by
  unfold sumT fput; rw [List.map_cons, List.sum_cons]
structure GoodS (S : DiskS) : Prop where
  nd : keysNd S.files
  tier : ∀ q ∈ S.files, q.2.tier < 2
  sum : ∀ t, t < 2 → S.used t = (sumT t S.files : Int)
  le : ∀ t, t < 2 → S.used t ≤ S.room t ∧ S.room t ≤ 1048576
  sure : ∀ q ∈ S.files, -1 ≤ q.2.sure ∧ q.2.sure ≤ (q.2.data.length : Int)
  key : ∀ q ∈ S.files, 1 ≤ q.1
  fuse : -1 ≤ S.fuse ∧ S.fuse ≤ 9223372036854775807
  steps : 0 ≤ S.steps
theorem GoodS.size {S : DiskS} (h : GoodS S) {n : Int} {x : FileS} (hx : S.get n = some x) : x.data.length ≤ 67108864 ∧ x.tier < 2 ∧ blocksN x.data.length ≤ 1048576 ∧ -1 ≤ x.sure ∧ x.sure ≤ (x.data.length : Int) ∧ (blocksN x.data.length : Int) ≤ S.used x.tier := by
  have hm := fget_mem hx
  have ht := h.tier _ hm
  have h1 := h.sum x.tier ht
  have h2 := h.le x.tier ht
  have h3 := sumT_get (t := x.tier) h.nd hx
  rw [if_pos rfl] at h3
  have h4 := h.sure _ hm
  have h5 : x.data.length ≤ 64 * (blocksN x.data.length) := by unfold blocksN; omega
  refine ⟨by omega, ht, by omega, h4.1, h4.2, by omega⟩
def newS (hot cold : Int) : DiskS := ⟨[], fun t => if t = 0 then hot else cold, fun _ => 0, 0, 0, -1, false⟩
def stepS (S : DiskS) : DiskS := if S.fuse = 0 then { S with down := true } else { S with fuse := if 0 < S.fuse then S.fuse - 1 else S.fuse, steps := S.steps + 1 }
def stepOk (S : DiskS) : Bool := decide (S.fuse ≠ 0)
def findE (S : DiskS) (n : Int) : Int := if S.down = true then 8 else if (S.get n).isSome = true then 0 else 9
def setUsed (S : DiskS) (t : Nat) (v : Int) : DiskS := { S with used := fun q => if q = t then v else S.used q }
def setFiles (S : DiskS) (l : List (Int × FileS)) : DiskS := { S with files := l }
def makeS (S : DiskS) (t : Int) (n : Int) : DiskS × Int :=
  if findE S n = 8 then (S, 8) else if (t ≠ 0 ∧ t ≠ 1) ∨ n < 1 then (S, 1) else if findE S n = 0 then (S, 10) else if S.used t.toNat = S.room t.toNat then (S, 7) else
  if stepOk S = true then (setUsed (setFiles (stepS S) (fput S.files n ⟨t.toNat, [], -1⟩)) t.toNat (S.used t.toNat + 1), 0) else (stepS S, 8)
def addF (S : DiskS) (n : Int) (x : FileS) (s : List UInt8) : DiskS := setUsed (setFiles S (fput S.files n ⟨x.tier, x.data ++ s, x.sure⟩)) x.tier (S.used x.tier + ((blocksN (x.data.length + s.length) : Int) - (blocksN x.data.length : Int)))
def addS (S : DiskS) (n : Int) (s : List UInt8) : DiskS × Int :=
  match S.get n with
  | none => (S, findE S n)
  | some x => if findE S n ≠ 0 then (S, findE S n) else
    if (blocksN (x.data.length + s.length) : Int) - (blocksN x.data.length : Int) > S.room x.tier - S.used x.tier then (S, 7) else
    (stepS (addF S n x s), if stepOk S = true then 0 else 8)
def syncS (S : DiskS) (n : Int) : DiskS × Int :=
  match S.get n with
  | none => (S, findE S n)
  | some x => if findE S n ≠ 0 then (S, findE S n) else if stepOk S = true then (setFiles (stepS S) (fput S.files n ⟨x.tier, x.data, x.data.length⟩), 0) else (stepS S, 8)
def sizeS (S : DiskS) (n : Int) : Int × Int × Int :=
  match S.get n with
  | none => (0, 0, findE S n)
  | some x => if findE S n ≠ 0 then (0, 0, findE S n) else ((x.data.length : Int), (x.tier : Int), 0)
def readS (S : DiskS) (n at_ size : Int) : List UInt8 × Int :=
  match S.get n with
  | none => ([], findE S n)
  | some x => if findE S n ≠ 0 then ([], findE S n) else if at_ < 0 ∨ size < 0 ∨ (x.data.length : Int) < at_ ∨ (x.data.length : Int) - at_ < size then ([], 1) else ((x.data.drop at_.toNat).take size.toNat, 0)
theorem find_zero {S : DiskS} {n : Int} (h : findE S n = 0) : S.down = false ∧ ∃ x, S.get n = some x := by
  unfold findE at h
  split at h
  · cases h
  · rename_i hd
    refine ⟨by simpa using hd, ?_⟩
    cases hx : S.get n with
    | none => rw [hx] at h; cases h
    | some x => exact ⟨x, rfl⟩
theorem size_no {S : DiskS} {n : Int} (h : findE S n ≠ 0) : sizeS S n = (0, 0, findE S n) := by unfold sizeS; cases S.get n with
  | none => rfl
  | some x => exact if_pos h
theorem size_yes {S : DiskS} {n : Int} {x : FileS} (h : findE S n = 0) (hx : S.get n = some x) : sizeS S n = ((x.data.length : Int), (x.tier : Int), 0) := by unfold sizeS; rw [hx]; exact if_neg (fun h' => h' h)
theorem read_no {S : DiskS} {n a z : Int} (h : findE S n ≠ 0) : readS S n a z = ([], findE S n) := by unfold readS; cases S.get n with
  | none => rfl
  | some x => exact if_pos h
theorem read_yes {S : DiskS} {n a z : Int} {x : FileS} (h : findE S n = 0) (hx : S.get n = some x) : readS S n a z = if a < 0 ∨ z < 0 ∨ (x.data.length : Int) < a ∨ (x.data.length : Int) - a < z then ([], 1) else ((x.data.drop a.toNat).take z.toNat, 0) := by unfold readS; rw [hx]; exact if_neg (fun h' => h' h)
theorem add_no {S : DiskS} {n : Int} {s : List UInt8} (h : findE S n ≠ 0) : addS S n s = (S, findE S n) := by unfold addS; cases S.get n with
  | none => rfl
  | some x => exact if_pos h
theorem add_yes {S : DiskS} {n : Int} {s : List UInt8} {x : FileS} (h : findE S n = 0) (hx : S.get n = some x) : addS S n s = if (blocksN (x.data.length + s.length) : Int) - (blocksN x.data.length : Int) > S.room x.tier - S.used x.tier then (S, 7) else (stepS (addF S n x s), if stepOk S = true then 0 else 8) := by unfold addS; rw [hx]; exact if_neg (fun h' => h' h)
theorem sync_no {S : DiskS} {n : Int} (h : findE S n ≠ 0) : syncS S n = (S, findE S n) := by unfold syncS; cases S.get n with
  | none => rfl
  | some x => exact if_pos h
theorem sync_yes {S : DiskS} {n : Int} {x : FileS} (h : findE S n = 0) (hx : S.get n = some x) : syncS S n = if stepOk S = true then (setFiles (stepS S) (fput S.files n ⟨x.tier, x.data, x.data.length⟩), 0) else (stepS S, 8) := by unfold syncS; rw [hx]; exact if_neg (fun h' => h' h)
/-! what stays good -/
theorem good_new {hot cold : Int} (h1 : 0 ≤ hot ∧ hot ≤ 1048576) (h2 : 0 ≤ cold ∧ cold ≤ 1048576) : GoodS (newS hot cold) :=
  ⟨List.nodup_nil, fun _ h => (by cases h), fun t ht => rfl, fun t ht => by
    show (0 : Int) ≤ (if t = 0 then hot else cold) ∧ _
    by_cases h : t = 0
    · show _ ≤ (if t = 0 then hot else cold) ∧ (if t = 0 then hot else cold) ≤ _; rw [if_pos h]; exact h1
    · show _ ≤ (if t = 0 then hot else cold) ∧ (if t = 0 then hot else cold) ≤ _; rw [if_neg h]; exact h2, fun _ h => (by cases h), fun _ h => (by cases h), (by show (-1 : Int) ≤ -1 ∧ (-1 : Int) ≤ _; omega), (by show (0 : Int) ≤ 0; omega)⟩
theorem good_step {S : DiskS} (h : GoodS S) : GoodS (stepS S) := by
  unfold stepS
  split
  · exact ⟨h.nd, h.tier, h.sum, h.le, h.sure, h.key, h.fuse, h.steps⟩
  · refine ⟨h.nd, h.tier, h.sum, h.le, h.sure, h.key, ?_, ?_⟩
    · have := h.fuse; show _ ≤ (if 0 < S.fuse then S.fuse - 1 else S.fuse) ∧ (if 0 < S.fuse then S.fuse - 1 else S.fuse) ≤ _; split <;> omega
    · have := h.steps; show 0 ≤ S.steps + 1; omega
theorem step_files (S : DiskS) : (stepS S).files = S.files ∧ (stepS S).room = S.room ∧ (stepS S).used = S.used ∧ (stepS S).root = S.root := by unfold stepS; split <;> exact ⟨rfl, rfl, rfl, rfl⟩
/-- A file put in, the tier's blocks set right. -/
theorem good_put {S : DiskS} (h : GoodS S) {n : Int} {x : FileS} {u : Int} (hn : 1 ≤ n) (ht : x.tier < 2) (hs : -1 ≤ x.sure ∧ x.sure ≤ (x.data.length : Int)) (hu : u = (blocksN x.data.length : Int) + (sumT x.tier (fdel S.files n) : Int)) (hr : u ≤ S.room x.tier)
    (ho : ∀ y, S.get n = some y → y.tier = x.tier) : GoodS (setUsed (setFiles S (fput S.files n x)) x.tier u) := by
  refine ⟨nd_put h.nd n x, fun q hq => ?_, fun t ht' => ?_, fun t ht' => ?_, fun q hq => ?_, fun q hq => ?_, h.fuse, h.steps⟩
  · rcases List.mem_cons.1 hq with rfl | hq
    · exact ht
    · exact h.tier q (del_sub q hq)
  · show (if t = x.tier then u else S.used t) = (sumT t (fput S.files n x) : Int)
    rw [sumT_put]
    by_cases e : t = x.tier
    · rw [if_pos e, if_pos e.symm, hu, e]; omega
    · rw [if_neg e, if_neg (fun h => e h.symm), h.sum t ht', Nat.zero_add]
      congr 1
      cases hg : S.get n with
      | none => rw [fdel_same (fget_none hg)]
      | some y =>
        rw [sumT_get h.nd hg, if_neg (fun e2 => e (by rw [← e2, ho y hg])), Nat.zero_add]
  · show (if t = x.tier then u else S.used t) ≤ S.room t ∧ _
    have := h.le t ht'
    by_cases e : t = x.tier
    · rw [if_pos e, e]; exact ⟨hr, (h.le _ ht).2⟩
    · rw [if_neg e]; exact this
  · rcases List.mem_cons.1 hq with rfl | hq
    · exact hs
    · exact h.sure q (del_sub q hq)
  · rcases List.mem_cons.1 hq with rfl | hq
    · exact hn
    · exact h.key q (del_sub q hq)
end Go.Proofs.Ytnneoipoaoefkaa.Dsk
