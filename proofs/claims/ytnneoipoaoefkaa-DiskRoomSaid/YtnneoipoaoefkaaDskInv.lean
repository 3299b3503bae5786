/- What operations keep: plain. -/
import Derived.Test.YtnneoipoaoefkaaDskDo
namespace Go.Proofs.Ytnneoipoaoefkaa.Dsk
open Go Go.Proofs.Ytnneoipoaoefkaa.Eng
set_option linter.unusedVariables false
theorem step_live {S : DiskS} (h : S.fuse = -1) : stepOk S = true ∧ (stepS S).down = S.down ∧ (stepS S).fuse = -1 ∧ (stepS S).steps = S.steps + 1 := by
  unfold stepOk stepS
  rw [h, if_neg (by decide)]
  exact ⟨by decide, rfl, rfl, rfl⟩
theorem step_le (S : DiskS) : (stepS S).steps ≤ S.steps + 1 := by
  unfold stepS
  split
  · show S.steps ≤ _; omega
  · show S.steps + 1 ≤ _; omega
theorem find_none {S : DiskS} {n : Int} (h : findE S n = 9) : S.get n = none ∧ S.down = false := by
  unfold findE at h
  split at h
  · cases h
  · rename_i hd
    split at h
    · cases h
    · rename_i hs
      refine ⟨?_, by simpa using hd⟩
      cases hx : S.get n with
      | none => rfl
      | some x => rw [hx] at hs; exact absurd rfl hs
theorem find_three (S : DiskS) (n : Int) : (findE S n = 8 ∧ S.down = true) ∨ (findE S n = 9 ∧ S.get n = none ∧ S.down = false) ∨ (findE S n = 0 ∧ S.down = false ∧ ∃ x, S.get n = some x) := by
  unfold findE
  split
  · rename_i h; exact .inl ⟨rfl, h⟩
  · rename_i h
    have hd : S.down = false := by simpa using h
    cases hx : S.get n with
    | none => exact .inr (.inl ⟨rfl, rfl, hd⟩)
    | some x => exact .inr (.inr ⟨rfl, hd, x, rfl⟩)
theorem good_drop {S : DiskS} (h : GoodS S) (n : Int) : GoodS (dropS S n).1 := by
  rcases find_three S n with ⟨hf, _⟩ | ⟨hf, _⟩ | ⟨hf, hd, x, hx⟩
  · rw [drop_no (by rw [hf]; decide)]; exact h
  · rw [drop_no (by rw [hf]; decide)]; exact h
  · rw [drop_yes hf hx]
    split
    · exact h
    · split
      · have hgs := good_step h
        obtain ⟨f1, f2, f3, f4⟩ := step_files S
        obtain ⟨z1, z2, z3, z4, z5, z6⟩ := h.size hx
        refine ⟨nd_del h.nd n, fun q hq => h.tier q (del_sub q hq), fun t ht => ?_, fun t ht => ?_, fun q hq => h.sure q (del_sub q hq), fun q hq => h.key q (del_sub q hq), hgs.fuse, hgs.steps⟩
        · show (if t = x.tier then S.used x.tier - (blocksN x.data.length : Int) else (stepS S).used t) = (sumT t (fdel S.files n) : Int)
          have hg := sumT_get (t := t) h.nd hx
          have hs := h.sum t ht
          by_cases e : t = x.tier
          · rw [if_pos e]; subst e; rw [if_pos rfl] at hg; omega
          · rw [if_neg e, f3]; rw [if_neg (fun e' => e e'.symm)] at hg; omega
        · show (if t = x.tier then S.used x.tier - (blocksN x.data.length : Int) else (stepS S).used t) ≤ (stepS S).room t ∧ (stepS S).room t ≤ 1048576
          rw [f2]
          have hl := h.le t ht
          by_cases e : t = x.tier
          · rw [if_pos e]; subst e; omega
          · rw [if_neg e, f3]; exact hl
      · exact good_step h
theorem good_point {S : DiskS} (h : GoodS S) (n : Int) : GoodS (pointS S n).1 := by
  rcases find_three S n with ⟨hf, _⟩ | ⟨hf, _⟩ | ⟨hf, hd, x, hx⟩
  · rw [point_no (by rw [hf]; decide)]; exact h
  · rw [point_no (by rw [hf]; decide)]; exact h
  · rw [point_yes hf hx]
    split
    · exact h
    · split
      · have hgs := good_step h
        exact ⟨hgs.nd, hgs.tier, hgs.sum, hgs.le, hgs.sure, hgs.key, hgs.fuse, hgs.steps⟩
      · exact good_step h
theorem good_arm {S : DiskS} (h : GoodS S) (n : Int) (hn : n ≤ 9223372036854775807) : GoodS (armS S n) :=
  ⟨h.nd, h.tier, h.sum, h.le, h.sure, h.key, by show -1 ≤ (if n < -1 then (-1 : Int) else n) ∧ (if n < -1 then (-1 : Int) else n) ≤ _; split <;> omega, h.steps⟩
theorem good_do {S : DiskS} (h : GoodS S) (o : OpS) : GoodS (doS S o).1 := by
  unfold doS
  split
  · exact good_make h _ _
  · split
    · exact good_add h _ _
    · split
      · exact good_sync h _
      · split
        · exact good_drop h _
        · split
          · exact good_point h _
          · split
            · exact good_back h _
            · exact h
/-- What a call does, seen through step: it leaves all as it was, or a step was tried. -/
inductive Did (S : DiskS) : DiskS × Int → Prop where
  | no (e : Int) (h0 : e ≠ 0) (h8 : e = 8 → S.down = true) (h9 : S.down = true → e = 8) : Did S (S, e)
  | bad (l : List (Int × FileS)) (u : Nat → Int) (h : stepOk S = false) (hd : S.down = false) : Did S ({ stepS S with files := l, used := u }, 8)
  | good (l : List (Int × FileS)) (u : Nat → Int) (r : Int) (h : stepOk S = true) (hd : S.down = false) : Did S ({ stepS S with files := l, used := u, root := r }, 0)
theorem did_make (S : DiskS) (t n : Int) : Did S (makeS S t n) := by
  have hft := find_three S n
  unfold makeS
  split
  · rename_i h
    refine .no 8 (by decide) (fun _ => ?_) (fun _ => rfl)
    rcases hft with ⟨_, hd⟩ | ⟨hf, _⟩ | ⟨hf, _⟩
    · exact hd
    · rw [hf] at h; cases h
    · rw [hf] at h; cases h
  · rename_i h
    have hd : S.down = false := by
      rcases hft with ⟨hf, _⟩ | ⟨_, _, hd⟩ | ⟨_, hd, _⟩
      · exact absurd hf h
      · exact hd
      · exact hd
    have no : ∀ e : Int, e ≠ 0 → e ≠ 8 → Did S (S, e) := fun e h0 h8 => .no e h0 (fun h => absurd h h8) (fun h => by rw [hd] at h; cases h)
    split
    · exact no 1 (by decide) (by decide)
    · split
      · exact no 10 (by decide) (by decide)
      · split
        · exact no 7 (by decide) (by decide)
        · split
          · rename_i hk
            exact .good (fput S.files n ⟨t.toNat, [], -1⟩) (fun q => if q = t.toNat then S.used t.toNat + 1 else (stepS S).used q) (stepS S).root hk hd
          · rename_i hk
            exact .bad (stepS S).files (stepS S).used (by simpa using hk) hd
theorem did_find {S : DiskS} {n : Int} (h : findE S n ≠ 0) : Did S (S, findE S n) := by
  rcases find_three S n with ⟨hf, hd⟩ | ⟨hf, _, hd⟩ | ⟨hf, _⟩
  · rw [hf]; exact .no 8 (by decide) (fun _ => hd) (fun _ => rfl)
  · rw [hf]; exact .no 9 (by decide) (fun h => by cases h) (fun h => by rw [hd] at h; cases h)
  · exact absurd hf h
theorem did_add (S : DiskS) (n : Int) (s : List UInt8) : Did S (addS S n s) := by
  by_cases hf : findE S n = 0
  · obtain ⟨hd, x, hx⟩ := find_zero hf
    rw [add_yes hf hx]
    split
    · exact .no 7 (by decide) (fun h => by cases h) (fun h => by rw [hd] at h; cases h)
    · have e : ∀ (l : List (Int × FileS)) (u : Nat → Int), stepS { S with files := l, used := u } = { stepS S with files := l, used := u } := fun l u => by unfold stepS; split <;> rfl
      rcases Bool.eq_false_or_eq_true (stepOk S) with hk | hk
      · rw [if_pos hk]
        have := Did.good (S := S) (addF S n x s).files (addF S n x s).used (stepS S).root hk hd
        rw [show stepS (addF S n x s) = { stepS S with files := (addF S n x s).files, used := (addF S n x s).used } from e _ _]
        exact this
      · rw [if_neg (by rw [hk]; decide)]
        rw [show stepS (addF S n x s) = { stepS S with files := (addF S n x s).files, used := (addF S n x s).used } from e _ _]
        exact .bad _ _ hk hd
  · rw [add_no hf]; exact did_find hf
theorem did_sync (S : DiskS) (n : Int) : Did S (syncS S n) := by
  by_cases hf : findE S n = 0
  · obtain ⟨hd, x, hx⟩ := find_zero hf
    rw [sync_yes hf hx]
    rcases Bool.eq_false_or_eq_true (stepOk S) with hk | hk
    · rw [if_pos hk]; exact .good _ (stepS S).used (stepS S).root hk hd
    · rw [if_neg (by rw [hk]; decide)]; exact .bad (stepS S).files (stepS S).used hk hd
  · rw [sync_no hf]; exact did_find hf
theorem did_drop (S : DiskS) (n : Int) : Did S (dropS S n) := by
  by_cases hf : findE S n = 0
  · obtain ⟨hd, x, hx⟩ := find_zero hf
    rw [drop_yes hf hx]
    split
    · exact .no 11 (by decide) (fun h => by cases h) (fun h => by rw [hd] at h; cases h)
    · rcases Bool.eq_false_or_eq_true (stepOk S) with hk | hk
      · rw [if_pos hk]; exact .good _ _ (stepS S).root hk hd
      · rw [if_neg (by rw [hk]; decide)]; exact .bad (stepS S).files (stepS S).used hk hd
  · rw [drop_no hf]; exact did_find hf
theorem did_point (S : DiskS) (n : Int) : Did S (pointS S n) := by
  by_cases hf : findE S n = 0
  · obtain ⟨hd, x, hx⟩ := find_zero hf
    rw [point_yes hf hx]
    split
    · exact .no 11 (by decide) (fun h => by cases h) (fun h => by rw [hd] at h; cases h)
    · rcases Bool.eq_false_or_eq_true (stepOk S) with hk | hk
      · rw [if_pos hk]; exact .good (stepS S).files (stepS S).used n hk hd
      · rw [if_neg (by rw [hk]; decide)]; exact .bad (stepS S).files (stepS S).used hk hd
  · rw [point_no hf]; exact did_find hf
theorem did_do (S : DiskS) (o : OpS) (h : 1 ≤ o.kind ∧ o.kind ≤ 5) : Did S (doS S o) := by
  unfold doS
  by_cases h1 : o.kind = 1
  · rw [if_pos h1]; exact did_make _ _ _
  · rw [if_neg h1]
    by_cases h2 : o.kind = 2
    · rw [if_pos h2]; exact did_add _ _ _
    · rw [if_neg h2]
      by_cases h3 : o.kind = 3
      · rw [if_pos h3]; exact did_sync _ _
      · rw [if_neg h3]
        by_cases h4 : o.kind = 4
        · rw [if_pos h4]; exact did_drop _ _
        · rw [if_neg h4, if_pos (by omega)]; exact did_point _ _
theorem do_other (S : DiskS) (o : OpS) (h : ¬ (1 ≤ o.kind ∧ o.kind ≤ 5)) : doS S o = if o.kind = 8 then (backS S o.keeps, 0) else (S, 0) := by
  unfold doS
  rw [if_neg (by omega), if_neg (by omega), if_neg (by omega), if_neg (by omega), if_neg (by omega)]
theorem do_steps (S : DiskS) (o : OpS) : (doS S o).1.steps ≤ S.steps + 1 := by
  by_cases h : 1 ≤ o.kind ∧ o.kind ≤ 5
  · have := did_do S o h
    generalize doS S o = X at this
    cases this with
    | no e => show S.steps ≤ _; omega
    | bad l u => exact step_le S
    | good l u r => exact step_le S
  · rw [do_other S o h]
    split
    · show S.steps ≤ _; omega
    · show S.steps ≤ _; omega
/-! the root -/
def Rooted (S : DiskS) : Prop := S.root = 0 ∨ ∃ x, S.get S.root = some x ∧ 0 ≤ x.sure
structure RI (S : DiskS) : Prop where
  down : S.down = false
  fuse : S.fuse = -1
  root : Rooted S
theorem back_get {S : DiskS} (hn : keysNd S.files) (K : List (Int × Int)) {n : Int} {x : FileS} (hx : S.get n = some x) : (backS S K).get n = backF x (keptF K n) := by
  have hp := mid_perm (K := K) (Lf := fun _ => false) (fget_perm hn hx)
  have hnd := mid_nd (K := K) (Lf := fun _ => false) hn
  show fget (midL K (fun _ => false) S.files) n = _
  rw [fget_inv hnd hp, mid_cons, if_neg (by decide)]
  dsimp only
  have hno : fget (midL K (fun _ => false) (fdel S.files n)) n = none := by
    rw [mid_del, fget_del, if_pos rfl]
  cases hb : backF x (keptF K n) with
  | none => exact hno
  | some y => exact if_pos rfl
theorem back_none {S : DiskS} (K : List (Int × Int)) {n : Int} (hx : S.get n = none) : (backS S K).get n = none := by
  cases h : (backS S K).get n with
  | none => rfl
  | some y =>
    obtain ⟨x, hm, _⟩ := mid_keys (K := K) (Lf := fun _ => false) (l := S.files) (fget_mem h)
    exact absurd rfl (fget_none hx _ hm)
theorem root_do {S : DiskS} (hg : GoodS S) (h : RI S) (o : OpS) : RI (doS S o).1 ∧ ((doS S o).1.root ≠ S.root → o.kind = 5 ∧ (doS S o).2 = 0 ∧ (doS S o).1.root = o.file ∧ (doS S o).1.root ≠ 0) := by
  obtain ⟨s1, s2, s3, s4⟩ := step_live h.fuse
  obtain ⟨f1, f2, f3, f4⟩ := step_files S
  have same : RI S ∧ (S.root ≠ S.root → o.kind = 5 ∧ (0 : Int) = 0 ∧ S.root = o.file ∧ S.root ≠ 0) := ⟨h, fun h => absurd rfl h⟩
  have keep : ∀ T : DiskS, T.down = S.down → T.fuse = -1 → T.root = S.root → (∀ x, S.root ≠ 0 → S.get S.root = some x → 0 ≤ x.sure → ∃ y, T.get S.root = some y ∧ 0 ≤ y.sure) → RI T := fun T h1 h2 h3 h4 => by
    refine ⟨h1.trans h.down, h2, ?_⟩
    unfold Rooted
    rw [h3]
    rcases h.root with hr | ⟨x, hx, hs⟩
    · exact .inl hr
    · by_cases hr : S.root = 0
      · exact .inl hr
      · exact .inr (h4 x hr hx hs)
  have same2 : ∀ e : Int, RI S ∧ (S.root ≠ S.root → o.kind = 5 ∧ e = 0 ∧ S.root = o.file ∧ S.root ≠ 0) := fun e => ⟨h, fun h => absurd rfl h⟩
  unfold doS
  split
  · -- Make
    unfold makeS
    split
    · exact same2 _
    · split
      · exact same2 _
      · split
        · exact same2 _
        · split
          · exact same2 _
          · rename_i h8 _ h0 _
            try rw [if_pos s1]
            have hnone : S.get o.file = none := by
              rcases find_three S o.file with ⟨hf, _⟩ | ⟨_, hn, _⟩ | ⟨hf, _⟩
              · exact absurd hf h8
              · exact hn
              · exact absurd hf h0
            refine ⟨keep _ s2 s3 f4 fun x _ hx hs => ⟨x, ?_, hs⟩, fun hne => absurd f4 hne⟩
            show fget (fput S.files o.file _) S.root = some x
            rw [fget_put, if_neg (fun e => by rw [e, hnone] at hx; cases hx)]
            exact hx
  · split
    · -- Add
      by_cases hf : findE S o.file = 0
      · obtain ⟨hd, x, hx⟩ := find_zero hf
        rw [add_yes hf hx]
        split
        · exact same2 _
        · try rw [if_pos s1]
          obtain ⟨g1, g2, g3, g4⟩ := step_live (S := addF S o.file x o.text) h.fuse
          obtain ⟨k1, k2, k3, k4⟩ := step_files (addF S o.file x o.text)
          refine ⟨keep _ g2 g3 k4 fun y _ hy hs => ?_, fun hne => absurd k4 hne⟩
          show ∃ z, fget (stepS (addF S o.file x o.text)).files S.root = some z ∧ _
          rw [k1]
          show ∃ z, fget (fput S.files o.file ⟨x.tier, x.data ++ o.text, x.sure⟩) S.root = some z ∧ _
          rw [fget_put]
          by_cases e : S.root = o.file
          · rw [if_pos e]
            rw [e, hx] at hy
            injection hy with hy
            exact ⟨_, rfl, by rw [hy]; exact hs⟩
          · rw [if_neg e]; exact ⟨y, hy, hs⟩
      · rw [add_no hf]; exact same2 _
    · split
      · -- Sync
        by_cases hf : findE S o.file = 0
        · obtain ⟨hd, x, hx⟩ := find_zero hf
          rw [sync_yes hf hx, if_pos s1]
          refine ⟨keep _ s2 s3 f4 fun y _ hy hs => ?_, fun hne => absurd f4 hne⟩
          show ∃ z, fget (fput S.files o.file ⟨x.tier, x.data, x.data.length⟩) S.root = some z ∧ _
          rw [fget_put]
          by_cases e : S.root = o.file
          · rw [if_pos e]; exact ⟨_, rfl, by show (0 : Int) ≤ (x.data.length : Int); omega⟩
          · rw [if_neg e]; exact ⟨y, hy, hs⟩
        · rw [sync_no hf]; exact same2 _
      · split
        · -- Drop
          by_cases hf : findE S o.file = 0
          · obtain ⟨hd, x, hx⟩ := find_zero hf
            rw [drop_yes hf hx]
            split
            · exact same2 _
            · rename_i hne0
              try rw [if_pos s1]
              refine ⟨keep _ s2 s3 f4 fun y _ hy hs => ⟨y, ?_, hs⟩, fun hne => absurd f4 hne⟩
              show fget (fdel S.files o.file) S.root = some y
              rw [fget_del, if_neg (fun e => hne0 e.symm)]
              exact hy
          · rw [drop_no hf]; exact same2 _
        · split
          · -- Point
            rename_i hk
            by_cases hf : findE S o.file = 0
            · obtain ⟨hd, x, hx⟩ := find_zero hf
              rw [point_yes hf hx]
              split
              · exact same2 _
              · rename_i hsr
                try rw [if_pos s1]
                have hk1 := hg.key _ (fget_mem hx)
                refine ⟨⟨s2.trans h.down, s3, .inr ⟨x, ?_, by omega⟩⟩, fun hne => ⟨hk, rfl, rfl, by show o.file ≠ 0; dsimp only at hk1; omega⟩⟩
                show fget (stepS S).files o.file = some x
                rw [f1]; exact hx
            · rw [point_no hf]; exact same2 _
          · split
            · -- Back
              refine ⟨⟨rfl, rfl, ?_⟩, fun hne => absurd rfl hne⟩
              unfold Rooted
              show S.root = 0 ∨ ∃ x, (backS S o.keeps).get S.root = some x ∧ 0 ≤ x.sure
              rcases h.root with hr | ⟨x, hx, hs⟩
              · exact .inl hr
              · refine .inr ⟨⟨x.tier, x.data.take (cutB x (keptF o.keeps S.root)), (cutB x (keptF o.keeps S.root) : Int)⟩, ?_, by dsimp only; omega⟩
                rw [back_get hg.nd o.keeps hx]
                exact if_neg (fun hh => by omega)
            · exact same2 _
end Go.Proofs.Ytnneoipoaoefkaa.Dsk
