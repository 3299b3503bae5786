/- DiskRoom, plain: rooms and numbers stay in bounds; what dropping all files leaves. -/
import Derived.Test.YtnneoipoaoefkaaDskRoots
namespace Go.Proofs.Ytnneoipoaoefkaa.Dsk
open Go Go.Proofs.Ytnneoipoaoefkaa.Eng
set_option linter.unusedVariables false
theorem keys_put {l : List (Int × FileS)} {n : Int} {x : FileS} {q : Int × FileS} (h : q ∈ fput l n x) : q.1 = n ∨ q ∈ l := by
  rcases List.mem_cons.1 h with rfl | h
  · exact .inl rfl
  · exact .inr (del_sub q h)
def KB (S : DiskS) : Prop := ∀ q ∈ S.files, q.1 ≤ 9223372036854775807
theorem KB.of {S T : DiskS} (h : KB S) (e : T.files = S.files) : KB T := by unfold KB; rw [e]; exact h
theorem KB.put {S T : DiskS} (h : KB S) {n : Int} (hn : n ≤ 9223372036854775807) {x : FileS} (e : T.files = fput S.files n x) : KB T := by
  unfold KB; rw [e]; intro q hq
  rcases keys_put hq with h1 | h1
  · omega
  · exact h q h1
theorem kb_do {S : DiskS} (h : KB S) (o : OpS) (hn : o.file ≤ 9223372036854775807) : KB (doS S o).1 := by
  have hst : KB (stepS S) := h.of (step_files S).1
  unfold doS
  split
  · unfold makeS; split
    · exact h
    · split
      · exact h
      · split
        · exact h
        · split
          · exact h
          · split
            · exact h.put hn rfl
            · exact hst
  · split
    · unfold addS
      cases hx : S.get o.file with
      | none => exact h
      | some x =>
        dsimp only
        split
        · exact h
        · split
          · exact h
          · exact h.put hn ((step_files _).1.trans rfl)
    · split
      · unfold syncS
        cases hx : S.get o.file with
        | none => exact h
        | some x =>
          dsimp only
          split
          · exact h
          · split
            · exact h.put hn rfl
            · exact hst
      · split
        · unfold dropS
          cases hx : S.get o.file with
          | none => exact h
          | some x =>
            dsimp only
            split
            · exact h
            · split
              · exact h
              · split
                · exact fun q hq => h q (del_sub q hq)
                · exact hst
        · split
          · unfold pointS
            cases hx : S.get o.file with
            | none => exact h
            | some x =>
              dsimp only
              split
              · exact h
              · split
                · exact h
                · split
                  · exact hst
                  · exact hst
          · split
            · intro q hq
              obtain ⟨x, hx, _⟩ := mid_keys (K := o.keeps) (Lf := fun _ => false) (l := S.files) hq
              exact h (q.1, x) hx
            · exact h
theorem room_do (S : DiskS) (o : OpS) : (doS S o).1.room = S.room := by
  have hr := (step_files S).2.1
  by_cases h : 1 ≤ o.kind ∧ o.kind ≤ 5
  · have := did_do S o h
    generalize doS S o = X at this
    cases this with
    | no e => rfl
    | bad l u => exact hr
    | good l u r => exact hr
  · rw [do_other S o h]
    split <;> rfl
theorem same_do {S : DiskS} (hri : RI S) (o : OpS) (he : (doS S o).2 ≠ 0) : (doS S o).1 = S := by
  have hk := (step_live hri.fuse).1
  by_cases h : 1 ≤ o.kind ∧ o.kind ≤ 5
  · have := did_do S o h
    generalize doS S o = X at this he
    cases this with
    | no e => rfl
    | bad l u h1 => rw [hk] at h1; cases h1
    | good l u r => exact absurd rfl he
  · rw [do_other S o h] at he ⊢
    split at he <;> exact absurd rfl he
def oBack : OpS := ⟨8, 0, 0, 0, 0, [], none, 0, []⟩
def oDrop (n : Int) : OpS := ⟨4, 0, n, 0, 0, [], none, 0, []⟩
theorem do_back (S : DiskS) : doS S oBack = (backS S [], 0) := rfl
theorem do_drop (S : DiskS) (n : Int) : doS S (oDrop n) = dropS S n := rfl
/-- What dropping comes to. -/
structure DropI (B : DiskS) (ds : List Int) (T : DiskS) : Prop where
  good : GoodS T
  ri : RI T
  root : T.root = B.root
  get : ∀ n, T.get n = if n ∈ ds ∧ n ≠ B.root then none else B.get n
theorem drop_start {B : DiskS} (h : GoodS B) (hr : RI B) : DropI B [] B := ⟨h, hr, rfl, fun n => by rw [if_neg (by simp)]⟩
theorem drop_step {B T : DiskS} {ds : List Int} {n : Int} (h : DropI B ds T) (hn : n ∉ ds) (hb : (B.get n).isSome = true) :
    DropI B (ds ++ [n]) (dropS T n).1 ∧ (decide ((dropS T n).2 = 0) = !decide (n = B.root)) ∧ (dropS T n).1.steps ≤ T.steps + 1 := by
  obtain ⟨x, hx⟩ := Option.isSome_iff_exists.1 hb
  have hx' : T.get n = some x := by rw [h.get n, if_neg (fun h => hn h.1)]; exact hx
  have hf := find_is h.ri.down hx'
  have hst := do_steps T (oDrop n)
  have hg2 := good_do h.good (oDrop n)
  have hri2 := (root_do h.good h.ri (oDrop n)).1
  rw [do_drop] at hst hg2 hri2
  have hk := (step_live h.ri.fuse).1
  have he := drop_yes hf hx'
  by_cases hr : n = T.root
  · have he' : dropS T n = (T, 11) := by rw [he, if_pos hr]
    rw [he'] at hst hg2 hri2 ⊢
    refine ⟨⟨h.good, h.ri, h.root, fun m => ?_⟩, ?_, hst⟩
    · show T.get m = _
      rw [h.get m]
      have : (m ∈ ds ++ [n] ∧ m ≠ B.root) ↔ (m ∈ ds ∧ m ≠ B.root) := by
        rw [List.mem_append, List.mem_singleton]
        constructor
        · rintro ⟨h1 | h1, h2⟩
          · exact ⟨h1, h2⟩
          · exact absurd (h1.trans (hr.trans h.root)) h2
        · rintro ⟨h1, h2⟩; exact ⟨.inl h1, h2⟩
      simp only [this]
    · show decide ((11 : Int) = 0) = _
      rw [decide_eq_true (p := n = B.root) (hr.trans h.root)]; rfl
  · have he' : dropS T n = (setUsed (setFiles (stepS T) (fdel T.files n)) x.tier (T.used x.tier - (blocksN x.data.length : Int)), 0) := by rw [he, if_neg hr, if_pos hk]
    rw [he'] at hst hg2 hri2 ⊢
    refine ⟨⟨hg2, hri2, ((step_files T).2.2.2).trans h.root, fun m => ?_⟩, ?_, hst⟩
    · show fget (fdel T.files n) m = _
      rw [fget_del]
      have hm : fget T.files m = _ := h.get m
      rw [hm]
      by_cases e : m = n
      · rw [if_pos e, if_pos ⟨List.mem_append_right _ (List.mem_singleton.2 e), fun e' => hr ((e.symm.trans e').trans h.root.symm)⟩]
      · rw [if_neg e]
        have : (m ∈ ds ++ [n] ∧ m ≠ B.root) ↔ (m ∈ ds ∧ m ≠ B.root) := by
          rw [List.mem_append, List.mem_singleton]
          constructor
          · rintro ⟨h1 | h1, h2⟩
            · exact ⟨h1, h2⟩
            · exact absurd h1 e
          · rintro ⟨h1, h2⟩; exact ⟨.inl h1, h2⟩
        simp only [this]
    · show decide ((0 : Int) = 0) = _
      rw [decide_eq_false (p := n = B.root) (fun e => hr (e.trans h.root.symm))]; rfl
theorem one_left {l : List (Int × FileS)} {r : Int} {x : FileS} (hn : keysNd l) (hx : fget l r = some x) (ht : x.tier < 2) (h : ∀ n, n ≠ r → fget l n = none) : sumT 0 l + sumT 1 l = blocksN x.data.length := by
  have hd : fdel l r = [] := by
    refine List.eq_nil_iff_forall_not_mem.2 fun q hq => ?_
    have h1 := del_sub q hq
    have h2 : q.1 ≠ r := by
      have := List.mem_filter.1 hq
      exact of_decide_eq_true this.2
    have h3 := fget_of hn h1
    rw [h _ h2] at h3
    cases h3
  rw [sumT_get hn hx, sumT_get (t := 1) hn hx, hd]
  have e0 : sumT 0 ([] : List (Int × FileS)) = 0 := rfl
  have e1 : sumT 1 ([] : List (Int × FileS)) = 0 := rfl
  rw [e0, e1]
  rcases (show x.tier = 0 ∨ x.tier = 1 by omega) with e | e
  · rw [e, if_pos rfl, if_neg (by decide)]; omega
  · rw [e, if_neg (by decide), if_pos rfl]; omega
theorem none_left {l : List (Int × FileS)} (hn : keysNd l) (h : ∀ n, fget l n = none) : sumT 0 l + sumT 1 l = 0 := by
  have hd : l = [] := by
    refine List.eq_nil_iff_forall_not_mem.2 fun q hq => ?_
    have h3 := fget_of hn hq
    rw [h _] at h3
    cases h3
  rw [hd]; rfl
/-- All dropped: what is left is the root. -/
theorem drop_end {B T : DiskS} {zs : List Int} (h : DropI B zs T) (hB : GoodS B) (hz : zs.Perm (B.files.map Prod.fst)) :
    (T.root = 0 ∧ T.used 0 + T.used 1 = 0) ∨ (0 < T.root ∧ ∃ x, T.get T.root = some x ∧ T.used 0 + T.used 1 = (blocksN x.data.length : Int)) := by
  have hno : ∀ n, n ≠ B.root → T.get n = none := by
    intro n hn
    rw [h.get n]
    split
    · rfl
    · rename_i hh
      cases hb : B.get n with
      | none => rfl
      | some x => exact absurd ⟨hz.mem_iff.2 (List.mem_map.2 ⟨_, fget_mem hb, rfl⟩), hn⟩ hh
  have h0 := h.good.sum 0 (by decide)
  have h1 := h.good.sum 1 (by decide)
  rcases h.ri.root with hr | ⟨x, hx, _⟩
  · left
    refine ⟨hr, ?_⟩
    have hall : ∀ n, fget T.files n = none := by
      intro n
      by_cases hn : n = B.root
      · cases hb : fget T.files n with
        | none => rfl
        | some x =>
          have := h.good.key _ (fget_mem hb)
          have e := h.root
          simp only at this
          omega
      · exact hno n hn
    have := none_left h.good.nd hall
    omega
  · right
    have hk := h.good.key _ (fget_mem hx)
    simp only at hk
    refine ⟨by omega, x, hx, ?_⟩
    have := one_left (r := T.root) h.good.nd hx (h.good.tier _ (fget_mem hx)) (fun n hn => hno n (by rw [← h.root]; exact hn))
    omega
end Go.Proofs.Ytnneoipoaoefkaa.Dsk
