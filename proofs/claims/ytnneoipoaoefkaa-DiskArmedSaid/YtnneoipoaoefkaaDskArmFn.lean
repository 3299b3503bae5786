/- Power that goes behind so many changes: plain. -/
import Derived.Test.YtnneoipoaoefkaaDskInv
namespace Go.Proofs.Ytnneoipoaoefkaa.Dsk
open Go Go.Proofs.Ytnneoipoaoefkaa.Eng
set_option linter.unusedVariables false
/-- n: as many as were armed. -/
structure Armed (n : Int) (S : DiskS) : Prop where
  neg : n < 0 → S.fuse = -1 ∧ S.down = false
  pos : 0 ≤ n → 0 ≤ S.fuse ∧ S.steps + S.fuse = n
  dn : S.down = true → 0 ≤ n ∧ S.fuse = 0
theorem armed_arm (n hot cold : Int) : Armed n (armS (newS hot cold) n) := by
  refine ⟨fun h => ⟨?_, rfl⟩, fun h => ⟨?_, ?_⟩, fun h => (by cases h)⟩
  · show (if n < -1 then (-1 : Int) else n) = -1; split <;> omega
  · show 0 ≤ (if n < -1 then (-1 : Int) else n); split <;> omega
  · show 0 + (if n < -1 then (-1 : Int) else n) = n; split <;> omega
theorem armed_do {n : Int} {S : DiskS} (h : Armed n S) (o : OpS) (h8 : o.kind ≠ 8) :
    Armed n (doS S o).1 ∧ ((doS S o).2 = 0 → 1 ≤ o.kind ∧ o.kind ≤ 5 → (doS S o).1.steps = S.steps + 1) ∧ ((doS S o).2 ≠ 0 → (doS S o).1.steps = S.steps) ∧ (0 ≤ n → (doS S o).1.steps ≤ n) ∧
    ((doS S o).2 = 8 ↔ (doS S o).1.down = true ∧ 1 ≤ o.kind ∧ o.kind ≤ 5) ∧ ((doS S o).1.down = true → 0 ≤ n ∧ (doS S o).1.steps = n) := by
  have hsle : 0 ≤ n → S.steps ≤ n := fun hn => by have := h.pos hn; omega
  by_cases hk : 1 ≤ o.kind ∧ o.kind ≤ 5
  · have hD := did_do S o hk
    generalize doS S o = X at *
    cases hD with
    | no e h0 h8' h9 =>
      refine ⟨h, fun h _ => absurd h h0, fun _ => rfl, hsle, ⟨fun h => ⟨h8' h, hk⟩, fun h => h9 h.1⟩, fun hd => ?_⟩
      have h1 := h.dn hd
      have h2 := h.pos h1.1
      exact ⟨h1.1, by show S.steps = n; omega⟩
    | bad l u hs hd =>
      have hf0 : S.fuse = 0 := by simpa [stepOk] using hs
      have e : stepS S = { S with down := true } := by unfold stepS; rw [if_pos hf0]
      rw [e]
      have hn : 0 ≤ n := by
        by_cases hn : 0 ≤ n
        · exact hn
        · have := (h.neg (by omega)).1; omega
      have hp := h.pos hn
      have A : Armed n ({ ({ S with down := true } : DiskS) with files := l, used := u }) := ⟨fun h' => by omega, fun _ => hp, fun _ => ⟨hn, hf0⟩⟩
      refine ⟨A, fun h _ => (by cases h), fun _ => rfl, hsle, ⟨fun _ => ⟨rfl, hk⟩, fun _ => rfl⟩, fun _ => ⟨hn, by show S.steps = n; omega⟩⟩
    | good l u r hs hd =>
      have hf0 : S.fuse ≠ 0 := by simpa [stepOk] using hs
      have e : stepS S = { S with fuse := if 0 < S.fuse then S.fuse - 1 else S.fuse, steps := S.steps + 1 } := by unfold stepS; rw [if_neg hf0]
      rw [e]
      have hpp : 0 ≤ n → 0 < S.fuse ∧ S.steps + S.fuse = n := fun hn => by have := h.pos hn; omega
      have A : Armed n ({ ({ S with fuse := if 0 < S.fuse then S.fuse - 1 else S.fuse, steps := S.steps + 1 } : DiskS) with files := l, used := u, root := r }) := by
        refine ⟨fun h' => ⟨?_, hd⟩, fun hn => ?_, fun h' => ?_⟩
        · show (if 0 < S.fuse then S.fuse - 1 else S.fuse) = -1
          have := (h.neg h').1
          split <;> omega
        · have := hpp hn
          show 0 ≤ (if 0 < S.fuse then S.fuse - 1 else S.fuse) ∧ S.steps + 1 + (if 0 < S.fuse then S.fuse - 1 else S.fuse) = n
          rw [if_pos this.1]; omega
        · exact absurd (h'.symm.trans (show S.down = false from hd)) (by decide)
      refine ⟨A, fun _ _ => rfl, fun h => absurd rfl h, fun hn => ?_, ⟨fun h => (by cases h), fun h' => ?_⟩, fun h' => ?_⟩
      · have := hpp hn
        show S.steps + 1 ≤ n; omega
      · exact absurd (h'.1.symm.trans (show S.down = false from hd)) (by decide)
      · exact absurd (h'.symm.trans (show S.down = false from hd)) (by decide)
  · rw [do_other S o hk, if_neg h8]
    refine ⟨h, fun _ h => absurd h hk, fun _ => rfl, hsle, ⟨fun h => (by cases h), fun h => absurd h.2 hk⟩, fun hd => ?_⟩
    have h1 := h.dn hd
    have h2 := h.pos h1.1
    exact ⟨h1.1, by show S.steps = n; omega⟩
/-! how many files there are, and how many blocks -/
def allT (S : DiskS) : Int := (sumT 0 S.files : Int) + (sumT 1 S.files : Int)
theorem len_del {l : List (Int × FileS)} {n : Int} : (fdel l n).length ≤ l.length := List.length_filter_le _ _
theorem len_do (S : DiskS) (hn : keysNd S.files) (o : OpS) : (doS S o).1.files.length ≤ S.files.length + 1 := by
  have hf := (step_files S).1
  have h1 : ∀ n : Int, (fdel S.files n).length ≤ S.files.length := fun n => len_del
  have fe := hf
  unfold doS
  split
  · unfold makeS
    split
    · show S.files.length ≤ _; omega
    · split
      · show S.files.length ≤ _; omega
      · split
        · show S.files.length ≤ _; omega
        · split
          · show S.files.length ≤ _; omega
          · split
            · show (fput S.files o.file _).length ≤ _
              unfold fput; rw [List.length_cons]; have := h1 o.file; omega
            · show (stepS S).files.length ≤ _; rw [hf]; omega
  · split
    · by_cases h0 : findE S o.file = 0
      · obtain ⟨_, x, hx⟩ := find_zero h0
        rw [add_yes h0 hx]
        split
        · show S.files.length ≤ _; omega
        · show (stepS (addF S o.file x o.text)).files.length ≤ _
          rw [(step_files _).1]
          show (fput S.files o.file _).length ≤ _
          unfold fput; rw [List.length_cons]; have := h1 o.file; omega
      · rw [add_no h0]; show S.files.length ≤ _; omega
    · split
      · by_cases h0 : findE S o.file = 0
        · obtain ⟨_, x, hx⟩ := find_zero h0
          rw [sync_yes h0 hx]
          split
          · show (fput S.files o.file _).length ≤ _
            unfold fput; rw [List.length_cons]; have := h1 o.file; omega
          · show (stepS S).files.length ≤ _; rw [hf]; omega
        · rw [sync_no h0]; show S.files.length ≤ _; omega
      · split
        · by_cases h0 : findE S o.file = 0
          · obtain ⟨_, x, hx⟩ := find_zero h0
            rw [drop_yes h0 hx]
            split
            · show S.files.length ≤ _; omega
            · split
              · show (fdel S.files o.file).length ≤ _; have := h1 o.file; omega
              · show (stepS S).files.length ≤ _; rw [hf]; omega
          · rw [drop_no h0]; show S.files.length ≤ _; omega
        · split
          · by_cases h0 : findE S o.file = 0
            · obtain ⟨_, x, hx⟩ := find_zero h0
              rw [point_yes h0 hx]
              split
              · show S.files.length ≤ _; omega
              · split
                · show (stepS S).files.length ≤ _; rw [hf]; omega
                · show (stepS S).files.length ≤ _; rw [hf]; omega
            · rw [point_no h0]; show S.files.length ≤ _; omega
          · split
            · show (backL o.keeps S.files).length ≤ _
              unfold backL midL
              have := List.length_filterMap_le (fun q : Int × FileS => if (fun _ : Value => false) (iV q.1) = true then some q else (backF q.2 (keptF o.keeps q.1)).map fun x => (q.1, x)) S.files
              omega
            · show S.files.length ≤ _; omega
/-- The cold tier's blocks: each call takes few more. -/
theorem used_do {S : DiskS} (hg : GoodS S) (o : OpS) : (doS S o).1.used 1 ≤ S.used 1 + 2 + ((o.text.length / 64 : Nat) : Int) ∧ (doS S o).1.room = S.room := by
  obtain ⟨f1, f2, f3, f4⟩ := step_files S
  have same : ∀ T : DiskS, T.used = S.used → T.room = S.room → T.used 1 ≤ S.used 1 + 2 + ((o.text.length / 64 : Nat) : Int) ∧ T.room = S.room := fun T h h2 => by rw [h]; exact ⟨by omega, h2⟩
  unfold doS
  split
  · unfold makeS
    split
    · exact same S rfl rfl
    · split
      · exact same S rfl rfl
      · split
        · exact same S rfl rfl
        · split
          · exact same S rfl rfl
          · split
            · refine ⟨?_, f2⟩
              show (if (1 : Nat) = o.tier.toNat then S.used o.tier.toNat + 1 else (stepS S).used 1) ≤ _
              split
              · rename_i h; rw [← h]; omega
              · rw [f3]; omega
            · exact same (stepS S) f3 f2
  · split
    · by_cases h0 : findE S o.file = 0
      · obtain ⟨_, x, hx⟩ := find_zero h0
        rw [add_yes h0 hx]
        split
        · exact same S rfl rfl
        · obtain ⟨k1, k2, k3, k4⟩ := step_files (addF S o.file x o.text)
          refine ⟨?_, k2⟩
          show (stepS (addF S o.file x o.text)).used 1 ≤ _
          rw [k3]
          show (if (1 : Nat) = x.tier then S.used x.tier + ((blocksN (x.data.length + o.text.length) : Int) - (blocksN x.data.length : Int)) else S.used 1) ≤ _
          have : (blocksN (x.data.length + o.text.length) : Int) - (blocksN x.data.length : Int) ≤ 2 + ((o.text.length / 64 : Nat) : Int) := by unfold blocksN; omega
          split
          · rename_i h; rw [← h] at *; omega
          · omega
      · rw [add_no h0]; exact same S rfl rfl
    · split
      · by_cases h0 : findE S o.file = 0
        · obtain ⟨_, x, hx⟩ := find_zero h0
          rw [sync_yes h0 hx]
          split
          · exact same _ f3 f2
          · exact same _ f3 f2
        · rw [sync_no h0]; exact same S rfl rfl
      · split
        · by_cases h0 : findE S o.file = 0
          · obtain ⟨_, x, hx⟩ := find_zero h0
            rw [drop_yes h0 hx]
            split
            · exact same S rfl rfl
            · split
              · refine ⟨?_, f2⟩
                show (if (1 : Nat) = x.tier then S.used x.tier - (blocksN x.data.length : Int) else (stepS S).used 1) ≤ _
                split
                · rename_i h; rw [← h]; omega
                · rw [f3]; omega
              · exact same _ f3 f2
          · rw [drop_no h0]; exact same S rfl rfl
        · split
          · by_cases h0 : findE S o.file = 0
            · obtain ⟨_, x, hx⟩ := find_zero h0
              rw [point_yes h0 hx]
              split
              · exact same S rfl rfl
              · split
                · exact same _ f3 f2
                · exact same _ f3 f2
            · rw [point_no h0]; exact same S rfl rfl
          · split
            · refine ⟨?_, rfl⟩
              show ((sumT 1 (backL o.keeps S.files) : Nat) : Int) ≤ _
              have h1 := mid_sum (K := o.keeps) (Lf := fun _ => false) 1 S.files
              have h2 := hg.sum 1 (by decide)
              unfold backL
              omega
            · exact same S rfl rfl
/-! a number that no file has -/
def freeN (S : DiskS) (a : Int) : Nat → Int
  | 0 => a
  | k + 1 => if (S.get (freeN S a k)).isSome = true then freeN S a k + 1 else freeN S a k
theorem free_stay {S : DiskS} {a : Int} {k : Nat} (h : S.get (freeN S a k) = none) : ∀ j, freeN S a (k + j) = freeN S a k
  | 0 => rfl
  | j + 1 => by
    rw [← Nat.add_assoc]
    show (if (S.get (freeN S a (k + j))).isSome = true then _ else _) = _
    rw [free_stay h j, h]
    rfl
theorem free_up {S : DiskS} {a : Int} : ∀ k : Nat, (∀ j, j < k → (S.get (freeN S a j)).isSome = true) → freeN S a k = a + (k : Int)
  | 0, _ => by show a = _; omega
  | k + 1, h => by
    show (if (S.get (freeN S a k)).isSome = true then freeN S a k + 1 else freeN S a k) = _
    rw [if_pos (h k (by omega)), free_up k fun j hj => h j (by omega)]; omega
theorem free_ge (S : DiskS) (a : Int) : ∀ k : Nat, a ≤ freeN S a k ∧ freeN S a k ≤ a + (k : Int)
  | 0 => by show a ≤ a ∧ a ≤ a + _; omega
  | k + 1 => by
    have := free_ge S a k
    have e : freeN S a (k + 1) = if (S.get (freeN S a k)).isSome = true then freeN S a k + 1 else freeN S a k := rfl
    rw [e]
    by_cases h : (S.get (freeN S a k)).isSome = true
    · rw [if_pos h]; omega
    · rw [if_neg h]; omega
theorem free_none {S : DiskS} (hn : keysNd S.files) (a : Int) {k : Nat} (hk : S.files.length < k) : S.get (freeN S a k) = none := by
  by_cases hall : ∀ j, j < k → (S.get (freeN S a j)).isSome = true
  · exfalso
    have hsub : (List.range k).map (fun j : Nat => a + (j : Int)) ⊆ S.files.map Prod.fst := by
      intro q hq
      obtain ⟨j, hj, rfl⟩ := List.mem_map.1 hq
      have hj' := List.mem_range.1 hj
      have h1 := hall j hj'
      rw [free_up j fun i hi => hall i (by omega)] at h1
      obtain ⟨x, hx⟩ := Option.isSome_iff_exists.1 h1
      exact List.mem_map.2 ⟨_, fget_mem hx, rfl⟩
    have hnd : ((List.range k).map (fun j : Nat => a + (j : Int))).Nodup := by
      refine List.Pairwise.map _ (fun i j hij h => hij (by omega)) List.nodup_range
    have := hnd.length_le_of_subset hsub
    simp at this
    omega
  · obtain ⟨j, hj⟩ := Classical.not_forall.1 hall
    obtain ⟨hjk, hj⟩ := Classical.not_imp.1 hj
    have hnone : S.get (freeN S a j) = none := by
      cases h : S.get (freeN S a j) with
      | none => rfl
      | some x => rw [h] at hj; exact absurd rfl hj
    have := free_stay hnone (k - j)
    rw [show j + (k - j) = k by omega] at this
    rw [this]
    exact hnone
end Go.Proofs.Ytnneoipoaoefkaa.Dsk
