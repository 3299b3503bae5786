/- What stays good: plain. -/
import Derived.Test.YtnneoipoaoefkaaDskFn
namespace Go.Proofs.Ytnneoipoaoefkaa.Dsk
open Go Go.Proofs.Ytnneoipoaoefkaa.Eng
set_option linter.unusedVariables false
theorem setUsed_same (S : DiskS) (t : Nat) : setUsed S t (S.used t) = S := by
  unfold setUsed
  have : (fun q => if q = t then S.used t else S.used q) = S.used := by
    funext q
    by_cases h : q = t
    · rw [if_pos h, h]
    · rw [if_neg h]
  rw [this]
theorem good_make {S : DiskS} (h : GoodS S) (t n : Int) : GoodS (makeS S t n).1 := by
  unfold makeS
  split
  · exact h
  · rename_i h1
    split
    · exact h
    · rename_i h2
      split
      · exact h
      · rename_i h3
        split
        · exact h
        · rename_i h4
          split
          · rename_i h5
            obtain ⟨h2a, h2b⟩ := not_or.1 h2
            have hk : t.toNat < 2 := by omega
            have hnone : S.get n = none := by
              cases hx : S.get n with
              | none => rfl
              | some x =>
                exfalso
                unfold findE at h1 h3
                by_cases hd : S.down = true
                · rw [if_pos hd] at h1; exact h1 rfl
                · rw [if_neg hd, hx] at h3; exact h3 rfl
            obtain ⟨f1, f2, f3, f4⟩ := step_files S
            have hgs := good_step h
            have hle := h.le _ hk
            have hsm := h.sum _ hk
            have hb0 : blocksN 0 = 1 := rfl
            have := good_put (x := ⟨t.toNat, [], -1⟩) (u := S.used t.toNat + 1) (n := n) hgs (by omega) hk (by show (-1 : Int) ≤ -1 ∧ (-1 : Int) ≤ _; simp) (by
              rw [f1, fdel_same (fget_none hnone)]
              show _ = (blocksN 0 : Int) + (sumT t.toNat S.files : Int)
              omega) (by rw [f2]; dsimp only; omega) (fun y hy => by
              unfold DiskS.get at hy hnone
              rw [f1, hnone] at hy; cases hy)
            rw [f1] at this
            exact this
          · exact good_step h
theorem good_addF {S : DiskS} (h : GoodS S) {n : Int} {x : FileS} {s : List UInt8} (hx : S.get n = some x) (hr : ¬ ((blocksN (x.data.length + s.length) : Int) - (blocksN x.data.length : Int) > S.room x.tier - S.used x.tier)) : GoodS (addF S n x s) := by
  have hm := fget_mem hx
  obtain ⟨z1, z2, z3, z4, z5, z6⟩ := h.size hx
  have hs := h.sum x.tier z2
  have hg := sumT_get (t := x.tier) h.nd hx
  rw [if_pos rfl] at hg
  have hl : (x.data ++ s).length = x.data.length + s.length := List.length_append
  unfold addF
  refine good_put (x := ⟨x.tier, x.data ++ s, x.sure⟩) h (h.key _ hm) z2 ?_ ?_ (by dsimp only; omega) (fun y hy => by rw [hx] at hy; injection hy with hy; rw [← hy])
  · show -1 ≤ x.sure ∧ x.sure ≤ ((x.data ++ s).length : Int); rw [hl]; omega
  · show _ = (blocksN (x.data ++ s).length : Int) + (sumT x.tier (fdel S.files n) : Int)
    rw [hl]; omega
theorem good_add {S : DiskS} (h : GoodS S) (n : Int) (s : List UInt8) : GoodS (addS S n s).1 := by
  unfold addS
  cases hx : S.get n with
  | none => exact h
  | some x =>
    show GoodS (if findE S n ≠ 0 then (S, findE S n) else if (blocksN (x.data.length + s.length) : Int) - (blocksN x.data.length : Int) > S.room x.tier - S.used x.tier then (S, (7 : Int)) else (stepS (addF S n x s), if stepOk S = true then 0 else 8)).1
    split
    · exact h
    · split
      · exact h
      · rename_i hr
        exact good_step (good_addF h hx hr)
theorem good_sync {S : DiskS} (h : GoodS S) (n : Int) : GoodS (syncS S n).1 := by
  unfold syncS
  cases hx : S.get n with
  | none => exact h
  | some x =>
    show GoodS (if findE S n ≠ 0 then (S, findE S n) else if stepOk S = true then (setFiles (stepS S) (fput S.files n ⟨x.tier, x.data, x.data.length⟩), (0 : Int)) else (stepS S, 8)).1
    split
    · exact h
    · split
      · have hm := fget_mem hx
        obtain ⟨z1, z2, z3, z4, z5, z6⟩ := h.size hx
        have hs := h.sum x.tier z2
        have hle := h.le x.tier z2
        have hg := sumT_get (t := x.tier) h.nd hx
        rw [if_pos rfl] at hg
        obtain ⟨f1, f2, f3, f4⟩ := step_files S
        have := good_put (x := ⟨x.tier, x.data, x.data.length⟩) (u := S.used x.tier) (n := n) (good_step h) (h.key _ hm) z2 (by show (-1 : Int) ≤ (x.data.length : Int) ∧ (x.data.length : Int) ≤ (x.data.length : Int); omega) (by
          rw [f1]
          show _ = (blocksN x.data.length : Int) + (sumT x.tier (fdel S.files n) : Int)
          omega) (by rw [f2]; dsimp only; omega) (fun y hy => by
          unfold DiskS.get at hy hx
          rw [f1, hx] at hy; injection hy with hy; rw [← hy])
        rw [f1, ← f3] at this
        have e := setUsed_same (setFiles (stepS S) (fput S.files n ⟨x.tier, x.data, x.data.length⟩)) x.tier
        rw [← e]
        exact this
      · exact good_step h
end Go.Proofs.Ytnneoipoaoefkaa.Dsk
