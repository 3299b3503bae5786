/- A disk with the file 1 in its first tier, and no fuse: plain. -/
import Derived.Test.YtnneoipoaoefkaaDskGood
namespace Go.Proofs.Ytnneoipoaoefkaa.Dsk
open Go Go.Proofs.Ytnneoipoaoefkaa.Eng
set_option linter.unusedVariables false
def oneS (hot cold : Int) (x : FileS) (u st : Int) : DiskS := ⟨[(1, x)], fun t => if t = 0 then hot else cold, fun t => if t = 0 then u else 0, 0, st, -1, false⟩
theorem ext_fun {f g : Nat → Int} (h : ∀ t, f t = g t) : f = g := funext h
theorem make_new {hot cold : Int} (h : hot ≠ 0) : makeS (newS hot cold) 0 1 = (oneS hot cold ⟨0, [], -1⟩ 1 1, 0) := by
  have h1 : findE (newS hot cold) 1 = 9 := rfl
  have h2 : stepOk (newS hot cold) = true := rfl
  have h3 : (newS hot cold).used (0 : Int).toNat = 0 := rfl
  have h4 : (newS hot cold).room (0 : Int).toNat = hot := rfl
  unfold makeS
  rw [h1, if_neg (by decide), if_neg (by decide), if_neg (by decide), h3, h4, if_neg (fun e => h e.symm), h2, if_pos rfl]
  refine Prod.ext ?_ rfl
  show DiskS.mk _ _ _ _ _ _ _ = DiskS.mk _ _ _ _ _ _ _
  congr 1
theorem one_find (hot cold : Int) (x : FileS) (u st : Int) : findE (oneS hot cold x u st) 1 = 0 := rfl
theorem one_get (hot cold : Int) (x : FileS) (u st : Int) : (oneS hot cold x u st).get 1 = some x := rfl
theorem one_none (hot cold : Int) (x : FileS) (u st n : Int) (h : n ≠ 1) : findE (oneS hot cold x u st) n = 9 := by
  have hg : (oneS hot cold x u st).get n = none := by
    show (if (1 : Int) = n then some x else none) = none
    exact if_neg (fun e => h e.symm)
  unfold findE
  rw [hg]; rfl
theorem one_add {hot cold u st : Int} {d : List UInt8} {sr : Int} {s : List UInt8} : addS (oneS hot cold ⟨0, d, sr⟩ u st) 1 s = if (blocksN (d.length + s.length) : Int) - (blocksN d.length : Int) > hot - u then (oneS hot cold ⟨0, d, sr⟩ u st, 7) else (oneS hot cold ⟨0, d ++ s, sr⟩ (u + ((blocksN (d.length + s.length) : Int) - (blocksN d.length : Int))) (st + 1), 0) := by
  rw [add_yes (one_find ..) (one_get ..)]
  show (if _ > hot - u then _ else _ : DiskS × Int) = _
  by_cases h : (blocksN (d.length + s.length) : Int) - (blocksN d.length : Int) > hot - u
  · rw [if_pos h, if_pos h]
  · rw [if_neg h, if_neg h]
    refine Prod.ext ?_ rfl
    show DiskS.mk _ _ _ _ _ _ _ = DiskS.mk _ _ _ _ _ _ _
    congr 1
    refine ext_fun fun t => ?_
    show (if t = 0 then u + _ else (if t = 0 then u else 0)) = (if t = 0 then _ else 0)
    split <;> rfl
theorem one_sync {hot cold u st : Int} {d : List UInt8} {sr : Int} : syncS (oneS hot cold ⟨0, d, sr⟩ u st) 1 = (oneS hot cold ⟨0, d, d.length⟩ u (st + 1), 0) := by
  rw [sync_yes (one_find ..) (one_get ..)]
  rfl
theorem one_size {hot cold u st : Int} {d : List UInt8} {sr : Int} : sizeS (oneS hot cold ⟨0, d, sr⟩ u st) 1 = ((d.length : Int), 0, 0) := by
  rw [size_yes (one_find ..) (one_get ..)]; rfl
theorem one_read {hot cold u st : Int} {d : List UInt8} {sr a z : Int} : readS (oneS hot cold ⟨0, d, sr⟩ u st) 1 a z = if a < 0 ∨ z < 0 ∨ (d.length : Int) < a ∨ (d.length : Int) - a < z then ([], 1) else ((d.drop a.toNat).take z.toNat, 0) := by
  rw [read_yes (one_find ..) (one_get ..)]
theorem one_all {hot cold u st : Int} {d : List UInt8} {sr : Int} : readS (oneS hot cold ⟨0, d, sr⟩ u st) 1 0 (d.length : Int) = (d, 0) := by
  rw [one_read, if_neg (by omega)]
  simp
theorem good_one {hot cold : Int} (h1 : 0 < hot ∧ hot ≤ 1048576) (h2 : 0 ≤ cold ∧ cold ≤ 1048576) : GoodS (oneS hot cold ⟨0, [], -1⟩ 1 1) := by
  have := good_make (good_new ⟨by omega, h1.2⟩ h2) 0 1
  rwa [make_new (by omega)] at this
end Go.Proofs.Ytnneoipoaoefkaa.Dsk
