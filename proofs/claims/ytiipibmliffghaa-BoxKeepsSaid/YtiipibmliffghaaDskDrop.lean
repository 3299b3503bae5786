/- The walks of Drop, Point, Arm, Root, Steps, Down, Used. -/
import Derived.Test.YtiipibmliffghaaDskAdd
import Derived.Test.YtiipibmliffghaaIter
namespace Go.Proofs.Ytiipibmliffghaa.Dsk
open Go Go.RowKit Go.Proofs.Ytiipibmliffghaa.Eng
set_option linter.unusedVariables false
set_option maxRecDepth 100000
def dropS (S : DiskS) (n : Int) : DiskS × Int :=
  match S.get n with
  | none => (S, findE S n)
  | some x => if findE S n ≠ 0 then (S, findE S n) else if n = S.root then (S, 11) else
    if stepOk S = true then (setUsed (setFiles (stepS S) (fdel S.files n)) x.tier (S.used x.tier - (blocksN x.data.length : Int)), 0) else (stepS S, 8)
def setRoot (S : DiskS) (n : Int) : DiskS := { S with root := n }
def pointS (S : DiskS) (n : Int) : DiskS × Int :=
  match S.get n with
  | none => (S, findE S n)
  | some x => if findE S n ≠ 0 then (S, findE S n) else if x.sure < (x.data.length : Int) then (S, 11) else
    if stepOk S = true then (setRoot (stepS S) n, 0) else (stepS S, 8)
def armS (S : DiskS) (n : Int) : DiskS := { S with fuse := if n < -1 then -1 else n }
theorem drop_no {S : DiskS} {n : Int} (h : findE S n ≠ 0) : dropS S n = (S, findE S n) := by unfold dropS; cases S.get n with
  | none => rfl
  | some x => exact if_pos h
theorem drop_yes {S : DiskS} {n : Int} {x : FileS} (h : findE S n = 0) (hx : S.get n = some x) : dropS S n = if n = S.root then (S, 11) else
    if stepOk S = true then (setUsed (setFiles (stepS S) (fdel S.files n)) x.tier (S.used x.tier - (blocksN x.data.length : Int)), 0) else (stepS S, 8) := by unfold dropS; rw [hx]; exact if_neg (fun h' => h' h)
theorem point_no {S : DiskS} {n : Int} (h : findE S n ≠ 0) : pointS S n = (S, findE S n) := by unfold pointS; cases S.get n with
  | none => rfl
  | some x => exact if_pos h
theorem point_yes {S : DiskS} {n : Int} {x : FileS} (h : findE S n = 0) (hx : S.get n = some x) : pointS S n = if x.sure < (x.data.length : Int) then (S, 11) else
    if stepOk S = true then (setRoot (stepS S) n, 0) else (stepS S, 8) := by unfold pointS; rw [hx]; exact if_neg (fun h' => h' h)
theorem mapF_del {l : List (Int × FileS)} {p : Int → Nat} {n : Int} : mapF (fdel l n) p = mdel (mapF l p) (iV n) := by
  funext k
  by_cases hk : k = iV n
  · rw [hk, mdel_same]
    show (if (fget (fdel l n) n).isSome = true then _ else none) = _
    rw [fget_del, if_pos rfl]; rfl
  · rw [mdel_other _ _ hk]
    unfold mapF
    split
    · rename_i m
      have e : m ≠ n := fun e => hk (by rw [e])
      rw [fget_del, if_neg e]
    · rfl
end Go.Proofs.Ytiipibmliffghaa.Dsk
