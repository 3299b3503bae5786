/- A fresh variable among what floats. -/
import Derived.Test.YtiipibmliffghaaMore
namespace Go.Proofs.Ytiipibmliffghaa.Eng
open Go Go.RowKit
set_option linter.unusedVariables false
variable {P : Program} {n : Nat} {f : Env} {W w w' : World} {Q : EPost} {K : Env → World → Prop} {ops : Array Oper} {rest l : List Oper} {op : Op} {ty : TypeId} {pos : String} {aft : Array Edge} {d k : Nat} {v : Value} {hvl : List Nat}
theorem f_alloc {w0 : World} {t : TypeId} {z : Value} {sz by_ : Nat} {c : List Value} {L : List HP} (hs : Sep w0 w L) (hi : TI P t z sz by_)
    (h : ∀ b w', Sep w0 w' (blk b c t :: L) → Below w.heap.size w w' → w.heap.size ≤ b → OkF P n ops hvl W K rest (k + 1) (upd f d (.pointer (some ⟨b, 0, none⟩))) w') (hc : z.cells = c.toArray := by rfl) (hd : Nat.blt d n = true := by rfl) (hk : hvl.contains k = true := by rfl) :
    OkF P n ops hvl W K (⟨some d, .alloc t, ty, pos, aft, none⟩ :: rest) k f w :=
  f_new (r_alloc hi hc) ((Below.refl _ _).alloc (Nat.le_refl _) _) (h _ _ (hs.alloc _) ((Below.refl _ _).alloc (Nat.le_refl _) _) (Nat.le_refl _)) hd hk
end Go.Proofs.Ytiipibmliffghaa.Eng
