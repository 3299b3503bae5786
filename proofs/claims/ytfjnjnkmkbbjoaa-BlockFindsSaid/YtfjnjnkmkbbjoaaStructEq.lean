/- Equality of structs whose fields are single cells. -/
import Derived.Test.YtfjnjnkmkbbjoaaMore
import Derived.Laws.StructEq
namespace Go.Proofs.Ytfjnjnkmkbbjoaa.Eng
open Go Go.RowKit
set_option linter.unusedVariables false
section
variable {P : Program} {w : World}
theorem part_one {t : TypeId} {d : TypeDesc} (ht : P.underlying t = some d) {cs : List Value} {off : Nat} {v : Value} (hx : cs[off]? = some v) (hd : notRow d = true := by rfl) : (part t cs.toArray off).run P w = .ok v w := by
  have hx' : cs.toArray[off]? = some v := by rw [List.getElem?_toArray]; exact hx
  unfold part
  simp only [Sem.run_bind, run_isAgg_no ht hd, Result.andThen_ok, Bool.false_eq_true, if_false, hx', Sem.run_pure]
theorem eqF_gen {d : Nat} {xs ys : Array Value} {f : Field} {fs : List Field} {a b : Value} {r r2 : Bool} (hn : (f.name ≠ "_") = True) (hx : (part f.type xs f.offset).run P w = .ok a w) (hy : (part f.type ys f.offset).run P w = .ok b w) (he : (Op.equalIn d f.type a b).run P w = .ok r w)
    (h : (Op.eqFields d xs ys fs).run P w = .ok r2 w) : (Op.eqFields d xs ys (f :: fs)).run P w = .ok (r && r2) w := by
  cases r
  · simp only [Op.eqFields, hn, if_true, Sem.run_bind, hx, hy, he, Result.andThen_ok, Bool.not_false, Sem.run_pure, Bool.false_and]
  · simp only [Op.eqFields, hn, if_true, Sem.run_bind, hx, hy, he, Result.andThen_ok, Bool.not_true, Bool.false_eq_true, if_false, h, Bool.true_and]
theorem fields_eq {t : TypeId} {fs : Array Field} (ht : P.underlying t = some (.struct fs)) : P.fieldsOf t = fs := by
  unfold Program.fieldsOf; rw [ht]
theorem struct_eq {d : Nat} {t : TypeId} {fs : Array Field} {xs ys : Array Value} {r : Bool} (ht : P.underlying t = some (.struct fs)) (hp : P.stoodInHeld t = false) (h : (Op.eqFields d xs ys fs.toList).run P w = .ok r w) : (Op.equalIn (d + 1) t (.agg xs) (.agg ys)).run P w = .ok r w := by
  rw [run_equalIn_struct (P := P) w d t xs ys (by rw [fields_eq ht]; exact ht) hp, fields_eq ht]
  exact h
theorem r_neStruct {ρ : Operand → Value} {dst : Option Tmp} {ty t t' : TypeId} {pos : String} {aft : Array Edge} {g : Option (Nat × Bool)} {x y : Operand} {xs ys : Array Value} {r : Bool} (hx : ρ x = .agg xs) (hy : ρ y = .agg ys) (hg : P.eqGuardType P.depth t = false)
    (h : (Op.equalIn 10000 t (.agg xs) (.agg ys)).run P w = .ok r w) : Run P ρ ⟨dst, .binOp .neq t x y t', ty, pos, aft, g⟩ w (bV (!r)) w := by
  left
  have h2 : (binOp .neq t (.agg xs) (.agg ys)).run P w = .ok (.bool (!r)) w := by
    rw [run_neq_struct, h, Result.andThen_ok]
  simp only [execOp, hx, hy, Sem.run_bind, run_eqGuard_agg (P := P) w .neq t _ _ _ _ hg, Result.andThen_ok, h2, Sem.run_pure]
end
end Go.Proofs.Ytfjnjnkmkbbjoaa.Eng
