/- An item of an own row is written, items of any number of cells. -/
import Derived.Test.YtfjnjnkmkbbjoaaStructs
namespace Go.Proofs.Ytfjnjnkmkbbjoaa.Eng
open Go Go.RowKit
set_option linter.unusedVariables false
section
variable {P : Program} {n : Nat} {ops : Array Oper} {Q : EPost} {rest : List Oper} {f : Env} {w w0 : World} {d : Nat} {ty : TypeId} {pos : String} {aft : Array Edge} {L : List HP}
theorem l_store_row {t e : TypeId} {x y : Operand} {sz m c k by_ : Nat} {z : Value} {ad : Addr} {xs vs : List Value} (hs : Sep w0 w (RowC e sz (.slice (some ad) m c) m xs :: L)) (ht : TI P t z sz by_) (hx : ev f x = .pointer (some (ad.add (k * sz)))) (hy : ev f y = .agg vs.toArray)
    (hk : k < m) (hn : vs.length = sz) (h1 : ∀ v ∈ vs, v.oneCell' = true)
    (h : ∀ w', Sep w0 w' (RowC e sz (.slice (some ad) m c) m (xs.take (k * sz) ++ vs ++ xs.drop (k * sz + sz)) :: L) → OkL P n ops Q rest f w') : OkL P n ops Q (⟨none, .store t x y, ty, pos, aft, none⟩ :: rest) f w := by
  obtain ⟨hl, hc⟩ := hs.rowCases
  rcases hc with ⟨h2, _⟩ | ⟨b, cap, cur, e1, h2, h3, h4, h5, hS⟩
  · cases h2
  · injection e1 with e1 _ e2
    injection e1 with e1
    subst e1; subst e2
    rw [add_lit, Nat.zero_add] at hx
    have hks : k * sz + sz ≤ m * sz := by rw [← Nat.succ_mul]; exact Nat.mul_le_mul_right _ hk
    have hms : m * sz ≤ c * sz := Nat.mul_le_mul_right _ h2
    have hr := r_store_agg (P := P) (ρ := ev f) (dst := none) (ty := ty) (pos := pos) (aft := aft) (g := none) ht hx hy hS.get.1 hn (by omega) h1
    have hS' : Sep w0 (w.setRow b (cur.take (k * sz) ++ vs ++ cur.drop (k * sz + sz)).toArray) (blk b (cur.take (k * sz) ++ vs ++ cur.drop (k * sz + sz)) e :: L) := hS.setRow
    have hlen : (cur.take (k * sz) ++ vs ++ cur.drop (k * sz + sz)).length = c * sz := by
      rw [List.length_append, List.length_append, List.length_take, List.length_drop, h4, hn]; omega
    have hR := hS'.rowOf sz m c h2 h3 hlen
    have e3 : (cur.take (k * sz) ++ vs ++ cur.drop (k * sz + sz)).take (m * sz) = xs.take (k * sz) ++ vs ++ xs.drop (k * sz + sz) := by
      have ec : cur = xs ++ cur.drop (m * sz) := by rw [← h5, List.take_append_drop]
      have ht1 : cur.take (k * sz) = xs.take (k * sz) := by rw [← h5, List.take_take, Nat.min_eq_left (by omega)]
      have ht2 : cur.drop (k * sz + sz) = xs.drop (k * sz + sz) ++ cur.drop (m * sz) := by
        conv => lhs; rw [ec]
        exact List.drop_append_of_le_length (by omega)
      rw [ht1, ht2, ← List.append_assoc]
      refine List.take_left' ?_
      rw [List.length_append, List.length_append, List.length_take, List.length_drop, hl, hn]; omega
    rw [e3] at hR
    exact l_0 hr (h _ hR)
end
section
variable {α : Type} {gc : α → List Value} {sz : Nat}
/-- In terms of the items. -/
theorem flat_set : ∀ {l : List α} (_ : ∀ y ∈ l, (gc y).length = sz) {k : Nat} (x : α), k < l.length → (l.flatMap gc).take (k * sz) ++ gc x ++ (l.flatMap gc).drop (k * sz + sz) = (l.set k x).flatMap gc
  | [], _, k, x, hk => by simp at hk
  | y :: l, h, 0, x, hk => by
    have hy := h y (List.mem_cons_self ..)
    rw [Nat.zero_mul, List.take_zero, Nat.zero_add, List.nil_append, List.flatMap_cons, List.set_cons_zero, List.flatMap_cons, ← hy, List.drop_left]
  | y :: l, h, k + 1, x, hk => by
    have hy := h y (List.mem_cons_self ..)
    have ih := flat_set (l := l) (fun z hz => h z (List.mem_cons_of_mem _ hz)) (k := k) x (by simpa using hk)
    rw [List.set_cons_succ, List.flatMap_cons, List.flatMap_cons, ← ih]
    have e : (k + 1) * sz = (gc y).length + k * sz := by rw [hy, Nat.add_mul, Nat.one_mul]; omega
    rw [e, List.take_length_add_append, Nat.add_assoc, List.drop_length_add_append]
    simp only [List.append_assoc]
end
end Go.Proofs.Ytfjnjnkmkbbjoaa.Eng
