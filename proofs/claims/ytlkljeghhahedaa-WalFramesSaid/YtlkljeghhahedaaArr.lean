/- A block that holds a list, cell by cell: an array of scalars in memory. -/
import Derived.Test.YtlkljeghhahedaaBase
import Derived.Test.YtlkljeghhahedaaWWords
import Derived.WalkKit
namespace Go.Proofs.Ytlkljeghhahedaa.Arr
open Go Go.RowKit Go.Proofs.YtlkljeghhahedaaW.PrintWords
variable {α : Type} {enc : α → Value} {T : TypeId} {g : Nat} {l : List α} {W : World}
def IsArr (enc : α → Value) (T : TypeId) (g : Nat) (l : List α) (W : World) : Prop := W.heap[g]? = some (.cells (l.map enc).toArray T (0, 0))
theorem IsArr.cell (h : IsArr enc T g l W) (i : Nat) (d : α) (hi : i < l.length) : W.cell? ⟨g, i, none⟩ = some (enc (l.getD i d)) := by
  rw [blk_cell h i, List.getD_eq_getElem?_getD, List.getElem?_eq_getElem hi]
  simp [hi]
theorem IsArr.frozen (h : IsArr enc T g l W) (i : Nat) : W.frozen? ⟨g, i, none⟩ = false := blk_frozen h i
theorem IsArr.lt (h : IsArr enc T g l W) : g < W.heap.size := blk_lt h
theorem IsArr.set (h : IsArr enc T g l W) (i : Nat) (x : α) : IsArr enc T g (l.set i x) (W.setCell ⟨g, i, none⟩ (enc x)) := by
  unfold IsArr
  refine blk_put h i (enc x) ?_
  simp [List.map_set]
theorem IsArr.drew (h : IsArr enc T g l W) : IsArr enc T g l W.drew := h
theorem IsArr.drewN (h : IsArr enc T g l W) (n : Nat) : IsArr enc T g l (W.drewN n) := h
theorem IsArr.alloc (h : IsArr enc T g l W) (o : Obj) : IsArr enc T g l (W.alloc o) := blk_alloc h o
theorem IsArr.far (h : IsArr enc T g l W) {p : Addr} (hp : g ≠ p.block) (u : Value) : IsArr enc T g l (W.setCell p u) := blk_far h hp u
theorem IsArr.below {W1 : World} (h : IsArr enc T g l W) (hb : Below W.heap.size W W1) : IsArr enc T g l W1 := blk_below h hb
theorem IsArr.new (W : World) (l : List α) (cs : Array Value) (h : cs = (l.map enc).toArray) : IsArr enc T W.heap.size l (W.alloc (.cells cs T (0, 0))) := by
  subst h
  exact heap_alloc_new W _
/-- What lies in a block is read as a row. -/
theorem C_of_block {h1 : ∀ x, (enc x).oneCell' = true} {fr : Nat × Nat} (z : α) (h : W.heap[g]? = some (.cells (l.map enc).toArray T fr)) (hm : l.length ≤ 9223372036854775807) : (Kd.scalar enc h1).C W (some ⟨g, 0, none⟩) l.length l := by
  refine Kd.C_of_reads (d := z) ⟨rfl, hm, fun _ => ⟨_, rfl, fun j hj => ?_⟩⟩
  rw [show (⟨g, 0, none⟩ : Addr).add j = ⟨g, 0 + j, none⟩ by unfold Addr.add; split <;> simp_all, Nat.zero_add, cell_of_row W g j _ T fr h]
  simp [List.getD_eq_getElem?_getD, hj]
/-- A quotient of two numbers of 32 bits, as the machine has it. -/
theorem div_u32 (P : Program) (a b : Nat) (ha : a < 4294967296) (hb : 1 ≤ b) (w : World) : (Op.intDiv .quo .u32 (a : Int) (b : Int)).run P w = .ok (.int .u32 ((a / b : Nat) : Int)) w := by
  unfold Op.intDiv
  have h0 : ¬ b = 0 := by omega
  have h1 : (a : Int).tdiv (b : Int) = ((a / b : Nat) : Int) := by rw [Int.tdiv_eq_ediv_of_nonneg (by omega)]; rfl
  have h2 : a / b ≤ a := Nat.div_le_self a b
  generalize a / b = q at h1 h2 ⊢
  have h3 : IntKind.u32.wrap (q : Int) = (q : Int) := by rw [IntKind.wrap_u32]; omega
  simp [h0, h1, h3]
end Go.Proofs.Ytlkljeghhahedaa.Arr
