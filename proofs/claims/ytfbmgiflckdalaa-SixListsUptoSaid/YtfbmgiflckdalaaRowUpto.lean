/- For the rows of the second form: what the bound gives. -/
import Derived.Test.YtfbmgiflckdalaaRows
import Derived.Test.YtfbmgiflckdalaaRowArr
import Derived.JoinedCond
namespace Go.Proofs.Ytfbmgiflckdalaa.RowArr
open Go Go.ChangeShapes Go.WideShapes Go.RowKit Go.Proofs.Ytfbmgiflckdalaa.Eng
set_option linter.unusedVariables false
variable {H : Type} {enc : TypeId × Value → H} {P : Program} {W : World} {base : Nat} {spare : Nat → Bool} {held : Bool} {t e : TypeId} {a : Option Addr} {len cap n : Nat} {q : IntKind} {d : DataW H} {ps : List MemPlace}
theorem all_lits (k : IntKind) : ∀ l : List Int, Rows.uptoBulkAll (lits (H := H) k l) = l.length
  | [] => by simp [lits, Rows.uptoBulkAll]
  | x :: l => by
    have h := all_lits k l
    unfold lits at *
    simp only [List.map_cons, Rows.uptoBulkAll, Rows.uptoBulk, List.length_cons, h]; omega
theorem all_strs : ∀ l : List ByteArray, Rows.uptoBulkAll (strs (H := H) l) = (l.map fun s => s.size + 1).sum
  | [] => by simp [strs, Rows.uptoBulkAll]
  | x :: l => by
    have h := all_strs l
    have e : x.data.toList.length = x.size := by rw [Array.length_toList]; rfl
    unfold strs at *
    simp only [List.map_cons, Rows.uptoBulkAll, Rows.uptoBulk, List.sum_cons, h, e]
theorem ints_openB {k : IntKind} (hu : P.underlying t = some (.slice e)) (he : P.underlying e = some (.int k)) (hc : P.cellsOf e = 1)
    (h : DataW.Trod enc P W base spare held t (.slice a len cap) d ps) :
    ∃ l : List Int, len = l.length ∧ Rd W 1 a l.length (l.map (Value.int k)) ∧ l.length ≤ cap ∧ (∀ x ∈ l, (Lit.int k x).wf = true) ∧ l.length ≤ Rows.uptoBulk d := by
  obtain ⟨fuel, hf⟩ := h
  have h' : DataW.Trod enc P W base spare held t (.slice a len cap) d ps := ⟨fuel, hf⟩
  obtain ⟨l, e1, e2, e3, e4⟩ := ints_open hu he hc h'
  refine ⟨l, e1, e2, e3, e4, ?_⟩
  rcases open_ints hu he hc hf with ⟨hcs, hx⟩ | ⟨x, l', c, zs, hcs, _, hl, hm, hz, hx, hcell, hwz⟩
  · simp [Value.cells] at hcs
    omega
  · simp [Value.cells] at hcs
    obtain ⟨rfl, rfl, rfl⟩ := hcs
    obtain ⟨rfl, _⟩ := Prod.mk.inj hx
    simp only [Rows.uptoBulk]
    rw [all_lits, List.length_take]
    have hl2 : len ≤ zs.length := by rw [hz]; split <;> omega
    omega
theorem rd_unique {α : Type} {f : α → Value} (hf : ∀ a b, f a = f b → a = b) {w : World} {A : Option Addr} {n : Nat} {l m : List α} (h1 : Rd w 1 A n (l.map f)) (h2 : Rd w 1 A n (m.map f)) : l = m := by
  have e1 : l.length = n := by have := h1.1; simpa using this
  have e2 : m.length = n := by have := h2.1; simpa using this
  apply List.ext_getElem (by omega)
  intro i hi1 hi2
  obtain ⟨ad, rfl, hc1⟩ := h1.ad (by omega)
  obtain ⟨ad', he, hc2⟩ := h2.ad (by omega)
  cases he
  have g1 := hc1 i (f l[i]) (by simp [hi1])
  have g2 := hc2 i (f m[i]) (by simp [hi2])
  exact hf _ _ (Option.some.inj (g1.symm.trans g2))
theorem strs_openB (hu : P.underlying t = some (.slice e)) (he : P.underlying e = some .string) (hc : P.cellsOf e = 1)
    (h : DataW.Trod enc P W base spare held t (.slice a len cap) d ps) :
    ∃ l : List ByteArray, len = l.length ∧ Rd W 1 a l.length (l.map sV) ∧ l.length ≤ cap ∧ (∀ s ∈ l, s.size ≤ 9223372036854775807) ∧ (l.map fun s => s.size + 1).sum ≤ Rows.uptoBulk d := by
  obtain ⟨fuel, hf⟩ := h
  have h' : DataW.Trod enc P W base spare held t (.slice a len cap) d ps := ⟨fuel, hf⟩
  obtain ⟨l, e1, e2, e3, e4⟩ := strs_open hu he hc h'
  refine ⟨l, e1, e2, e3, e4, ?_⟩
  rcases open_strings hu he hc hf with ⟨hcs, hx⟩ | ⟨x, l', c, zs, hcs, _, hl, hm, hz, hx, hcell, hs⟩
  · simp [Value.cells] at hcs
    obtain ⟨_, h0, _⟩ := hcs
    have : l = [] := List.length_eq_zero_iff.1 (by omega)
    rw [this]; simp
  · simp [Value.cells] at hcs
    obtain ⟨rfl, rfl, rfl⟩ := hcs
    obtain ⟨rfl, _⟩ := Prod.mk.inj hx
    have hl2 : len ≤ zs.length := by rw [hz]; split <;> omega
    have e5 : (zs.take len).length = len := by simp [hl2]
    have hrd : Rd W 1 (some x) len ((zs.take len).map sV) := by
      refine ⟨by simp [hl2], by unfold maxLen at hm; omega, fun _ => ⟨x, rfl, fun j u hj => ?_⟩⟩
      rw [List.getElem?_map] at hj
      cases hz' : (zs.take len)[j]? with
      | none => rw [hz'] at hj; cases hj
      | some z =>
        rw [hz'] at hj
        have hjl : j < len := by have := (List.getElem?_eq_some_iff.1 hz').1; omega
        rw [hcell j (by omega)]
        rw [List.getElem?_take_of_lt hjl] at hz'
        rw [List.getD_eq_getElem?_getD, hz']
        exact hj
    have e6 : l = zs.take len := rd_unique (f := sV) (fun a b h => by injection h) (by rw [e1]; exact e2) hrd
    simp only [Rows.uptoBulk]
    rw [all_strs, ← e6]
    omega
theorem str_bulk (s : ByteArray) : Rows.uptoBulk (DataW.lit (H := H) (.string s.data.toList)) = s.size + 1 := by
  have e : s.data.toList.length = s.size := by rw [Array.length_toList]; rfl
  simp only [Rows.uptoBulk, e]
theorem bound {l : List (DataW H)} (hk : Rows.uptoSmall H l = true) : Rows.uptoBulkAll l ≤ 1048576 := of_decide_eq_true hk
end Go.Proofs.Ytfbmgiflckdalaa.RowArr
