/- For the rows: arrays of whole numbers and slices of strings among the arguments, opened; a laid variable that is an array of whole numbers. -/
import Derived.Test.YtnneoipoaoefkaaMem
import Derived.LaidLaws
import Derived.ChangeSlices
import Derived.SliceStrings
import Derived.ChangeReads
import Derived.FnData
import Derived.OpenShut
namespace Go.Proofs.Ytnneoipoaoefkaa.RowArr
open Go Go.ChangeShapes Go.WideShapes Go.RowKit Go.Proofs.Ytnneoipoaoefkaa.Eng
set_option linter.unusedVariables false
variable {H : Type} {enc : TypeId × Value → H} {P : Program} {W : World} {base : Nat} {spare : Nat → Bool} {held : Bool} {t e : TypeId} {a : Option Addr} {len cap n : Nat} {q : IntKind} {d : DataW H} {ps : List MemPlace}
theorem mapM_ints {m : Nat} {g : Nat → List Value} (he : P.underlying e = some (.int q)) : ∀ (L : List Nat) (xs : List (DataW H × List MemPlace)),
    (L.mapM fun i => DataW.trod enc P W base spare held m e (g i)) = some xs →
    ∃ l : List Int, L.map g = l.map (fun a => [.int q a]) ∧ xs = l.map (fun a => (.lit (.int q a), [])) ∧ ∀ a ∈ l, (Lit.int q a).wf = true
  | [], xs, h => by
    simp at h
    subst h
    exact ⟨[], rfl, rfl, fun _ h => by cases h⟩
  | i :: L, xs, h => by
    rw [List.mapM_cons] at h
    simp only [bind, Option.bind_eq_some_iff, pure, Option.some.injEq] at h
    obtain ⟨y, hy, ys, hys, rfl⟩ := h
    obtain ⟨l, h1, rfl, hw⟩ := mapM_ints he L ys hys
    obtain ⟨b, e1, rfl, wb⟩ := DataW.trod_int he hy
    refine ⟨b :: l, by rw [List.map_cons, List.map_cons, h1, e1], rfl, fun x hx => ?_⟩
    rcases List.mem_cons.1 hx with rfl | hx
    · exact wb
    · exact hw x hx
theorem range_ones {cs : List Value} {l : List Int} (h : ((List.range cs.length).map fun i => (cs.drop (i * 1)).take 1) = l.map (fun a => [.int q a])) : cs = l.map (.int q) := by
  apply List.ext_getElem?
  intro i
  have hi := congrArg (fun L => L[i]?) h
  simp only [List.getElem?_map, Nat.mul_one] at hi
  rw [List.getElem?_map]
  by_cases hl : i < cs.length
  · rw [List.getElem?_range hl] at hi
    cases hb : l[i]? with
    | none => rw [hb] at hi; cases hi
    | some b =>
      rw [hb] at hi
      simp only [Option.map_some, Option.some.injEq] at hi
      rw [List.drop_eq_getElem_cons hl, List.take_succ_cons, List.take_zero] at hi
      rw [List.getElem?_eq_getElem hl, Option.map_some, (List.cons.inj hi).1]
  · rw [List.getElem?_eq_none (by rw [List.length_range]; omega)] at hi
    rw [List.getElem?_eq_none (by omega)]
    cases hb : l[i]? with
    | none => rfl
    | some b => rw [hb] at hi; cases hi
theorem trod_array {fuel : Nat} {cs : List Value} (ht : P.underlying t = some (.array n e)) (he : P.underlying e = some (.int q)) (hce : P.cellsOf e = 1) (hct : P.cellsOf t = n)
    (h : DataW.trod enc P W base spare held fuel t cs = some (d, ps)) : ∃ l : List Int, cs = l.map (.int q) ∧ l.length = n ∧ d = .agg (l.map fun a => .lit (.int q a)) ∧ ∀ a ∈ l, (Lit.int q a).wf = true := by
  cases fuel with
  | zero => simp [DataW.trod] at h
  | succ m =>
    rw [DataW.trod_step] at h
    unfold DataW.trodStep at h
    simp only [ht] at h
    split at h
    · rename_i hl
      simp only [Option.map_eq_some_iff] at h
      obtain ⟨ys, hy, e1⟩ := h
      rw [hce] at hy
      obtain ⟨l, h1, rfl, hw⟩ := mapM_ints he _ ys hy
      rw [hct] at hl
      rw [← hl] at h1
      have h2 := range_ones h1
      refine ⟨l, h2, ?_, ?_, hw⟩
      · rw [← hl, h2, List.length_map]
      · have e2 := (Prod.mk.inj e1).1
        rw [← e2]; simp [Function.comp_def]
    · cases h
theorem u8s {l : List Int} (hw : ∀ a ∈ l, (Lit.int .u8 a).wf = true) : ∃ k : List UInt8, l.map (Value.int .u8) = k.map u8V ∧ k.length = l.length := by
  induction l with
  | nil => exact ⟨[], rfl, rfl⟩
  | cons a l ih =>
    obtain ⟨k, h1, h2⟩ := ih fun x hx => hw x (List.mem_cons_of_mem _ hx)
    have ha := bounds_u8 (hw a (List.mem_cons_self ..))
    refine ⟨UInt8.ofNat a.toNat :: k, ?_, by simp [h2]⟩
    rw [List.map_cons, List.map_cons, h1]
    have : ((UInt8.ofNat a.toNat).toNat : Int) = a := by
      rw [UInt8.toNat_ofNat']
      omega
    rw [u8V, this]
/-- An array of bytes. -/
theorem bytes_open {r : Reach} {b0 : Nat} {v : Value} (ht : P.underlying t = some (.array n e)) (he : P.underlying e = some (.int .u8)) (hce : P.cellsOf e = 1) (hct : P.cellsOf t = n) (hv : Value.okWide P W r b0 t v)
    (h : DataW.Trod enc P W base spare held t v d ps) : ∃ k : List UInt8, v = .agg (k.map u8V).toArray ∧ k.length = n := by
  simp only [Value.okWide, ht] at hv
  obtain ⟨cs, rfl, _, _⟩ := hv
  obtain ⟨fuel, hf⟩ := h
  obtain ⟨l, h1, h2, _, hw⟩ := trod_array ht he hce hct hf
  obtain ⟨k, h3, h4⟩ := u8s hw
  refine ⟨k, ?_, h4.trans h2⟩
  rw [← h3, ← h1]
  rfl
theorem lits_inj {q : IntKind} : ∀ {l m : List Int}, (l.map fun a => (DataW.lit (H := H) (.int q a))) = m.map (fun a => .lit (.int q a)) → l = m
  | [], [], _ => rfl
  | [], _ :: _, h => by cases h
  | _ :: _, [], h => by cases h
  | a :: l, b :: m, h => by
    rw [List.map_cons, List.map_cons] at h
    injection h with h1 h2
    injection h1 with h1
    injection h1 with h1 h3
    rw [h3, lits_inj h2]
/-- A laid array of whole numbers. -/
theorem laid_array {nm : String} {g : Nat} {m : List Int} (hg : P.globalNamed nm = some g) (hgt : (P.globals[g]?).map (·.type) = some t) (ht : P.underlying t = some (.array n e)) (he : P.underlying e = some (.int q)) (hce : P.cellsOf e = 1) (hct : P.cellsOf t = n) (hn : 0 < n)
    (h : laidMet P [(nm, .agg (m.map fun a => .lit (.int q a)))] W) : ∃ T, W.heap[g]? = some (.cells (m.map (Value.int q)).toArray T (0, 0)) := by
  obtain ⟨ps, ⟨g', t', cs, fuel, p, r, h1, h2, h3, h4, h5, h6⟩, hnd, hc⟩ := h
  rw [hg] at h1
  obtain rfl := Option.some.inj h1
  rw [hgt] at h2
  obtain rfl := Option.some.inj h2
  obtain ⟨l, e1, e2, e3, hw⟩ := trod_array ht he hce hct h4
  have e4 : m = l := by
    injection e3 with e3
    exact lits_inj e3
  subst e4
  have hsz : cs.size = n := by rw [← Array.length_toList, e1, List.length_map, e2]
  have hm : MemPlace.cell g 0 ∈ ps := by
    rw [h6]
    refine List.mem_append_left _ (List.mem_append_left _ ?_)
    unfold MemPlace.row
    simp only [List.mem_map, List.mem_range]
    exact ⟨0, by omega, by simp⟩
  obtain ⟨⟨c, T, hh⟩, _⟩ := hc g 0 hm
  have e5 : c = cs := by
    unfold World.var? at h3
    rw [hg] at h3
    simp only [Option.bind_some, hh, Option.some.injEq] at h3
    exact h3
  refine ⟨T, ?_⟩
  rw [hh, e5]
  congr 2
  exact Array.ext' (by rw [e1])
/-- A slice of strings. -/
theorem strs_open (hu : P.underlying t = some (.slice e)) (he : P.underlying e = some .string) (hc : P.cellsOf e = 1)
    (h : DataW.Trod enc P W base spare held t (.slice a len cap) d ps) :
    ∃ l : List ByteArray, len = l.length ∧ Rd W 1 a l.length (l.map sV) ∧ l.length ≤ cap ∧ ∀ s ∈ l, s.size ≤ 9223372036854775807 := by
  obtain ⟨fuel, hf⟩ := h
  rcases open_strings hu he hc hf with ⟨hcs, _⟩ | ⟨x, l, c, zs, hcs, _, hl, hm, hz, _, hcell, hs⟩
  · simp [Value.cells] at hcs
    obtain ⟨rfl, rfl, rfl⟩ := hcs
    exact ⟨[], rfl, Rd.none_ _ _ _, by simp, fun _ h => by cases h⟩
  · simp [Value.cells] at hcs
    obtain ⟨rfl, rfl, rfl⟩ := hcs
    have hl2 : len ≤ zs.length := by rw [hz]; split <;> omega
    have e1 : (zs.take len).length = len := by simp [hl2]
    refine ⟨zs.take len, e1.symm, ?_, by omega, fun s hs' => by have := hs s (List.mem_of_mem_take hs'); unfold maxLen at this; omega⟩
    rw [e1]
    refine ⟨by simp [hl2], by unfold maxLen at hm; omega, fun _ => ⟨x, rfl, fun j u hj => ?_⟩⟩
    rw [List.getElem?_map] at hj
    cases hz' : (zs.take len)[j]? with
    | none => rw [hz'] at hj; cases hj
    | some z =>
      rw [hz'] at hj
      have hjl : j < len := by have := (List.getElem?_eq_some_iff.1 hz').1; omega
      rw [hcell j (by omega)]
      rw [List.getElem?_take_of_lt hjl] at hz'
      rw [List.getD_eq_getElem?_getD, hz']
      exact hj
/-- A slice of whole numbers. -/
theorem ints_open {k : IntKind} (hu : P.underlying t = some (.slice e)) (he : P.underlying e = some (.int k)) (hc : P.cellsOf e = 1)
    (h : DataW.Trod enc P W base spare held t (.slice a len cap) d ps) :
    ∃ l : List Int, len = l.length ∧ Rd W 1 a l.length (l.map (Value.int k)) ∧ l.length ≤ cap ∧ ∀ x ∈ l, (Lit.int k x).wf = true := by
  obtain ⟨fuel, hf⟩ := h
  rcases open_ints hu he hc hf with ⟨hcs, _⟩ | ⟨x, l, c, zs, hcs, _, hl, hm, hz, _, hcell, hwz⟩
  · simp [Value.cells] at hcs
    obtain ⟨rfl, rfl, rfl⟩ := hcs
    exact ⟨[], rfl, Rd.none_ _ _ _, by simp, fun _ h => by cases h⟩
  · simp [Value.cells] at hcs
    obtain ⟨rfl, rfl, rfl⟩ := hcs
    have hl2 : len ≤ zs.length := by rw [hz]; split <;> omega
    have e1 : (zs.take len).length = len := by simp [hl2]
    refine ⟨zs.take len, e1.symm, ?_, by omega, fun y hy => hwz y (List.mem_of_mem_take hy)⟩
    rw [e1]
    refine ⟨by simp [hl2], by unfold maxLen at hm; omega, fun _ => ⟨x, rfl, fun j u hj => ?_⟩⟩
    rw [List.getElem?_map] at hj
    cases hz' : (zs.take len)[j]? with
    | none => rw [hz'] at hj; cases hj
    | some z =>
      rw [hz'] at hj
      have hjl : j < len := by have := (List.getElem?_eq_some_iff.1 hz').1; omega
      rw [hcell j (by omega)]
      rw [List.getElem?_take_of_lt hjl] at hz'
      rw [List.getD_eq_getElem?_getD, hz']
      exact hj
theorem bytes_slice_open (hu : P.underlying t = some (.slice e)) (he : P.underlying e = some (.int .u8)) (hc : P.cellsOf e = 1)
    (h : DataW.Trod enc P W base spare held t (.slice a len cap) d ps) :
    ∃ l : List UInt8, len = l.length ∧ Rd W 1 a l.length (l.map u8V) ∧ l.length ≤ cap := by
  obtain ⟨l, h1, h2, h3, h4⟩ := ints_open hu he hc h
  obtain ⟨k, h5, h6⟩ := u8s h4
  exact ⟨k, h1.trans h6.symm, by rw [h6, ← h5]; exact h2, by omega⟩
end Go.Proofs.Ytnneoipoaoefkaa.RowArr
