/- Rows of structs: addresses of fields, items read, slices of structs among the arguments. -/
import Derived.Test.YtnneoipoaoefkaaParts
import Derived.DataElems
import Derived.ChangeArms
namespace Go.Proofs.Ytnneoipoaoefkaa.Eng
open Go Go.RowKit
set_option linter.unusedVariables false
set_option linter.unusedSimpArgs false
section
variable {P : Program} {ρ : Operand → Value} {w w' w0 : World} {dst : Option Tmp} {ty : TypeId} {pos : String} {aft : Array Edge} {g : Option (Nat × Bool)} {L : List HP}
theorem r_fieldAddrP {s : TypeId} {x : Operand} {f off : Nat} {T : TypeId} {ad : Addr} (hf : fOff P s f = some (off, T)) (hx : ρ x = .pointer (some ad)) :
    Run P ρ ⟨dst, .fieldAddr s x f, ty, pos, aft, g⟩ w (.pointer (some (ad.add off))) w := by
  obtain ⟨fs, fl, i, hu, hfl, ho, hT, hi, hn⟩ := fOff_spec hf
  left
  simp [execOp, hx, Instr.fieldAt, run_underlying hu, hfl, Instr.sureAddr, fieldPlace, sizeOf, typeInfo, hT, hi, hn, ho]
theorem r_load_aggP {t : TypeId} {d : TypeDesc} {x : Operand} {ad : Addr} {sz by_ : Nat} {z : Value} {cs : List Value} (ht : P.underlying t = some d) (hi : TI P t z sz by_) (hx : ρ x = .pointer (some ad))
    (hc : ∀ j u, cs[j]? = some u → w.cell? (ad.add j) = some u) (hn : cs.length = sz) (hd : notRow d = false := by rfl) : Run P ρ ⟨dst, .load t x, ty, pos, aft, g⟩ w (.agg cs.toArray) w := by
  left
  have hl : (loadCells ad cs.length).run P w = .ok cs.toArray w := run_loadCells_list (P := P) w ad cs hc
  simp only [execOp, hx, Instr.loadAt, Instr.sureAddr, loadVar, Sem.run_bind, Sem.run_pure, Result.andThen_ok, run_isAgg_yes ht hd, if_true, hi.size, ← hn, hl]
end
section
variable {α : Type} {gc : α → List Value} {sz : Nat}
theorem flat_len {l : List α} (h : ∀ y ∈ l, (gc y).length = sz) : (l.flatMap gc).length = l.length * sz := by
  induction l with
  | nil => simp
  | cons y l ih =>
    rw [List.flatMap_cons, List.length_append, h y (List.mem_cons_self ..), ih (fun x hx => h x (List.mem_cons_of_mem _ hx)), List.length_cons, Nat.add_mul, Nat.one_mul, Nat.add_comm]
theorem flat_get : ∀ {l : List α} (_ : ∀ y ∈ l, (gc y).length = sz) {i j : Nat} {y : α} {u : Value}, l[i]? = some y → (gc y)[j]? = some u → (l.flatMap gc)[i * sz + j]? = some u
  | [], _, i, j, y, u, h1, _ => by simp at h1
  | x :: l, h, 0, j, y, u, h1, h2 => by
    have e : x = y := by simpa using h1
    subst e
    rw [List.flatMap_cons, Nat.zero_mul, Nat.zero_add, List.getElem?_append_left (List.getElem?_eq_some_iff.1 h2).1]
    exact h2
  | x :: l, h, i + 1, j, y, u, h1, h2 => by
    have hx := h x (List.mem_cons_self ..)
    have e : (i + 1) * sz + j = (gc x).length + (i * sz + j) := by rw [hx, Nat.add_mul, Nat.one_mul]; omega
    rw [List.flatMap_cons, e, List.getElem?_append_right (by omega), Nat.add_sub_cancel_left]
    exact flat_get (fun z hz => h z (List.mem_cons_of_mem _ hz)) (by simpa using h1) h2
theorem rd_item {w : World} {ad : Addr} {n : Nat} {l : List α} (hr : Rd w sz (some ad) n (l.flatMap gc)) (h : ∀ y ∈ l, (gc y).length = sz) (hsz : 0 < sz) {i : Nat} {y : α} (hi : l[i]? = some y) : ∀ j u, (gc y)[j]? = some u → w.cell? ((ad.add (i * sz)).add j) = some u := by
  intro j u hu
  have h1 := flat_get h hi hu
  have h2 := (List.getElem?_eq_some_iff.1 h1).1
  have hn : 0 < n := by
    rcases Nat.eq_zero_or_pos n with rfl | h3
    · have := hr.1; rw [Nat.zero_mul] at this; omega
    · exact h3
  obtain ⟨ad', e, hc⟩ := hr.ad hn
  cases e
  rw [Addr.add_add]
  exact hc _ _ h1
end
section
variable {H : Type} {enc : TypeId × Value → H} {P : Program} {W : World} {base : Nat} {spare : Nat → Bool} {held : Bool} {t e : TypeId} {a : Option Addr} {len cap sz : Nat} {d : DataW H} {ps : List MemPlace} {α : Type} {gc : α → List Value}
theorem flat_cells {ad : Addr} : ∀ {l : List α} (_ : ∀ y ∈ l, (gc y).length = sz) {k : Nat}, (∀ i y, l[i]? = some y → ∀ j u, (gc y)[j]? = some u → W.cell? (ad.add ((k + i) * sz + j)) = some u) →
    ∀ j u, (l.flatMap gc)[j]? = some u → W.cell? (ad.add (k * sz + j)) = some u
  | [], _, k, _, j, u, h => by simp at h
  | x :: l, h, k, hc, j, u, hu => by
    have hx := h x (List.mem_cons_self ..)
    rw [List.flatMap_cons] at hu
    by_cases hj : j < sz
    · rw [List.getElem?_append_left (by omega)] at hu
      exact hc 0 x rfl j u hu
    · rw [List.getElem?_append_right (by omega), hx] at hu
      have h2 := flat_cells (l := l) (fun z hz => h z (List.mem_cons_of_mem _ hz)) (k := k + 1) (fun i y hy j u hu => by
        have h3 := hc (i + 1) y (by simpa using hy) j u hu
        rwa [show k + (i + 1) = k + 1 + i by omega] at h3) _ _ hu
      rwa [show (k + 1) * sz + (j - sz) = k * sz + j by rw [Nat.add_mul, Nat.one_mul]; omega] at h2
/-- A slice of structs among the arguments. -/
theorem rows_open (good : α → Prop) (hu : P.underlying t = some (.slice e)) (hc : P.cellsOf e = sz) (hg : ∀ y, good y → (gc y).length = sz)
    (leaf : ∀ fuel cs x, DataW.trod enc P W base spare held fuel e cs = some x → ∃ y, cs = gc y ∧ good y)
    (h : DataW.Trod enc P W base spare held t (.slice a len cap) d ps) :
    ∃ l : List α, len = l.length ∧ Rd W sz a l.length (l.flatMap gc) ∧ l.length ≤ cap ∧ ∀ y ∈ l, good y := by
  obtain ⟨fuel, hf⟩ := h
  rcases DataW.trod_slice hu hf with ⟨hcs, _⟩ | ⟨x, l, c, elems, rest, n, _, hcs, _, hb, hl, hm, hel, hi, _⟩
  · simp [Value.cells] at hcs
    obtain ⟨rfl, rfl, rfl⟩ := hcs
    exact ⟨[], rfl, Rd.none_ _ _ _, by simp, fun _ h => by cases h⟩
  · simp [Value.cells] at hcs
    obtain ⟨rfl, rfl, rfl⟩ := hcs
    have key : ∀ m, m ≤ len → ∃ l : List α, l.length = m ∧ (∀ y ∈ l, good y) ∧ ∀ i y, l[i]? = some y → ∀ j u, (gc y)[j]? = some u → W.cell? (x.add ((0 + i) * sz + j)) = some u := by
      intro m
      induction m with
      | zero => intro _; exact ⟨[], rfl, (fun _ h => by cases h), (fun i y h => by simp at h)⟩
      | succ m ih =>
        intro hm1
        obtain ⟨l, h1, h2, h3⟩ := ih (by omega)
        have h4 := hi m (by omega)
        rw [List.getElem?_eq_getElem (by omega), Option.bind_eq_some_iff] at h4
        obtain ⟨cs, hcells, htr⟩ := h4
        obtain ⟨_, hl2, hcell⟩ := World.cells?_some hcells
        obtain ⟨y, rfl, hgy⟩ := leaf _ _ _ htr
        refine ⟨l ++ [y], by simp [h1], fun z hz => ?_, fun i z hz j u hj => ?_⟩
        · rcases List.mem_append.1 hz with h | h
          · exact h2 z h
          · rw [List.mem_singleton.1 h]; exact hgy
        · by_cases hil : i < l.length
          · rw [List.getElem?_append_left hil] at hz
            exact h3 i z hz j u hj
          · have him : i = m := by
              have := (List.getElem?_eq_some_iff.1 hz).1
              rw [List.length_append] at this
              simp only [List.length_cons, List.length_nil] at this
              omega
            subst him
            rw [List.getElem?_append_right (by omega), h1, Nat.sub_self] at hz
            have e : y = z := by simpa using hz
            subst e
            have hjl := (List.getElem?_eq_some_iff.1 hj).1
            have h6 := hcell j (by omega)
            rw [hc, Addr.add_add] at h6
            rw [Nat.zero_add, h6]
            exact hj
    obtain ⟨l, h1, h2, h3⟩ := key len (Nat.le_refl _)
    have hgl : ∀ y ∈ l, (gc y).length = sz := fun y hy => hg y (h2 y hy)
    refine ⟨l, h1.symm, ⟨flat_len hgl, by unfold maxLen at hm; omega, fun _ => ⟨x, rfl, fun j u hj => ?_⟩⟩, by omega, h2⟩
    have h7 := flat_cells hgl (k := 0) h3 j u hj
    rwa [Nat.zero_mul, Nat.zero_add] at h7
end
end Go.Proofs.Ytnneoipoaoefkaa.Eng
