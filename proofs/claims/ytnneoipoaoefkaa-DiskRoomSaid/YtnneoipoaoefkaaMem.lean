/- What single operations on memory come to: blocks, rows of the call's own, rows that are read. -/
import Derived.Test.YtnneoipoaoefkaaSep
import Derived.Laws.IdiomStrings
import Derived.Laws.BytesArg
namespace Go.Proofs.Ytnneoipoaoefkaa.Eng
open Go Go.RowKit
set_option linter.unusedVariables false
set_option linter.unusedSimpArgs false

/-- A type's zero value, its cells, its bytes. -/
def TI (P : Program) (t : TypeId) (z : Value) (sz by_ : Nat) : Prop := (P.info? t).map (fun i => (i.zero, i.size, i.bytes)) = some (some z, sz, by_)
section
variable {P : Program} {ρ : Operand → Value} {w w' w0 : World} {dst : Option Tmp} {ty : TypeId} {pos : String} {aft : Array Edge} {g : Option (Nat × Bool)} {L : List HP} {A : HP}
theorem TI.info {t : TypeId} {z : Value} {sz by_ : Nat} (h : TI P t z sz by_) : ∃ i, P.info? t = some i ∧ i.zero = some z ∧ i.size = sz ∧ i.bytes = by_ := by
  obtain ⟨i, hi, hz⟩ := Option.map_eq_some_iff.1 h
  simp only [Prod.mk.injEq] at hz
  exact ⟨i, hi, hz.1, hz.2.1, hz.2.2⟩
theorem TI.size {t : TypeId} {z : Value} {sz by_ : Nat} (h : TI P t z sz by_) (w : World) : (sizeOf t).run P w = .ok sz w := by
  obtain ⟨i, hi, _, hs, _⟩ := h.info
  simp [sizeOf, typeInfo, hi, hs]
theorem add_lit (b o j : Nat) : (⟨b, o, none⟩ : Addr).add j = ⟨b, o + j, none⟩ := by unfold Addr.add; split <;> simp_all
theorem r_alloc {t : TypeId} {z : Value} {sz by_ : Nat} {l : List Value} (h : TI P t z sz by_) (hl : z.cells = l.toArray := by rfl) :
    Run P ρ ⟨dst, .alloc t, ty, pos, aft, g⟩ w (.pointer (some ⟨w.heap.size, 0, none⟩)) (w.alloc (.cells l.toArray t (0, 0))) := by
  obtain ⟨i, hi, hz, _⟩ := h.info
  left
  simp [execOp, Instr.alloc, zeroValue, typeInfo, hi, hz, newVar, newRow, hl]
theorem r_box {t : TypeId} {x : Operand} {v : Value} {l : List Value} (hx : ρ x = v) (hl : v.cells = l.toArray := by rfl) :
    Run P ρ ⟨dst, .box t x, ty, pos, aft, g⟩ w (.pointer (some ⟨w.heap.size, 0, none⟩)) (w.alloc (.cells l.toArray t (0, 0))) := by
  left
  simp [execOp, Instr.box, hx, newVar, newRow, hl]
theorem cell_blk {b o : Nat} {l : List Value} {T : TypeId} {fr : Nat × Nat} (hb : w.heap[b]? = some (.cells l.toArray T fr)) : w.cell? ⟨b, o, none⟩ = l[o]? := by
  rw [cell_of_row w b o _ T fr hb]; simp
def notRow : TypeDesc → Bool
  | .struct _ | .array _ _ => false
  | _ => true
theorem run_isAgg_no {t : TypeId} {d : TypeDesc} (ht : P.underlying t = some d) (hd : notRow d = true) : (isAgg t).run P w = .ok false w := by
  simp only [isAgg, Sem.run_bind, run_underlying ht, Result.andThen_ok]
  cases d <;> first | rfl | cases hd
theorem run_isAgg_yes {t : TypeId} {d : TypeDesc} (ht : P.underlying t = some d) (hd : notRow d = false) : (isAgg t).run P w = .ok true w := by
  simp only [isAgg, Sem.run_bind, run_underlying ht, Result.andThen_ok]
  cases d <;> first | rfl | cases hd
theorem run_loadVar_one {t : TypeId} {d : TypeDesc} {p : Addr} {v : Value} (ht : P.underlying t = some d) (hd : notRow d = true) (hc : w.cell? p = some v) : (loadVar t p).run P w = .ok v w := by
  simp only [loadVar, Sem.run_bind, run_isAgg_no ht hd, Result.andThen_ok, Bool.false_eq_true, if_false, run_load, hc]
/-- A cell is read. -/
theorem r_load {t : TypeId} {d : TypeDesc} {x : Operand} {p : Addr} {v : Value} (ht : P.underlying t = some d) (hx : ρ x = .pointer (some p)) (hc : w.cell? p = some v) (hd : notRow d = true := by rfl) :
    Run P ρ ⟨dst, .load t x, ty, pos, aft, g⟩ w v w := by
  left
  simp only [execOp, hx, Instr.loadAt, Instr.sureAddr, Sem.run_bind, Sem.run_pure, Result.andThen_ok, run_loadVar_one ht hd hc]
theorem run_loadVar_agg {t : TypeId} {d : TypeDesc} {b o sz by_ : Nat} {z : Value} {cs : List Value} (ht : P.underlying t = some d) (hd : notRow d = false) (hi : TI P t z sz by_) (hn : cs.length = sz)
    (hc : ∀ j u, cs[j]? = some u → w.cell? ⟨b, o + j, none⟩ = some u) : (loadVar t ⟨b, o, none⟩).run P w = .ok (.agg cs.toArray) w := by
  have hl : (loadCells ⟨b, o, none⟩ cs.length).run P w = .ok cs.toArray w := run_loadCells_list (P := P) w ⟨b, o, none⟩ cs (fun j v hv => by rw [add_lit]; exact hc j v hv)
  simp only [loadVar, Sem.run_bind, run_isAgg_yes ht hd, Result.andThen_ok, if_true, hi.size, ← hn, hl, Sem.run_pure]
/-- A struct or an array is read, out of the midst of a block. -/
theorem r_load_agg {t : TypeId} {d : TypeDesc} {x : Operand} {b o sz by_ : Nat} {z : Value} {cs : List Value} (ht : P.underlying t = some d) (hi : TI P t z sz by_) (hx : ρ x = .pointer (some ⟨b, o, none⟩))
    (hc : ∀ j u, cs[j]? = some u → w.cell? ⟨b, o + j, none⟩ = some u) (hn : cs.length = sz) (hd : notRow d = false := by rfl) : Run P ρ ⟨dst, .load t x, ty, pos, aft, g⟩ w (.agg cs.toArray) w := by
  left
  simp only [execOp, hx, Instr.loadAt, Instr.sureAddr, Sem.run_bind, Sem.run_pure, Result.andThen_ok, run_loadVar_agg ht hd hi hn hc]
theorem cells_whole {b : Nat} {l : List Value} {T : TypeId} {fr : Nat × Nat} (hb : w.heap[b]? = some (.cells l.toArray T fr)) : ∀ j u, l[j]? = some u → w.cell? ⟨b, 0 + j, none⟩ = some u := by
  intro j u hu; rw [cell_blk hb, Nat.zero_add]; exact hu
theorem frozen_blk {b o : Nat} {cs : Array Value} {T : TypeId} (hb : w.heap[b]? = some (.cells cs T (0, 0))) : w.frozen? ⟨b, o, none⟩ = false := by simp [World.frozen?, hb]
theorem cells_one {v : Value} (h : v.oneCell' = true) : v.cells = #[v] := by cases v <;> first | rfl | cases h
theorem run_storeVar_cell {t : TypeId} {p : Addr} {v u z : Value} {by_ : Nat} (hi : TI P t z 1 by_) (hc : w.cell? p = some u) (hf : w.frozen? p = false) (h1 : v.oneCell' = true) : (storeVar t p v).run P w = .ok () (w.setCell p v) := by
  have ha : p.add 0 = p := by simp [Addr.add]
  simp [storeVar, hi.size, cells_one h1, storeCells, ha, run_store P w p v .plain h1, hc, hf]
/-- A cell is written. -/
theorem r_store {t : TypeId} {x y : Operand} {p : Addr} {v u z : Value} {by_ : Nat} (hi : TI P t z 1 by_) (hx : ρ x = .pointer (some p)) (hy : ρ y = v) (hc : w.cell? p = some u) (hf : w.frozen? p = false) (h1 : v.oneCell' = true := by rfl) :
    Run P ρ ⟨dst, .store t x y, ty, pos, aft, g⟩ w undef (w.setCell p v) := by
  right
  simp only [execOp, hx, hy, Instr.storeAt, Instr.sureAddr, Sem.run_bind, Sem.run_pure, Result.andThen_ok, run_storeVar_cell hi hc hf h1, and_self]
theorem run_storeVar_agg {t : TypeId} {b o sz by_ : Nat} {z : Value} {l vs : List Value} {T : TypeId} (hi : TI P t z sz by_) (hb : w.heap[b]? = some (.cells l.toArray T (0, 0))) (hn : vs.length = sz) (hl : o + sz ≤ l.length) (h1 : ∀ v ∈ vs, v.oneCell' = true) :
    (storeVar t ⟨b, o, none⟩ (.agg vs.toArray)).run P w = .ok () (w.setRow b (l.take o ++ vs ++ l.drop (o + sz)).toArray) := by
  have h := run_storeCells_at P b o T vs 0 l.toArray w hb (by simp; omega) h1
  simp only [Nat.add_zero] at h
  rw [hn] at h
  simp [storeVar, hi.size, Value.cells, hn, h]
/-- A struct or an array is written. -/
theorem r_store_agg {t : TypeId} {x y : Operand} {b o sz by_ : Nat} {z : Value} {l vs : List Value} {T : TypeId} (hi : TI P t z sz by_) (hx : ρ x = .pointer (some ⟨b, o, none⟩)) (hy : ρ y = .agg vs.toArray)
    (hb : w.heap[b]? = some (.cells l.toArray T (0, 0))) (hn : vs.length = sz) (hl : o + sz ≤ l.length) (h1 : ∀ v ∈ vs, v.oneCell' = true) :
    Run P ρ ⟨dst, .store t x y, ty, pos, aft, g⟩ w undef (w.setRow b (l.take o ++ vs ++ l.drop (o + sz)).toArray) := by
  right
  simp only [execOp, hx, hy, Instr.storeAt, Instr.sureAddr, Sem.run_bind, Sem.run_pure, Result.andThen_ok, run_storeVar_agg hi hb hn hl h1, and_self]

/-! places -/
/-- Where a field lies in its struct, in cells; its type. -/
def fOff (P : Program) (s : TypeId) (f : Nat) : Option (Nat × TypeId) :=
  match P.underlying s with
  | some (.struct fs) => match fs[f]? with
    | some fl => if (P.info? fl.type).map (·.size) = some 0 ∨ (P.info? fl.type).isNone then none else some (fl.offset, fl.type)
    | none => none
  | _ => none
theorem fOff_spec {s : TypeId} {f off : Nat} {T : TypeId} (h : fOff P s f = some (off, T)) : ∃ fs fl i, P.underlying s = some (.struct fs) ∧ fs[f]? = some fl ∧ fl.offset = off ∧ fl.type = T ∧ P.info? T = some i ∧ i.size ≠ 0 := by
  unfold fOff at h
  cases hu : P.underlying s with
  | none => rw [hu] at h; cases h
  | some d =>
    rw [hu] at h
    cases d with
    | struct fs =>
      simp only at h
      cases hf : fs[f]? with
      | none => rw [hf] at h; cases h
      | some fl =>
        rw [hf] at h
        simp only at h
        split at h
        · cases h
        · rename_i hn
          simp only [Option.some.injEq, Prod.mk.injEq] at h
          cases hi : P.info? fl.type with
          | none => rw [hi] at hn; simp at hn
          | some i =>
            rw [hi] at hn
            simp at hn
            exact ⟨fs, fl, i, rfl, hf, h.1, h.2, h.2 ▸ hi, hn⟩
    | _ => cases h
theorem r_fieldAddr {s : TypeId} {x : Operand} {f b o off : Nat} {T : TypeId} (hf : fOff P s f = some (off, T)) (hx : ρ x = .pointer (some ⟨b, o, none⟩)) :
    Run P ρ ⟨dst, .fieldAddr s x f, ty, pos, aft, g⟩ w (.pointer (some ⟨b, o + off, none⟩)) w := by
  obtain ⟨fs, fl, i, hu, hfl, ho, hT, hi, hn⟩ := fOff_spec hf
  left
  simp [execOp, hx, Instr.fieldAt, run_underlying hu, hfl, Instr.sureAddr, fieldPlace, sizeOf, typeInfo, hT, hi, hn, ho, add_lit]
theorem r_field {s : TypeId} {x : Operand} {f off : Nat} {T : TypeId} {d : TypeDesc} {cs : List Value} {v : Value} (hf : fOff P s f = some (off, T)) (hx : ρ x = .agg cs.toArray) (hT : P.underlying T = some d) (hv : cs[off]? = some v) (hd : notRow d = true := by rfl) :
    Run P ρ ⟨dst, .field s x f, ty, pos, aft, g⟩ w v w := by
  obtain ⟨fs, fl, i, hu, hfl, ho, hTT, hi, hn⟩ := fOff_spec hf
  subst hTT; subst ho
  left
  simp [execOp, hx, Instr.field, run_underlying hu, hfl, asAgg, part, run_isAgg_no hT hd, hv]
theorem r_field_agg {s : TypeId} {x : Operand} {f off sz by_ : Nat} {T : TypeId} {d : TypeDesc} {cs : List Value} {z : Value} (hf : fOff P s f = some (off, T)) (hx : ρ x = .agg cs.toArray) (hT : P.underlying T = some d) (hi' : TI P T z sz by_) (hd : notRow d = false := by rfl) :
    Run P ρ ⟨dst, .field s x f, ty, pos, aft, g⟩ w (.agg ((cs.drop off).take sz).toArray) w := by
  obtain ⟨fs, fl, i, hu, hfl, ho, hTT, hi, hn⟩ := fOff_spec hf
  subst hTT; subst ho
  left
  have e : (cs.toArray.extract fl.offset (fl.offset + sz)) = ((cs.drop fl.offset).take sz).toArray := by
    apply Array.ext'; simp [List.extract_eq_take_drop]
  simp [execOp, hx, Instr.field, run_underlying hu, hfl, asAgg, part, run_isAgg_yes hT hd, hi'.size, e]
/-- An element's place in an array. -/
theorem r_indexAddr_a {t e : TypeId} {x y : Operand} {b o k len sz by_ : Nat} {z : Value} (ht : P.underlying t = some (.array len e)) (hi : TI P e z sz by_) (hx : ρ x = .pointer (some ⟨b, o, none⟩)) (hy : ρ y = iV (k : Int)) (hk : k < len) :
    Run P ρ ⟨dst, .indexAddr t x y, ty, pos, aft, g⟩ w (.pointer (some ⟨b, o + k * sz, none⟩)) w := by
  left
  have h1 : (0 : Int) ≤ (k : Int) ∧ (k : Int) < (len : Int) := by omega
  simp [execOp, hx, hy, Instr.indexAt, asIntOf, run_underlying ht, Instr.sureAddr, hi.size, hk, add_lit]
/-- .. in a slice. -/
theorem r_indexAddr_l {t e : TypeId} {x y : Operand} {ad : Addr} {k n c sz by_ : Nat} {z : Value} (ht : P.underlying t = some (.slice e)) (hi : TI P e z sz by_) (hx : ρ x = .slice (some ad) n c) (hy : ρ y = iV (k : Int)) (hk : k < n) :
    Run P ρ ⟨dst, .indexAddr t x y, ty, pos, aft, g⟩ w (.pointer (some (ad.add (k * sz)))) w := by
  left
  simp [execOp, hx, hy, Instr.indexAt, asIntOf, run_underlying ht, Instr.sureAddr, hi.size, hk]
theorem r_indexAddr_a0 {t e : TypeId} {x y : Operand} {b k len by_ : Nat} {z : Value} (ht : P.underlying t = some (.array len e)) (hi : TI P e z 1 by_) (hx : ρ x = .pointer (some ⟨b, 0, none⟩)) (hy : ρ y = iV (k : Int)) (hk : k < len) :
    Run P ρ ⟨dst, .indexAddr t x y, ty, pos, aft, g⟩ w (.pointer (some ⟨b, k, none⟩)) w := by
  have h := r_indexAddr_a (P := P) (w := w) (dst := dst) (ty := ty) (pos := pos) (aft := aft) (g := g) ht hi hx hy hk
  rwa [Nat.mul_one, Nat.zero_add] at h
theorem r_indexAddr_l1 {t e : TypeId} {x y : Operand} {ad : Addr} {k n c by_ : Nat} {z : Value} (ht : P.underlying t = some (.slice e)) (hi : TI P e z 1 by_) (hx : ρ x = .slice (some ad) n c) (hy : ρ y = iV (k : Int)) (hk : k < n) :
    Run P ρ ⟨dst, .indexAddr t x y, ty, pos, aft, g⟩ w (.pointer (some (ad.add k))) w := by
  have h := r_indexAddr_l (P := P) (w := w) (dst := dst) (ty := ty) (pos := pos) (aft := aft) (g := g) ht hi hx hy hk
  rwa [Nat.mul_one] at h
theorem r_indexAddr_o1 {t e : TypeId} {x y : Operand} {b k n c by_ : Nat} {z : Value} (ht : P.underlying t = some (.slice e)) (hi : TI P e z 1 by_) (hx : ρ x = .slice (some ⟨b, 0, none⟩) n c) (hy : ρ y = iV (k : Int)) (hk : k < n) :
    Run P ρ ⟨dst, .indexAddr t x y, ty, pos, aft, g⟩ w (.pointer (some ⟨b, k, none⟩)) w := by
  have h := r_indexAddr_l1 (P := P) (w := w) (dst := dst) (ty := ty) (pos := pos) (aft := aft) (g := g) ht hi hx hy hk
  rwa [add_lit, Nat.zero_add] at h
/-- An element of an array that is a value. -/
theorem r_index_a {t e : TypeId} {x y : Operand} {k len by_ : Nat} {z v : Value} {d : TypeDesc} {cs : List Value} (ht : P.underlying t = some (.array len e)) (hi : TI P e z 1 by_) (he : P.underlying e = some d) (hx : ρ x = .agg cs.toArray) (hy : ρ y = iV (k : Int)) (hk : k < len) (hv : cs[k]? = some v) (hd : notRow d = true := by rfl) :
    Run P ρ ⟨dst, .index t x y, ty, pos, aft, g⟩ w v w := by
  left
  simp [execOp, hx, hy, Instr.index, asIntOf, run_underlying ht, hi.size, hk, part, run_isAgg_no he hd, hv]

/-! rows that are read -/
/-- A slice whose cells are these. -/
def Rd (w : World) (sz : Nat) (A : Option Addr) (n : Nat) (cs : List Value) : Prop :=
  cs.length = n * sz ∧ n ≤ 9223372036854775807 ∧ (0 < n → ∃ ad, A = some ad ∧ ∀ j u, cs[j]? = some u → w.cell? (ad.add j) = some u)
theorem Rd.below {sz n : Nat} {A : Option Addr} {cs : List Value} (h : Rd w sz A n cs) (hb : Below w.heap.size w w') : Rd w' sz A n cs :=
  ⟨h.1, h.2.1, fun hn => let ⟨ad, e, hc⟩ := h.2.2 hn; ⟨ad, e, fun j u hu => by
    have h1 := hc j u hu
    exact (hb.cell (World.block_lt_of_cell? w _ h1)).trans h1⟩⟩
theorem Rd.none_ (w : World) (sz : Nat) (A : Option Addr) : Rd w sz A 0 [] := ⟨by simp, by omega, fun h => absurd h (by omega)⟩
theorem Rd.ad {sz n : Nat} {A : Option Addr} {cs : List Value} (h : Rd w sz A n cs) (hn : 0 < n) : ∃ ad, A = some ad ∧ ∀ j u, cs[j]? = some u → w.cell? (ad.add j) = some u := h.2.2 hn
theorem add_add (a : Addr) (i j : Nat) : (a.add i).add j = a.add (i + j) := by
  unfold Addr.add
  by_cases hi : i = 0 <;> by_cases hj : j = 0 <;> simp [hi, hj, Nat.add_assoc]
/-- A part of it. -/
theorem Rd.cut {sz n c : Nat} {A : Option Addr} {cs : List Value} (h : Rd w sz A n cs) {i j : Nat} (hij : i ≤ j) (hj : j ≤ n) (hc : n ≤ c) : Rd w sz (if c = i then A else A.map (·.add (i * sz))) (j - i) ((cs.drop (i * sz)).take ((j - i) * sz)) := by
  have hl := h.1
  refine ⟨?_, by have := h.2.1; omega, fun hn => ?_⟩
  · rw [List.length_take, List.length_drop, hl, ← Nat.sub_mul]
    exact Nat.min_eq_left (Nat.mul_le_mul_right _ (by omega))
  · obtain ⟨ad, rfl, hcell⟩ := h.2.2 (by omega)
    rw [if_neg (by omega)]
    refine ⟨_, rfl, fun k u hu => ?_⟩
    rw [add_add]
    rw [List.getElem?_take] at hu
    split at hu
    · rw [List.getElem?_drop] at hu; exact hcell _ _ hu
    · cases hu
/-! rows of the call's own -/
/-- A slice of the call's own: it begins at its block's head, room may lie behind it. -/
def RowC (e : TypeId) (sz : Nat) (v : Value) (n : Nat) (xs : List Value) : HP := fun h => xs.length = n * sz ∧
  ((v = .slice none 0 0 ∧ n = 0 ∧ ∀ k, h k = none) ∨
   ∃ b cap cur, v = .slice (some ⟨b, 0, none⟩) n cap ∧ n ≤ cap ∧ cap ≤ maxLen ∧ cur.length = cap * sz ∧ cur.take (n * sz) = xs ∧ blk b cur e h)
theorem Sep.rowNil (hs : Sep w0 w L) (e : TypeId) (sz : Nat) : Sep w0 w (RowC e sz (.slice none 0 0) 0 [] :: L) :=
  hs.nothing.imp fun h hn => ⟨by simp, .inl ⟨rfl, rfl, hn⟩⟩
theorem Sep.rowOf {b : Nat} {cur : List Value} {e : TypeId} (hs : Sep w0 w (blk b cur e :: L)) (sz n cap : Nat) (h1 : n ≤ cap) (h2 : cap ≤ maxLen) (h3 : cur.length = cap * sz) :
    Sep w0 w (RowC e sz (.slice (some ⟨b, 0, none⟩) n cap) n (cur.take (n * sz)) :: L) :=
  hs.imp fun h hb => ⟨by rw [List.length_take, h3]; exact Nat.min_eq_left (Nat.mul_le_mul_right _ h1), .inr ⟨b, cap, cur, rfl, h1, h2, h3, rfl, hb⟩⟩
theorem Sep.rowCases {e : TypeId} {sz n : Nat} {v : Value} {xs : List Value} (hs : Sep w0 w (RowC e sz v n xs :: L)) : xs.length = n * sz ∧
    ((v = .slice none 0 0 ∧ n = 0 ∧ xs = [] ∧ Sep w0 w L) ∨ ∃ b cap cur, v = .slice (some ⟨b, 0, none⟩) n cap ∧ n ≤ cap ∧ cap ≤ maxLen ∧ cur.length = cap * sz ∧ cur.take (n * sz) = xs ∧ Sep w0 w (blk b cur e :: L)) := by
  obtain ⟨hb, h, ⟨h1, h2, hd, rfl, ⟨hl, hA⟩, hL⟩, hk⟩ := hs
  refine ⟨hl, ?_⟩
  rcases hA with ⟨rfl, rfl, hn⟩ | ⟨b, cap, cur, rfl, a1, a2, a3, a4, hB⟩
  · exact .inl ⟨rfl, rfl, List.eq_nil_of_length_eq_zero (by simpa using hl), hb, h2, hL, fun k o e => hk k o (join_right hd e)⟩
  · exact .inr ⟨b, cap, cur, rfl, a1, a2, a3, a4, hb, _, ⟨h1, h2, hd, rfl, hB, hL⟩, hk⟩
theorem Sep.rowLen {e : TypeId} {sz n : Nat} {v : Value} {xs : List Value} (hs : Sep w0 w (RowC e sz v n xs :: L)) : xs.length = n * sz := hs.rowCases.1
theorem Sep.rowForm {e : TypeId} {sz n : Nat} {v : Value} {xs : List Value} (hs : Sep w0 w (RowC e sz v n xs :: L)) : ∃ A c, v = .slice A n c ∧ n ≤ c := by
  rcases hs.rowCases.2 with ⟨rfl, rfl, _⟩ | ⟨b, cap, cur, rfl, h, _⟩
  · exact ⟨none, 0, rfl, Nat.le_refl _⟩
  · exact ⟨_, _, rfl, h⟩
theorem Sep.rd {e : TypeId} {sz n c : Nat} {A : Option Addr} {xs : List Value} (hs : Sep w0 w (RowC e sz (.slice A n c) n xs :: L)) : Rd w sz A n xs := by
  obtain ⟨hl, hc⟩ := hs.rowCases
  rcases hc with ⟨h1, rfl, rfl, _⟩ | ⟨b, cap, cur, h1, h2, h3, h4, h5, hS⟩
  · exact Rd.none_ _ _ _
  · injection h1 with h1
    subst h1
    refine ⟨hl, by simp only [maxLen] at h3; omega, fun hn => ⟨_, rfl, fun j u hu => ?_⟩⟩
    rw [add_lit, Nat.zero_add, cell_blk hS.get.1]
    rw [← h5, List.getElem?_take] at hu
    split at hu
    · exact hu
    · cases hu
/-- A cell of the row is written. -/
theorem Sep.rowSet {e : TypeId} {sz n c b : Nat} {xs : List Value} (hs : Sep w0 w (RowC e sz (.slice (some ⟨b, 0, none⟩) n c) n xs :: L)) (k : Nat) (v : Value) (hk : k < xs.length) :
    w.cell? ⟨b, k, none⟩ = xs[k]? ∧ w.frozen? ⟨b, k, none⟩ = false ∧ Sep w0 (w.setCell ⟨b, k, none⟩ v) (RowC e sz (.slice (some ⟨b, 0, none⟩) n c) n (xs.set k v) :: L) := by
  obtain ⟨hl, hc⟩ := hs.rowCases
  rcases hc with ⟨h1, _⟩ | ⟨b', cap, cur, h1, h2, h3, h4, h5, hS⟩
  · cases h1
  · injection h1 with h1 _ h1c
    injection h1 with h1
    injection h1 with h1
    subst h1; subst h1c
    have hkn : k < n * sz := by omega
    refine ⟨?_, frozen_blk hS.get.1, ?_⟩
    · rw [cell_blk hS.get.1, ← h5, List.getElem?_take, if_pos hkn]
    · have := (hS.setCell k v).rowOf sz n c h2 h3 (by simpa using h4)
      rw [List.take_set, h5] at this
      exact this

/-- A block is read as a row. -/
theorem rd_blk {b n sz : Nat} {c : List Value} {T : TypeId} {fr : Nat × Nat} (hb : w.heap[b]? = some (.cells c.toArray T fr)) (hn : c.length = n * sz) (hm : n ≤ 9223372036854775807) : Rd w sz (some ⟨b, 0, none⟩) n c :=
  ⟨hn, hm, fun _ => ⟨_, rfl, fun j u hu => by rw [add_lit, Nat.zero_add, cell_blk hb]; exact hu⟩⟩
/-! texts and bytes -/
abbrev ofL (l : List UInt8) : ByteArray := ⟨l.toArray⟩
abbrev toL (s : ByteArray) : List UInt8 := s.data.toList
theorem strOf (l : List UInt8) : strOfNums (l.map fun c => (c.toNat : Int)) = ofL l := by
  unfold strOfNums ofL
  simp only [List.map_map]
  congr 2
  conv => rhs; rw [← List.map_id l]
  refine List.map_congr_left fun c _ => ?_
  simp
theorem r_cv_bs {t u e : TypeId} {x : Operand} {A : Option Addr} {n c : Nat} {l : List UInt8} (ht : P.underlying t = some (.slice e)) (he : P.underlying e = some (.int .u8)) (hu : P.underlying u = some .string) (hx : ρ x = .slice A n c) (hr : Rd w 1 A n (l.map u8V)) :
    Run P ρ ⟨dst, .convert t u x, ty, pos, aft, g⟩ w (sV (ofL l)) w := by
  left
  have hl : l.length = n := by have := hr.1; simpa using this
  have hrun : (convert t u (.slice A n c)).run P w = .ok (.string (ofL l)) w := by
    rcases Nat.eq_zero_or_pos n with h0 | h0
    · subst h0
      obtain rfl : l = [] := List.eq_nil_of_length_eq_zero hl
      cases A with
      | none => exact run_convert_bytes_nil w t e ht he 0 c u hu
      | some ad => 
        have := run_convert_bytes_arg w t e ht he ad.block ad.off 0 c [] rfl (fun i hi => by omega) u hu
        simp only [convert, Sem.run_bind, run_underlying ht, run_underlying hu, run_underlying he, Result.andThen_ok] at this ⊢
        simp [Conv.bytesToString, loadCells, loadCellsFrom] at this ⊢
        rfl
    · obtain ⟨ad, rfl, hc⟩ := hr.2.2 h0
      have hls : (loadCells ad n).run P w = .ok ((l.map fun c => (c.toNat : Int)).map (Value.int .u8)).toArray w := by
        have := run_loadCells_list (P := P) w ad (l.map u8V) hc
        rw [List.length_map, hl] at this
        rw [this, List.map_map]
        rfl
      rw [run_convert_bytes_string w t u e _ n c ht he hu, run_bytesToString w _ n c _ hls, foldl_push_bytes, ← strOf]
      simp [strOfNums, ByteArray.empty, ByteArray.emptyWithCapacity]
      rfl
  simp only [execOp, hx, Sem.run_bind, Result.andThen_ok, hrun, Sem.run_pure]

/-! append -/
theorem run_append_nothing' {t u e : TypeId} {i : TypeInfo} (ht : P.underlying t = some (.slice e)) (hi : P.info? e = some i) {A : Option Addr} {n c c' : Nat} (hn : n ≤ c) :
    (Builtin.append_ #[t, t] ty #[.slice A n c, .slice none 0 c']).run P w = .ok (.slice A n c) w := by
  cases A <;> simp [Builtin.append_, run_underlying ht, sizeOf, typeInfo, hi, Builtin.lenOf, Builtin.firstCells, hn, storeCells]
theorem append_row {t e : TypeId} {z : Value} {sz by_ n m c : Nat} {v : Value} {xs news : List Value} {A : Option Addr} (ht : P.underlying t = some (.slice e)) (hi : TI P e z sz by_) (hz : z.cells.size = sz) (hsz : 0 < sz)
    (hs : Sep w0 w (RowC e sz v n xs :: L)) (hr : Rd w sz A m news) (h1 : ∀ u ∈ news, u.oneCell' = true) (h63 : n + m ≤ maxLen) (hby : (n + m) * by_ ≤ 140737488355328) :
    ∃ v' w', (Builtin.append_ #[t, t] ty #[v, .slice A m c]).run P w = .ok v' w' ∧ Sep w0 w' (RowC e sz v' (n + m) (xs ++ news) :: L) := by
  obtain ⟨i, hi1, hi2, hi3, hi4⟩ := hi.info
  have hform := hs.rowForm
  obtain ⟨Av, cv, rfl, hcv⟩ := hform
  obtain ⟨hl, hcases⟩ := hs.rowCases
  rcases Nat.eq_zero_or_pos m with h0 | h0
  · subst h0
    have hn : news = [] := List.eq_nil_of_length_eq_zero (by simpa using hr.1)
    subst hn
    refine ⟨.slice Av n cv, w, ?_, by simpa using hs⟩
    cases A with
    | none => exact run_append_nothing' (u := t) ht hi1 hcv
    | some ad => cases Av <;> simp [Builtin.append_, run_underlying ht, sizeOf, typeInfo, hi1, Builtin.lenOf, Builtin.firstCells, loadCells, loadCellsFrom, hcv, storeCells]
  · obtain ⟨ad, rfl, hcell⟩ := hr.2.2 h0
    have hown : w.ownsRow w0.heap.size e sz (.slice Av n cv) n xs := by
      refine ⟨hl, ?_⟩
      rcases hcases with ⟨a1, a2, _⟩ | ⟨b, cap, cur, a1, a2, a3, a4, a5, hS⟩
      · exact .inl ⟨a1, a2⟩
      · exact .inr ⟨b, cap, cur.toArray, a1, hS.get.2, hS.get.1, a2, a3, by simpa using a4, by simpa using a5⟩
    obtain ⟨v', w', hrun, ho, hg, _, hat⟩ := run_append_own_at (P := P) w w0.heap.size t ty e i z sz by_ ht hi1 hi2 hi3 hi4 hz hsz (.slice Av n cv) n xs hown ad m c news hr.1 hcell h1 h63 hby hs.size
    refine ⟨v', w', hrun, hs.change ⟨hg.os, hg.tape, hg.output, hg.size⟩ fun h hA hk => ?_⟩
    rcases ho.2 with ⟨_, b2⟩ | ⟨b, cap, cur, rfl, b2, b3, b4, b5, b6, b7⟩
    · omega
    · refine ⟨single b (.cells cur e (0, 0)), ⟨ho.1, .inr ⟨b, cap, cur.toList, rfl, b4, b5, by simpa using b6, b7, by simp [Eng.obj]⟩⟩, fun k o e => ?_, fun k hkl hn => ?_⟩
      · unfold single at e
        split at e
        · rename_i hkb
          subst hkb
          injection e with e
          subst e
          refine ⟨b3, ?_⟩
          rcases hat with hat | hat
          · left
            rcases hA.2 with ⟨c1, _⟩ | ⟨b', cap', cur', c1, _, _, _, _, hB⟩
            · rw [c1] at hat; simp [Value.ownBlock] at hat
            · rw [c1] at hat
              have : k = b' := by simpa [Value.ownBlock] using hat
              subst this
              rw [hB]; simp [single]
          · right
            have : k = w.heap.size := by simpa [Value.ownBlock] using hat
            omega
        · cases e
      · refine hg.block k hkl fun e => ?_
        rcases hA.2 with ⟨c1, _⟩ | ⟨b', cap', cur', c1, _, _, _, _, hB⟩
        · rw [c1] at e; simp [Value.ownBlock] at e
        · rw [c1] at e
          have : k = b' := by simpa [Value.ownBlock] using e
          subst this
          rw [hB] at hn; simp [single] at hn
/-- The bytes of a text, as cells. -/
def sCells (s : ByteArray) : List Value := s.data.toList.map u8V
theorem sCells_eq (s : ByteArray) : Lib.strCells s = sCells s := by simp [Lib.strCells, sCells]
theorem append_str {t u e : TypeId} {n : Nat} {v : Value} {xs : List Value} (s : ByteArray) (ht : P.underlying t = some (.slice e)) (hu : P.underlying u = some .string) (hi : TI P e (.int .u8 0) 1 1)
    (hs : Sep w0 w (RowC e 1 v n xs :: L)) (hby : n + s.size ≤ 140737488355328) :
    ∃ v' w', (Builtin.append_ #[t, u] ty #[v, .string s]).run P w = .ok v' w' ∧ Sep w0 w' (RowC e 1 v' (n + s.size) (xs ++ sCells s) :: L) := by
  obtain ⟨i, hi1, hi2, hi3, hi4⟩ := hi.info
  have hml : maxLen = 9223372036854775807 := rfl
  obtain ⟨hl, hcases⟩ := hs.rowCases
  have hsl : (sCells s).length = s.size := by simp only [sCells, List.length_map, Array.length_toList]; rfl
  rcases hcases with ⟨rfl, rfl, rfl, hS⟩ | ⟨b, cap, cur, rfl, h2, h3, h4, h5, hS⟩
  · by_cases hm : s.size = 0
    · refine ⟨.slice none 0 0, w, ?_, ?_⟩
      · have hf := Lib.run_firstCells_string (P := P) w 1 s
        rw [hm] at hf
        simp [Builtin.append_, run_underlying ht, run_underlying hu, sizeOf, typeInfo, hi1, hi3, Builtin.lenOf, hm, hf]
      · have : sCells s = [] := List.eq_nil_of_length_eq_zero (by omega)
        rw [hm, this]; exact hs
    · have hr := run_append_nil_string (P := P) w t u ty e i (.int .u8 0) ht hu hi1 hi2 s (by omega) (by omega) (by rw [hi4]; omega)
      have hge := grownCap_ge w s.size 0 e
      have hcm := grownCap_le_maxLen w s.size 0 e (by omega)
      have e1 : (s.data.map fun b => Value.int .u8 b.toNat) ++ Builtin.zeroCells (Value.int .u8 0).cells (grownCap w s.size 0 e - s.size) = (sCells s ++ (Builtin.zeroCells (Value.int .u8 0).cells (grownCap w s.size 0 e - s.size)).toList).toArray := by
        apply Array.ext'; simp [sCells]
      rw [e1] at hr
      refine ⟨_, _, hr, ?_⟩
      have := ((hS.drew.alloc (.cells (sCells s ++ (Builtin.zeroCells (Value.int .u8 0).cells (grownCap w s.size 0 e - s.size)).toList).toArray e (0, 0)))).rowOf 1 s.size (grownCap w s.size 0 e) hge hcm (by
        rw [List.length_append, hsl, Array.length_toList, size_zeroCells]; show s.size + (grownCap w s.size 0 e - s.size) * 1 = _; omega)
      rw [Nat.mul_one, ← hsl, List.take_left] at this
      rw [hsl] at this
      simpa using this
  · by_cases hroom : n + s.size ≤ cap
    · have hr := Lib.run_append_room_string (P := P) w t u ty e i ht hu hi1 hi3 b n cap cur.toArray hS.get.1 s hroom (by simp; omega)
      refine ⟨_, _, hr, ?_⟩
      have := (hS.setRow (l' := cur.take n ++ sCells s ++ cur.drop (n + s.size))).rowOf 1 (n + s.size) cap hroom h3 (by
        simp only [List.length_append, List.length_take, List.length_drop, hsl]; omega)
      have e2 : (cur.take n ++ sCells s ++ cur.drop (n + s.size)).take ((n + s.size) * 1) = xs ++ sCells s := by
        rw [Nat.mul_one] at h5 hl
        rw [h5, Nat.mul_one]
        have : (xs ++ sCells s).length = n + s.size := by rw [List.length_append, hl, hsl]
        rw [← this, List.take_left]
      rw [e2] at this
      rw [sCells_eq]
      exact this
    · have hx : ∀ j u, xs[j]? = some u → w.cell? ((⟨b, 0, none⟩ : Addr).add j) = some u := by
        have := (hs.rd).2.2
        intro j u' hu'
        rw [add_lit, Nat.zero_add, cell_blk hS.get.1]
        rw [← h5, List.getElem?_take] at hu'
        split at hu'
        · exact hu'
        · cases hu'
      have hr := Lib.run_append_grow_string (P := P) w t u ty e i (.int .u8 0) ht hu hi1 hi2 ⟨b, 0, none⟩ n cap xs (by rw [hi3]; exact hl) hx s (by omega) (by omega) (by rw [hi4]; exact growslice_fits (by omega) (by omega))
      have hge := grownCap_ge w (n + s.size) cap e
      have hcm := grownCap_le_maxLen w (n + s.size) cap e (by omega)
      have e1 : xs.toArray ++ (Lib.strCells s).toArray ++ Builtin.zeroCells (Value.int .u8 0).cells (grownCap w (n + s.size) cap e - (n + s.size)) = (xs ++ sCells s ++ (Builtin.zeroCells (Value.int .u8 0).cells (grownCap w (n + s.size) cap e - (n + s.size))).toList).toArray := by
        apply Array.ext'; simp [sCells_eq]
      rw [e1] at hr
      refine ⟨_, _, hr, ?_⟩
      have hxl : (xs ++ sCells s).length = (n + s.size) * 1 := by rw [List.length_append, hl, hsl]; omega
      have := ((hS.drop.drew.alloc (.cells (xs ++ sCells s ++ (Builtin.zeroCells (Value.int .u8 0).cells (grownCap w (n + s.size) cap e - (n + s.size))).toList).toArray e (0, 0)))).rowOf 1 (n + s.size) (grownCap w (n + s.size) cap e) hge hcm (by
        rw [List.length_append, hxl, Array.length_toList, size_zeroCells]; show (n + s.size) * 1 + (grownCap w (n + s.size) cap e - (n + s.size)) * 1 = _; omega)
      rw [← hxl, List.take_left] at this
      exact this
end
/-! the same as steps -/
section
variable {P : Program} {n : Nat} {f : Env} {w w0 : World} {Q : EPost} {ops : Array Oper} {rest : List Oper} {ty : TypeId} {pos : String} {aft : Array Edge} {d : Nat} {L : List HP}
theorem l_append {s x : Operand} {t e : TypeId} {z : Value} {sz by_ k m c : Nat} {v : Value} {xs news : List Value} {A : Option Addr} (ht : P.underlying t = some (.slice e)) (hi : TI P e z sz by_) (hz : z.cells.size = sz) (hsz : 0 < sz)
    (hv : ev f s = v) (hx : ev f x = .slice A m c) (hs : Sep w0 w (RowC e sz v k xs :: L)) (hr : Rd w sz A m news) (h1 : ∀ u ∈ news, u.oneCell' = true) (hby : (k + m) * by_ ≤ 140737488355328) (h63 : k + m ≤ 9223372036854775807)
    (h : ∀ v' w', Sep w0 w' (RowC e sz v' (k + m) (xs ++ news) :: L) → OkL P n ops Q rest (upd f d v') w') (hd : Nat.blt d n = true := by rfl) :
    OkL P n ops Q (⟨some d, .call { callee := .builtin .append, args := #[s, x], argTypes := #[t, t] }, ty, pos, aft, none⟩ :: rest) f w := by
  obtain ⟨v', w', hrun, hs'⟩ := append_row (P := P) (ty := ty) (c := c) ht hi hz hsz hs hr h1 h63 hby
  refine l_v (v := v') (w' := w') (.inl ?_) (h v' w' hs') hd
  simp only [execOp, resolve, invoke, builtin, Sem.run_bind, Sem.run_pure, Result.andThen_ok, List.map_toArray, List.map_cons, List.map_nil, hv, hx, hrun]
theorem l_append_s {s x : Operand} {t u e : TypeId} {k : Nat} {v : Value} {xs : List Value} {b : ByteArray} (ht : P.underlying t = some (.slice e)) (hu : P.underlying u = some .string) (hi : TI P e (.int .u8 0) 1 1)
    (hv : ev f s = v) (hx : ev f x = .string b) (hs : Sep w0 w (RowC e 1 v k xs :: L)) (hby : k + b.size ≤ 140737488355328)
    (h : ∀ v' w', Sep w0 w' (RowC e 1 v' (k + b.size) (xs ++ sCells b) :: L) → OkL P n ops Q rest (upd f d v') w') (hd : Nat.blt d n = true := by rfl) :
    OkL P n ops Q (⟨some d, .call { callee := .builtin .append, args := #[s, x], argTypes := #[t, u] }, ty, pos, aft, none⟩ :: rest) f w := by
  obtain ⟨v', w', hrun, hs'⟩ := append_str (P := P) (ty := ty) b ht hu hi hs hby
  refine l_v (v := v') (w' := w') (.inl ?_) (h v' w' hs') hd
  simp only [execOp, resolve, invoke, builtin, Sem.run_bind, Sem.run_pure, Result.andThen_ok, List.map_toArray, List.map_cons, List.map_nil, hv, hx, hrun]
end
end Go.Proofs.Ytnneoipoaoefkaa.Eng
