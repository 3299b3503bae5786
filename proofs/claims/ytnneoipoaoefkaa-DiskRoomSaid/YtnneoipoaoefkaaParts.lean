/- Parts of blocks: arrays within structs, read, written, taken as slices; copy out of a text. -/
import Derived.Test.YtnneoipoaoefkaaMore
import Derived.Lib.BufferWrite
import Derived.Great.FillDense
namespace Go.Proofs.Ytnneoipoaoefkaa.Eng
open Go Go.RowKit
set_option linter.unusedVariables false
set_option linter.unusedSimpArgs false
section
variable {P : Program} {ρ : Operand → Value} {w w' w0 : World} {dst : Option Tmp} {ty : TypeId} {pos : String} {aft : Array Edge} {g : Option (Nat × Bool)} {L : List HP}
/-- A part of a block is read. -/
theorem r_load_part {t : TypeId} {dd : TypeDesc} {x : Operand} {i b o sz by_ : Nat} {z : Value} {c cs : List Value} {T : TypeId} (hs : Sep w0 w L) (hi : L[i]? = some (blk b c T)) (ht : P.underlying t = some dd) (hI : TI P t z sz by_) (hx : ρ x = .pointer (some ⟨b, o, none⟩)) (hp : (c.drop o).take sz = cs) (hn : cs.length = sz) (hd : notRow dd = false := by rfl) :
    Run P ρ ⟨dst, .load t x, ty, pos, aft, g⟩ w (.agg cs.toArray) w := by
  refine r_load_agg ht hI hx (fun j u hj => ?_) hn hd
  rw [cell_blk (hs.at_ i hi).1]
  subst hp
  rw [List.getElem?_take] at hj
  split at hj
  · rw [List.getElem?_drop] at hj; exact hj
  · cases hj
theorem rd_part {b o n : Nat} {l cs : List Value} {T : TypeId} {fr : Nat × Nat} (hb : w.heap[b]? = some (.cells l.toArray T fr)) (hp : (l.drop o).take n = cs) (hn : cs.length = n) (hm : n ≤ 9223372036854775807) : Rd w 1 (some ⟨b, o, none⟩) n cs := by
  refine ⟨by omega, hm, fun _ => ⟨_, rfl, fun j u hj => ?_⟩⟩
  rw [add_lit, cell_blk hb]
  subst hp
  rw [List.getElem?_take] at hj
  split at hj
  · rw [List.getElem?_drop] at hj; exact hj
  · cases hj
/-- A part put into cells. -/
theorem put_part (l : List Value) (off : Nat) (cs : List Value) (h : off + l.length ≤ cs.length) :
    (l.zipIdx 0).foldl (fun (cs : Array Value) (x : Value × Nat) => cs.setIfInBounds (off + x.2) x.1) cs.toArray = (cs.take off ++ l ++ cs.drop (off + l.length)).toArray := by
  obtain ⟨h1, h2⟩ := Great.foldl_set off l 0 cs.toArray
  apply Array.ext_getElem?
  intro k
  rw [h2 k]
  simp only [Nat.add_zero, List.size_toArray, List.getElem?_toArray]
  by_cases hk : off ≤ k ∧ k < off + l.length ∧ k < cs.length
  · rw [if_pos hk, List.append_assoc, List.getElem?_append_right (by rw [List.length_take]; omega), List.length_take, Nat.min_eq_left (by omega), List.getElem?_append_left (by omega)]
  · rw [if_neg hk]
    by_cases hk2 : k < off
    · rw [List.append_assoc, List.getElem?_append_left (by rw [List.length_take]; omega), List.getElem?_take_of_lt hk2]
    · rw [List.getElem?_append_right (by rw [List.length_append, List.length_take]; omega), List.length_append, List.length_take, Nat.min_eq_left (by omega), List.getElem?_drop]
      congr 1
      omega
theorem fill_step {place : Nat → Option (Nat × Nat)} {i off : Nat} {v : Value} {l cs : List Value} {rest : List (Nat × Value)} {r : Array Value} (hp : place i = some (off, l.length)) (hv : v.cells = l.toArray) (ho : off + l.length ≤ cs.length)
    (hr : Instr.fill place (cs.take off ++ l ++ cs.drop (off + l.length)).toArray rest = some r) : Instr.fill place cs.toArray ((i, v) :: rest) = some r := by
  have hf := put_part l off cs ho
  unfold Instr.fill
  rw [hp]
  simp only [hv, List.size_toArray]
  rw [if_neg (by simp; omega)]
  rw [← hr, ← hf]
  congr 1
  rw [← Array.foldl_toList, Array.toList_zipIdx]
/-- Where a struct's fields lie. -/
def placesOf (P : Program) (t : TypeId) : Option (List (Nat × Nat)) := match P.underlying t with
  | some (.struct fields) => fields.toList.mapM fun f => (P.info? f.type).map fun i => (f.offset, i.size)
  | _ => none
theorem built_of {t : TypeId} {z : Value} {sz by_ : Nat} {places : List (Nat × Nat)} {cs : List Value} {parts : List (Nat × Value)} {r : Array Value} (hI : TI P t z sz by_) (hp : placesOf P t = some places) (hz : z.cells = cs.toArray)
    (hf : Instr.fill (places.toArray[·]?) cs.toArray parts = some r) : P.built t parts = some r := by
  obtain ⟨it, h1, h2, _⟩ := hI.info
  unfold placesOf at hp
  unfold Program.built
  rw [h1]
  cases hu : P.underlying t with
  | none => rw [hu] at hp; cases hp
  | some d =>
    rw [hu] at hp
    cases d with
    | struct fields =>
      simp only at hp
      simp only [h2, hp]
      rw [hz]
      exact hf
    | _ => cases hp
end
section
variable {P : Program} {n : Nat} {ops : Array Oper} {Q : EPost} {rest : List Oper} {f : Env} {w w0 : World} {d : Nat} {ty : TypeId} {pos : String} {aft : Array Edge} {L : List HP}
/-- copy of a text into a block. -/
theorem l_copy_s {t u e : TypeId} {x y : Operand} {i b m c by_ : Nat} {z : Value} {cur : List Value} {T : TypeId} {s : ByteArray} (hs : Sep w0 w L) (hi : L[i]? = some (blk b cur T)) (ht : P.underlying t = some (.slice e)) (hI : TI P e z 1 by_) (hx : ev f x = .slice (some ⟨b, 0, none⟩) m c) (hy : ev f y = sV s) (hm : s.size ≤ m) (hc : s.size ≤ cur.length)
    (h : ∀ w', Sep w0 w' (L.set i (blk b ((toL s).map u8V ++ cur.drop s.size) T)) → OkL P n ops Q rest (upd f d (iV (s.size : Int))) w') (hd : Nat.blt d n = true := by rfl) :
    OkL P n ops Q (⟨some d, .call { callee := .builtin .copy, args := #[x, y], argTypes := #[t, u] }, ty, pos, aft, none⟩ :: rest) f w := by
  have hg := (hs.at_ i hi).1
  obtain ⟨ie, hi1, hi2, hi3, hi4⟩ := hI.info
  have hr := Lib.run_copy_row_string (P := P) w t u ty e b 0 m c s cur.toArray T ht (by rw [hi1]; simp [hi3]) hg hm (by simpa using hc)
  have hs' : Sep w0 (w.setRow b ((toL s).map u8V ++ cur.drop s.size).toArray) (L.set i (blk b ((toL s).map u8V ++ cur.drop s.size) T)) := hs.setRowAt hi
  refine l_v (v := iV (s.size : Int)) (.inl ?_) (h _ hs') hd
  have e0 : (cur.toArray.toList.take 0 ++ Lib.byteCells s.data.toList ++ cur.toArray.toList.drop (0 + s.size)).toArray = ((toL s).map u8V ++ cur.drop s.size).toArray := by
    simp [Lib.byteCells]
  rw [e0] at hr
  simp only [execOp, resolve, invoke, builtin, Sem.run_bind, Sem.run_pure, Result.andThen_ok, List.map_toArray, List.map_cons, List.map_nil, hx, hy, hr]
  rfl
end
section
variable {P : Program} {w : World} {f : Env} {fn : Func} {R : Ending → World → Prop}
theorem results_cell_tmp2 {fn : Func} {t u x : Tmp} {T : TypeId} {p : Addr} {v : Value} (h : fn.results = #[.cell t T, .tmp u, .tmp x]) (tmps : Array Value) (P : Program) (w : World) (hp : tmps.getD t undef = .pointer (some p)) (hl : (loadVar T p).run P w = .ok v w) :
    (results fn tmps).run P w = .ok (.tuple #[v, tmps.getD u undef, tmps.getD x undef]) w := by
  rw [Array.getD_eq_getD_getElem?] at hp
  simp [results, h, hp, hl, asAddr]
theorem fin3c {t u x : Tmp} {T : TypeId} {p : Addr} {v : Value} (h : fn.results = #[.cell t T, .tmp u, .tmp x]) (hp : f t = .pointer (some p)) (hl : (loadVar T p).run P w = .ok v w) (hR : R (.returned (.tuple #[v, f u, f x])) w) : Fin P fn R f w :=
  ⟨fun n a ha => ⟨_, results_cell_tmp2 h _ _ _ (by rw [ha.get]; exact hp) hl, by rw [ha.get, ha.get]; exact hR⟩⟩
end
end Go.Proofs.Ytnneoipoaoefkaa.Eng
