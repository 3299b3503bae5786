/- Maps of the call's own, keys of a plain type: made, looked up, updated, struck. F: key -> what lies there. -/
import Derived.Test.YtnneoipoaoefkaaMore
import Derived.MapKept
import Derived.Carry
namespace Go.Proofs.Ytnneoipoaoefkaa.Eng
open Go Go.RowKit Go.MapKept
set_option linter.unusedVariables false
set_option linter.unusedSimpArgs false
abbrev MapF := Value → Option Value
open Classical in
noncomputable def mput (F : MapF) (k v : Value) : MapF := fun x => if x = k then some v else F x
open Classical in
noncomputable def mdel (F : MapF) (k : Value) : MapF := fun x => if x = k then none else F x
theorem mput_same (F : MapF) (k v : Value) : mput F k v k = some v := by unfold mput; exact if_pos rfl
theorem mput_other (F : MapF) (k v : Value) {x : Value} (h : x ≠ k) : mput F k v x = F x := by unfold mput; exact if_neg h
structure MapOf (d : TypeDesc) (F : MapF) (es : Array MapEntry) (clock : Nat) : Prop where
  st : Stamped es clock
  ks : ∀ x ∈ es.toList, IsKey d x.key
  ok : ∀ k v, F k = some v ↔ ∃ e ∈ es.toList, e.key = k ∧ e.val = v
def mapH (d : TypeDesc) (b : Nat) (F : MapF) : HP := Eng.ex fun p : Array MapEntry × Nat => Eng.pur (MapOf d F p.1 p.2) (obj b (.map p.1 p.2))
section
variable {P : Program} {ρ : Operand → Value} {w w' w0 : World} {dst : Option Tmp} {ty : TypeId} {pos : String} {aft : Array Edge} {g : Option (Nat × Bool)} {L : List HP} {d : TypeDesc} {b : Nat} {F : MapF}
theorem Sep.mapOpen (hs : Sep w0 w (mapH d b F :: L)) : ∃ es clock, MapOf d F es clock ∧ Sep w0 w (obj b (.map es clock) :: L) := by
  obtain ⟨⟨es, clock⟩, hs⟩ := hs.ex
  obtain ⟨h, hs⟩ := hs.pur
  exact ⟨es, clock, h, hs⟩
theorem Sep.mapShut {es : Array MapEntry} {clock : Nat} (h : MapOf d F es clock) (hs : Sep w0 w (obj b (.map es clock) :: L)) : Sep w0 w (mapH d b F :: L) :=
  Sep.inEx (F := fun p : Array MapEntry × Nat => Eng.pur (MapOf d F p.1 p.2) (obj b (.map p.1 p.2))) (es, clock) (hs.inPur h)
theorem mapOf_nil (d : TypeDesc) : MapOf d (fun _ => none) #[] 0 := ⟨stamped_empty 0, by simp, by simp⟩
theorem find_of {es : Array MapEntry} {clock : Nat} (h : MapOf d F es clock) {k : Value} (hk : IsKey d k) :
    (Instr.findNow d k es.toList 0 = some none ∧ F k = none ∧ ∀ x ∈ es.toList, x.key ≠ k) ∨ ∃ j e, Instr.findNow d k es.toList 0 = some (some (j, e.val)) ∧ es.toList[j]? = some e ∧ e.key = k ∧ F k = some e.val := by
  rcases findNow_spec hk es.toList 0 h.ks with ⟨h1, h2⟩ | ⟨j, e, h1, h2, h3⟩
  · refine .inl ⟨h1, ?_, h2⟩
    cases hF : F k with
    | none => rfl
    | some v =>
      obtain ⟨e, he, hek, _⟩ := (h.ok k v).1 hF
      exact absurd hek (h2 e he)
  · rw [Nat.zero_add] at h1
    exact .inr ⟨j, e, h1, h2, h3, (h.ok k e.val).2 ⟨e, List.mem_of_getElem? h2, h3, rfl⟩⟩
theorem run_zero {t : TypeId} {z : Value} {sz by_ : Nat} (h : TI P t z sz by_) (w : World) : (zeroValue t).run P w = .ok z w := by
  obtain ⟨i, hi, hz, _⟩ := h.info
  simp [zeroValue, typeInfo, hi, hz]
theorem run_look {mt kt et : TypeId} {z : Value} {sz by_ : Nat} {k : Value} (c : Bool) (hs : Sep w0 w (mapH d b F :: L)) (hm : P.underlying mt = some (.map kt et)) (hd : P.underlying kt = some d) (hz : TI P et z sz by_) (hk : IsKey d k) :
    (Instr.lookup mt (.map (some b)) k c).run P w = .ok (if c then .tuple #[(F k).getD z, .bool (F k).isSome] else (F k).getD z) w := by
  obtain ⟨es, clock, hM, hs⟩ := hs.mapOpen
  have hg := (hs.at_ 0).1
  have hck : ∀ e w, (Instr.checkKey e 10000 kt k).run P w = .ok () w := fun e w => Go.MapKept.run_checkKey hd hk e 9999
  unfold Instr.lookup
  simp only [Sem.run_bind, run_underlying hm, Result.andThen_ok, Go.MapKept.run_getObj_map hg, Sem.run_pure, hck]
  rcases find_of hM hk with ⟨h1, h2, _⟩ | ⟨j, e, h1, _, _, h2⟩
  · simp only [Go.MapKept.run_findKey hd h1, Result.andThen_ok, Sem.run_bind, run_zero hz, Sem.run_pure, h2]
    cases c <;> rfl
  · simp only [Go.MapKept.run_findKey hd h1, Result.andThen_ok, Sem.run_bind, Sem.run_pure, h2]
    cases c <;> rfl
/-- m[k], and v, ok := m[k]. -/
theorem r_look {mt kt et : TypeId} {x y : Operand} {z : Value} {sz by_ : Nat} {k : Value} (hs : Sep w0 w (mapH d b F :: L)) (hm : P.underlying mt = some (.map kt et)) (hd : P.underlying kt = some d) (hz : TI P et z sz by_) (hx : ρ x = .map (some b)) (hy : ρ y = k) (hk : IsKey d k) :
    Run P ρ ⟨dst, .lookup mt x y false, ty, pos, aft, g⟩ w ((F k).getD z) w := by
  left
  have h := run_look (P := P) false hs hm hd hz hk
  simp only [execOp, hx, hy, Sem.run_bind, h, Result.andThen_ok, Sem.run_pure]
  rfl
theorem r_look_ok {mt kt et : TypeId} {x y : Operand} {z : Value} {sz by_ : Nat} {k : Value} (hs : Sep w0 w (mapH d b F :: L)) (hm : P.underlying mt = some (.map kt et)) (hd : P.underlying kt = some d) (hz : TI P et z sz by_) (hx : ρ x = .map (some b)) (hy : ρ y = k) (hk : IsKey d k) :
    Run P ρ ⟨dst, .lookup mt x y true, ty, pos, aft, g⟩ w (.tuple #[(F k).getD z, .bool (F k).isSome]) w := by
  left
  have h := run_look (P := P) true hs hm hd hz hk
  simp only [execOp, hx, hy, Sem.run_bind, h, Result.andThen_ok, Sem.run_pure]
  rfl
theorem setObj_sep {o o' : Obj} (hs : Sep w0 w (obj b o :: L)) : Sep w0 { w with heap := w.heap.setIfInBounds b o' } (obj b o' :: L) := by
  have hb : b < w.heap.size := heap_lt (hs.at_ 0).1
  exact hs.setObj ⟨rfl, rfl, rfl, by simp⟩ (by simp [hb]) fun k hk => by simp [Array.getElem?_setIfInBounds, Ne.symm hk]
theorem same_bits {k : Value} (hk : IsKey d k) : Instr.sameBits 10000 k k = true := by
  cases d <;> cases k <;> first | exact hk.elim | (simp [Instr.sameBits]; done) | (unfold Instr.sameBits; first | rfl | exact (bytes_beq _ _).2 rfl | simp)
theorem mapOf_put {es : Array MapEntry} {clock j : Nat} {e : MapEntry} {k v : Value} (h : MapOf d F es clock) (hj : es.toList[j]? = some e) (he : e.key = k) : MapOf d (mput F k v) (es.modify j fun e => { e with key := k, val := v }) clock := by
  have hj' : es[j]? = some e := by rw [← Array.getElem?_toList]; exact hj
  have hkey : ∀ e', es[j]? = some e' → ({ e' with key := k, val := v } : MapEntry).key = e'.key := fun e' h' => by rw [hj'] at h'; cases h'; exact he.symm
  refine ⟨stamped_modify h.st j _ (fun _ _ => rfl) (fun e' _ h' => hkey e' h'), isKey_modify h.ks j _ hkey, fun x u => ?_⟩
  have hmem : ∀ y, y ∈ (es.modify j fun e => { e with key := k, val := v }).toList ↔ ∃ i e', es[i]? = some e' ∧ y = if i = j then { e' with key := k, val := v } else e' := by
    intro y
    rw [List.mem_iff_getElem?]
    constructor
    · rintro ⟨i, hi⟩
      rw [Array.getElem?_toList, Array.getElem?_modify] at hi
      by_cases hij : j = i
      · subst hij
        rw [if_pos rfl, hj'] at hi
        simp only [Option.map_some, Option.some.injEq] at hi
        exact ⟨j, e, hj', by rw [if_pos rfl]; exact hi.symm⟩
      · rw [if_neg hij] at hi
        exact ⟨i, y, hi, by rw [if_neg (fun h => hij h.symm)]⟩
    · rintro ⟨i, e', hi, rfl⟩
      refine ⟨i, ?_⟩
      rw [Array.getElem?_toList, Array.getElem?_modify]
      by_cases hij : j = i
      · subst hij; rw [if_pos rfl, if_pos rfl, hi]; rfl
      · rw [if_neg hij, if_neg (fun h => hij h.symm)]; exact hi
  have hnd : ∀ i e', es[i]? = some e' → e'.key = k → i = j := by
    intro i e' hi hk
    have hnd := h.st.2.2
    have h1 : (es.toList.map (·.key))[i]? = some k := by rw [List.getElem?_map, Array.getElem?_toList, hi]; simp [hk]
    have h2 : (es.toList.map (·.key))[j]? = some k := by rw [List.getElem?_map, Array.getElem?_toList, hj']; simp [he]
    exact (List.getElem?_inj (List.getElem?_eq_some_iff.1 h1).1 hnd).1 (h1.trans h2.symm)
  unfold mput
  by_cases hx : x = k
  · subst hx
    rw [if_pos rfl]
    constructor
    · intro hv
      exact ⟨{ e with key := x, val := v }, (hmem _).2 ⟨j, e, hj', by rw [if_pos rfl]⟩, rfl, by injection hv⟩
    · rintro ⟨y, hy, hyk, rfl⟩
      obtain ⟨i, e', hi, rfl⟩ := (hmem y).1 hy
      by_cases hij : i = j
      · rw [if_pos hij]
      · rw [if_neg hij] at hyk
        exact absurd (hnd i e' hi hyk) hij
  · rw [if_neg hx, h.ok]
    constructor
    · rintro ⟨y, hy, rfl, rfl⟩
      obtain ⟨i, hi⟩ := List.mem_iff_getElem?.1 hy
      rw [Array.getElem?_toList] at hi
      refine ⟨y, (hmem y).2 ⟨i, y, hi, ?_⟩, rfl, rfl⟩
      rw [if_neg]
      rintro rfl
      rw [hj'] at hi
      cases hi
      exact hx he
    · rintro ⟨y, hy, hyk, rfl⟩
      obtain ⟨i, e', hi, rfl⟩ := (hmem y).1 hy
      by_cases hij : i = j
      · rw [if_pos hij] at hyk; exact absurd hyk.symm hx
      · rw [if_neg hij] at hyk ⊢
        exact ⟨e', Array.mem_toList_iff.2 (Array.mem_of_getElem? hi), hyk, rfl⟩
theorem mapOf_push {es : Array MapEntry} {clock : Nat} {k v : Value} (h : MapOf d F es clock) (hk : IsKey d k) (hn : F k = none) (hne : ∀ x ∈ es.toList, x.key ≠ k) : MapOf d (mput F k v) (es.push { key := k, val := v, born := clock }) (clock + 1) := by
  refine ⟨stamped_push h.st hne, fun x hx => ?_, fun x u => ?_⟩
  · rw [Array.toList_push] at hx
    rcases List.mem_append.1 hx with hx | hx
    · exact h.ks x hx
    · rw [List.mem_singleton.1 hx]; exact hk
  · rw [Array.toList_push]
    unfold mput
    by_cases hx : x = k
    · subst hx
      rw [if_pos rfl]
      constructor
      · intro hv; injection hv with hv; subst hv; exact ⟨_, List.mem_append_right _ (List.mem_singleton.2 rfl), rfl, rfl⟩
      · rintro ⟨y, hy, hyk, rfl⟩
        rcases List.mem_append.1 hy with hy | hy
        · exact absurd hyk (hne y hy)
        · rw [List.mem_singleton.1 hy]
    · rw [if_neg hx, h.ok]
      constructor
      · rintro ⟨y, hy, h1, h2⟩; exact ⟨y, List.mem_append_left _ hy, h1, h2⟩
      · rintro ⟨y, hy, h1, h2⟩
        rcases List.mem_append.1 hy with hy | hy
        · exact ⟨y, hy, h1, h2⟩
        · rw [List.mem_singleton.1 hy] at h1; exact absurd h1.symm hx
theorem run_put {mt kt et : TypeId} {k v : Value} (hs : Sep w0 w (mapH d b F :: L)) (hm : P.underlying mt = some (.map kt et)) (hd : P.underlying kt = some d) (hk : IsKey d k) :
    ∃ w', (Instr.mapUpdate mt (.map (some b)) k v).run P w = .ok () w' ∧ Sep w0 w' (mapH d b (mput F k v) :: L) := by
  obtain ⟨es, clock, hM, hs⟩ := hs.mapOpen
  have hg := (hs.at_ 0).1
  have hck : ∀ e w, (Instr.checkKey e 10000 kt k).run P w = .ok () w := fun e w => Go.MapKept.run_checkKey hd hk e 9999
  unfold Instr.mapUpdate
  simp only [Sem.run_bind, run_underlying hm, Result.andThen_ok, Go.MapKept.run_getObj_map hg, hck]
  rcases find_of hM hk with ⟨h1, h2, h3⟩ | ⟨j, e, h1, h2, h3, h4⟩
  · simp only [Go.MapKept.run_findKey hd h1, Result.andThen_ok, Go.MapKept.run_setObj_map _ hg]
    exact ⟨_, rfl, Sep.mapShut (mapOf_push hM hk h2 h3) (setObj_sep hs)⟩
  · have hj' : es[j]? = some e := by rw [← Array.getElem?_toList]; exact h2
    have hst : (Instr.keyThatStays (((es[j]?).map (·.key)).getD k) k).run P w = .ok k w := by
      unfold Instr.keyThatStays
      rw [hj']
      show (if Instr.sameBits 10000 e.key k = true then _ else _ : Sem Value).run P w = _
      rw [h3, if_pos (same_bits hk), Sem.run_pure]
    simp only [Go.MapKept.run_findKey hd h1, Result.andThen_ok, Sem.run_bind, hst, Go.MapKept.run_setObj_map _ hg]
    exact ⟨_, rfl, Sep.mapShut (mapOf_put hM h2 h3) (setObj_sep hs)⟩
end
section
variable {P : Program} {n : Nat} {ops : Array Oper} {Q : EPost} {rest : List Oper} {f : Env} {w w0 : World} {d : Nat} {ty : TypeId} {pos : String} {aft : Array Edge} {L : List HP}
theorem l_makeMap {t : TypeId} (kd : TypeDesc) (hs : Sep w0 w L)
    (h : ∀ b w', Sep w0 w' (mapH kd b (fun _ => none) :: L) → OkL P n ops Q rest (upd f d (.map (some b))) w') (hd : Nat.blt d n = true := by rfl) :
    OkL P n ops Q (⟨some d, .makeMap t none, ty, pos, aft, none⟩ :: rest) f w := by
  refine l_v (v := .map (some w.heap.size)) (.inl ?_) (h _ _ (Sep.mapShut (mapOf_nil kd) (hs.alloc _))) hd
  simp only [execOp, Option.map_none, Sem.run_bind, run_makeMap, Result.andThen_ok, Sem.run_pure]
theorem l_mapUpdate {mt kt et : TypeId} {x y z : Operand} {kd : TypeDesc} {b : Nat} {F : MapF} {k v : Value} (hs : Sep w0 w (mapH kd b F :: L)) (hm : P.underlying mt = some (.map kt et)) (hdd : P.underlying kt = some kd) (hx : ev f x = .map (some b)) (hy : ev f y = k) (hz : ev f z = v) (hk : IsKey kd k)
    (h : ∀ w', Sep w0 w' (mapH kd b (mput F k v) :: L) → OkL P n ops Q rest f w') : OkL P n ops Q (⟨none, .mapUpdate mt x y z, ty, pos, aft, none⟩ :: rest) f w := by
  obtain ⟨w', hr, hs'⟩ := run_put (P := P) (v := v) hs hm hdd hk
  refine l_0 (v := undef) (.inr ⟨?_, rfl⟩) (h w' hs')
  simp only [execOp, hx, hy, hz, Sem.run_bind, hr, Result.andThen_ok, Sem.run_pure]
end
end Go.Proofs.Ytnneoipoaoefkaa.Eng
