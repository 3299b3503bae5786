/- A range over a map of the call's own; delete. Lf: which keys are still to come; cnt: how many entries are. -/
import Derived.Test.YtnneoipoaoefkaaMap
import Derived.Maps.RangeRun
namespace Go.Proofs.Ytnneoipoaoefkaa.Eng
open Go Go.RowKit Go.MapKept
set_option linter.unusedVariables false
set_option linter.unusedSimpArgs false
open Classical in
noncomputable def lfDel (Lf : Value → Bool) (k : Value) : Value → Bool := fun x => if x = k then false else Lf x
theorem lfDel_same (Lf : Value → Bool) (k : Value) : lfDel Lf k k = false := by unfold lfDel; exact if_pos rfl
theorem lfDel_other (Lf : Value → Bool) (k : Value) {x : Value} (h : x ≠ k) : lfDel Lf k x = Lf x := by unfold lfDel; exact if_neg h
theorem mdel_same (F : MapF) (k : Value) : mdel F k k = none := by unfold mdel; exact if_pos rfl
theorem mdel_other (F : MapF) (k : Value) {x : Value} (h : x ≠ k) : mdel F k x = F x := by unfold mdel; exact if_neg h
structure RangeOf (d : TypeDesc) (F : MapF) (Lf : Value → Bool) (cnt : Nat) (es : Array MapEntry) (clock since : Nat) (seen : Array Nat) (c0 : Nat) : Prop where
  mp : MapOf d F es clock
  old : ∀ x ∈ es.toList, x.born < since
  sc : since ≤ c0
  sk : since ≤ clock
  lf : ∀ x ∈ es.toList, Lf x.key = !seen.contains x.born
  cn : (leftOf es seen).size = cnt
def rangeC (b r : Nat) (p : Array MapEntry × Nat × Nat × Array Nat × Nat) : HP := stars [obj b (.map p.1 p.2.1), obj r (.mapIter (some b) p.2.2.1 p.2.2.2.1 p.2.2.2.2)]
def rangeH (d : TypeDesc) (b r : Nat) (F : MapF) (Lf : Value → Bool) (cnt : Nat) : HP := Eng.ex fun p : Array MapEntry × Nat × Nat × Array Nat × Nat => Eng.pur (RangeOf d F Lf cnt p.1 p.2.1 p.2.2.1 p.2.2.2.1 p.2.2.2.2) (rangeC b r p)
/-- Just stepped on to k, v. -/
def rangeK (d : TypeDesc) (b r : Nat) (F : MapF) (Lf : Value → Bool) (cnt : Nat) (k v : Value) : HP := Eng.ex fun p : Array MapEntry × Nat × Nat × Array Nat × Nat => Eng.pur (RangeOf d F Lf cnt p.1 p.2.1 p.2.2.1 p.2.2.2.1 p.2.2.2.2 ∧ p.2.2.2.2 = p.2.1 ∧ ∃ (s0 : Array Nat) (e : MapEntry), p.2.2.2.1 = s0.push e.born ∧ e ∈ p.1.toList ∧ e.key = k ∧ e.val = v) (rangeC b r p)
section
variable {P : Program} {ρ : Operand → Value} {w w' w0 : World} {dst : Option Tmp} {ty : TypeId} {pos : String} {aft : Array Edge} {g : Option (Nat × Bool)} {L : List HP} {d : TypeDesc} {b r : Nat} {F : MapF} {Lf : Value → Bool} {cnt : Nat}
theorem Sep.rangeOpen (hs : Sep w0 w (rangeH d b r F Lf cnt :: L)) : ∃ es clock since seen c0, RangeOf d F Lf cnt es clock since seen c0 ∧ Sep w0 w (obj b (.map es clock) :: obj r (.mapIter (some b) since seen c0) :: L) := by
  obtain ⟨⟨es, clock, since, seen, c0⟩, hs⟩ := hs.ex
  obtain ⟨h, hs⟩ := hs.pur
  exact ⟨es, clock, since, seen, c0, h, hs.unfold⟩
theorem Sep.rangeShut {es : Array MapEntry} {clock since c0 : Nat} {seen : Array Nat} (h : RangeOf d F Lf cnt es clock since seen c0) (hs : Sep w0 w (obj b (.map es clock) :: obj r (.mapIter (some b) since seen c0) :: L)) : Sep w0 w (rangeH d b r F Lf cnt :: L) :=
  Sep.inEx (F := fun p : Array MapEntry × Nat × Nat × Array Nat × Nat => Eng.pur (RangeOf d F Lf cnt p.1 p.2.1 p.2.2.1 p.2.2.2.1 p.2.2.2.2) (rangeC b r p)) (es, clock, since, seen, c0) (Sep.inPur h (Sep.fold (M := [_, _]) hs))
theorem Sep.rangeWeak {k v : Value} (hs : Sep w0 w (rangeK d b r F Lf cnt k v :: L)) : Sep w0 w (rangeH d b r F Lf cnt :: L) := by
  obtain ⟨⟨es, clock, since, seen, c0⟩, hs⟩ := hs.ex
  obtain ⟨h, hs⟩ := hs.pur
  exact Sep.rangeShut h.1 hs.unfold
/-- The loop is over: the map is what is left. -/
theorem Sep.rangeMap (hs : Sep w0 w (rangeH d b r F Lf cnt :: L)) : Sep w0 w (mapH d b F :: L) := by
  obtain ⟨es, clock, since, seen, c0, h, hs⟩ := hs.rangeOpen
  exact Sep.mapShut h.mp ((hs.pull 1).drop)
theorem run_del {mt kt et : TypeId} {k : Value} {es : Array MapEntry} {clock : Nat} (hM : MapOf d F es clock) (hs : Sep w0 w (obj b (.map es clock) :: L)) (hm : P.underlying mt = some (.map kt et)) (hd : P.underlying kt = some d) (hk : IsKey d k) :
    ∃ w' es', (Builtin.delete_ #[mt, kt] ty #[.map (some b), k]).run P w = .ok (.tuple #[]) w' ∧ Sep w0 w' (obj b (.map es' clock) :: L) ∧ MapOf d (mdel F k) es' clock ∧ es'.toList.Sublist es.toList := by
  have hb := (hs.at_ 0).1
  have hck : ∀ e w, (Instr.checkKey e 10000 kt k).run P w = .ok () w := fun e w => Go.MapKept.run_checkKey hd hk e 9999
  rcases findNow_spec hk es.toList 0 hM.ks with ⟨h1, h2⟩ | ⟨j, e, h1, h2, h3⟩
  · refine ⟨{ w with heap := w.heap.setIfInBounds b (.map es clock) }, es, ?_, setObj_sep hs, ⟨hM.st, hM.ks, fun x u => ?_⟩, List.Sublist.refl _⟩
    · simp [Builtin.delete_, run_underlying hm, Go.MapKept.run_getObj_map hb, hck, Go.MapKept.run_findKey hd h1, Go.MapKept.run_setObj_map _ hb, Result.andThen]
    · by_cases hx : x = k
      · subst hx
        rw [mdel_same]
        constructor
        · intro h; cases h
        · rintro ⟨e, he, hek, _⟩; exact absurd hek (h2 e he)
      · rw [mdel_other _ _ hx]; exact hM.ok x u
  · rw [Nat.zero_add] at h1
    have hjl : j < es.toList.length := (List.getElem?_eq_some_iff.1 h2).1
    have hjs : j < es.size := by simpa using hjl
    have hsub : (es.eraseIdxIfInBounds j).toList = es.toList.eraseIdx j := by
      unfold Array.eraseIdxIfInBounds
      rw [dif_pos hjs]
      simp
    have hS : (es.eraseIdxIfInBounds j).toList.Sublist es.toList := by rw [hsub]; exact List.eraseIdx_sublist _ _
    refine ⟨{ w with heap := w.heap.setIfInBounds b (.map (es.eraseIdxIfInBounds j) clock) }, es.eraseIdxIfInBounds j, ?_, setObj_sep hs, ⟨stamped_erase hM.st j, fun x hx => hM.ks x (hS.subset hx), fun x u => ?_⟩, hS⟩
    · simp [Builtin.delete_, run_underlying hm, Go.MapKept.run_getObj_map hb, hck, Go.MapKept.run_findKey hd h1, Go.MapKept.run_setObj_map _ hb, Result.andThen]
    · have hnd := hM.st.2.2
      have huq : ∀ i e', es.toList[i]? = some e' → e'.key = k → i = j := by
        intro i e' hi hk'
        have g1 : (es.toList.map (·.key))[i]? = some k := by rw [List.getElem?_map, hi]; simp [hk']
        have g2 : (es.toList.map (·.key))[j]? = some k := by rw [List.getElem?_map, h2]; simp [h3]
        exact (List.getElem?_inj (List.getElem?_eq_some_iff.1 g1).1 hnd).1 (g1.trans g2.symm)
      rw [hsub]
      by_cases hx : x = k
      · subst hx
        rw [mdel_same]
        constructor
        · intro h; cases h
        · rintro ⟨e', he', hek, _⟩
          obtain ⟨i, hne, hi⟩ := List.mem_eraseIdx_iff_getElem?.1 he'
          exact absurd (huq i e' hi hek) hne
      · rw [mdel_other _ _ hx, hM.ok]
        constructor
        · rintro ⟨e', he', rfl, rfl⟩
          obtain ⟨i, hi⟩ := List.getElem?_of_mem he'
          refine ⟨e', List.mem_eraseIdx_iff_getElem?.2 ⟨i, ?_, hi⟩, rfl, rfl⟩
          rintro rfl
          rw [h2] at hi
          cases hi
          exact hx h3
        · rintro ⟨e', he', h4, h5⟩
          exact ⟨e', (List.eraseIdx_sublist _ _).subset he', h4, h5⟩
theorem run_range {mt kt et : TypeId} (hs : Sep w0 w (mapH d b F :: L)) (hm : P.underlying mt = some (.map kt et)) :
    ∃ r w' cnt, (Instr.range mt (.map (some b))).run P w = .ok (.pointer (some ⟨r, 0, none⟩)) w' ∧ Sep w0 w' (rangeH d b r F (fun _ => true) cnt :: L) := by
  obtain ⟨es, clock, hM, hs⟩ := hs.mapOpen
  have hb := (hs.at_ 0).1
  refine ⟨_, _, _, run_range_map w mt kt et b es clock hm hb, Sep.rangeShut ⟨hM, hM.st.1, Nat.le_refl _, Nat.le_refl _, fun x hx => ?_, rfl⟩ ((hs.alloc _).pull 1)⟩
  simp
theorem run_next (hs : Sep w0 w (rangeH d b r F Lf cnt :: L)) (ty : TypeId) :
    (cnt = 0 ∧ (∀ k v, F k = some v → Lf k = false) ∧ (Instr.next (.pointer (some ⟨r, 0, none⟩)) false ty).run P w = .ok (.tuple #[.bool false]) w) ∨
    ∃ k v w' cnt', F k = some v ∧ Lf k = true ∧ cnt' < cnt ∧ (Instr.next (.pointer (some ⟨r, 0, none⟩)) false ty).run P w = .ok (.tuple #[.bool true, k, v]) w' ∧ Sep w0 w' (rangeK d b r F (lfDel Lf k) cnt' k v :: L) := by
  obtain ⟨es, clock, since, seen, c0, h, hs⟩ := hs.rangeOpen
  have hb := (hs.at_ 0).1
  have hr := (hs.at_ 1).1
  rcases run_next_at (P := P) w ty r b since c0 seen es clock hr hb h.old h.sc with ⟨h0, hrun⟩ | ⟨e, he, w1, hal, hrun⟩
  · refine .inl ⟨h.cn ▸ h0, fun k v hk => ?_, hrun⟩
    obtain ⟨x, hx, rfl, rfl⟩ := (h.mp.ok k v).1 hk
    rw [h.lf x hx, all_seen es seen h0 x hx]
    rfl
  · obtain ⟨hem, hes⟩ := mem_left he
    have hs1 : Sep w0 w1 (obj b (.map es clock) :: obj r (.mapIter (some b) since seen c0) :: L) := by rcases hal with rfl | rfl; exact hs; exact hs.drew
    have hs2 := (setObj_sep (o' := .mapIter (some b) since (seen.push e.born) clock) (hs1.pull 1)).pull 1
    refine .inr ⟨e.key, e.val, _, _, (h.mp.ok _ _).2 ⟨e, hem, rfl, rfl⟩, by rw [h.lf e hem, hes]; rfl, ?_, hrun, Sep.inEx (F := fun p : Array MapEntry × Nat × Nat × Array Nat × Nat => Eng.pur (RangeOf d F (lfDel Lf e.key) (leftOf es (seen.push e.born)).size p.1 p.2.1 p.2.2.1 p.2.2.2.1 p.2.2.2.2 ∧ p.2.2.2.2 = p.2.1 ∧ ∃ (s0 : Array Nat) (e' : MapEntry), p.2.2.2.1 = s0.push e'.born ∧ e' ∈ p.1.toList ∧ e'.key = e.key ∧ e'.val = e.val) (rangeC b r p)) (es, clock, since, seen.push e.born, clock) (Sep.inPur ⟨⟨h.mp, h.old, h.sk, h.sk, fun x hx => ?_, rfl⟩, rfl, seen, e, rfl, hem, rfl, rfl⟩ (Sep.fold (M := [_, _]) hs2))⟩
    · rw [← h.cn]; exact left_shrinks es seen e he
    · rw [contains_push]
      by_cases hx' : x.key = e.key
      · rw [hx', lfDel_same]
        obtain ⟨i, hi⟩ := List.getElem?_of_mem hx
        obtain ⟨j, hj⟩ := List.getElem?_of_mem hem
        have g1 : (es.toList.map (·.key))[i]? = some e.key := by rw [List.getElem?_map, hi]; simp [hx']
        have g2 : (es.toList.map (·.key))[j]? = some e.key := by rw [List.getElem?_map, hj]; simp
        have hij := (List.getElem?_inj (List.getElem?_eq_some_iff.1 g1).1 h.mp.st.2.2).1 (g1.trans g2.symm)
        subst hij
        rw [hi] at hj
        cases hj
        simp
      · rw [lfDel_other _ _ hx', h.lf x hx]
        have : x.born ≠ e.born := fun hbb => by
          obtain ⟨i, hi⟩ := List.getElem?_of_mem hx
          obtain ⟨j, hj⟩ := List.getElem?_of_mem hem
          have g1 : (es.toList.map (·.born))[i]? = some e.born := by rw [List.getElem?_map, hi]; simp [hbb]
          have g2 : (es.toList.map (·.born))[j]? = some e.born := by rw [List.getElem?_map, hj]; simp
          have hij := (List.getElem?_inj (List.getElem?_eq_some_iff.1 g1).1 h.mp.st.2.1).1 (g1.trans g2.symm)
          subst hij
          rw [hi] at hj
          cases hj
          exact hx' rfl
        have hbe : (x.born == e.born) = false := by simp [this]
        rw [hbe, Bool.or_false]
theorem run_entry {k v : Value} (hs : Sep w0 w (rangeK d b r F Lf cnt k v :: L)) : (Instr.entry (.pointer (some ⟨r, 0, none⟩))).run P w = .ok (.tuple #[k, v]) w := by
  obtain ⟨⟨es, clock, since, seen, c0⟩, hs⟩ := hs.ex
  obtain ⟨hp, hs⟩ := hs.pur
  have hs := hs.unfold
  obtain ⟨h, hcc, s0, e, hse, he, hek, hev⟩ := hp
  have hb := (hs.at_ 0).1
  have hr := (hs.at_ 1).1
  dsimp only at hse hb hr he hcc
  rw [hse, hcc] at hr
  rw [← hek, ← hev]
  exact run_entry_at w r b since s0 es clock e hr hb he h.mp.st.2.1
theorem r_entry {k v : Value} {x : Operand} (hs : Sep w0 w (rangeK d b r F Lf cnt k v :: L)) (hx : ρ x = .pointer (some ⟨r, 0, none⟩)) : Run P ρ ⟨dst, .entry x, ty, pos, aft, g⟩ w (.tuple #[k, v]) w := by
  left
  simp only [execOp, hx, Sem.run_bind, run_entry hs, Result.andThen_ok, Sem.run_pure]
end
section
variable {P : Program} {n : Nat} {ops : Array Oper} {Q : EPost} {rest : List Oper} {f : Env} {w w0 : World} {d : Nat} {ty : TypeId} {pos : String} {aft : Array Edge} {L : List HP} {kd : TypeDesc} {b r : Nat} {F : MapF} {Lf : Value → Bool} {cnt : Nat}
theorem l_range {mt kt et : TypeId} {x : Operand} (hs : Sep w0 w (mapH kd b F :: L)) (hm : P.underlying mt = some (.map kt et)) (hx : ev f x = .map (some b))
    (h : ∀ r w' cnt, Sep w0 w' (rangeH kd b r F (fun _ => true) cnt :: L) → OkL P n ops Q rest (upd f d (.pointer (some ⟨r, 0, none⟩))) w') (hd : Nat.blt d n = true := by rfl) :
    OkL P n ops Q (⟨some d, .range mt x, ty, pos, aft, none⟩ :: rest) f w := by
  obtain ⟨r, w', cnt, hr, hs'⟩ := run_range (P := P) hs hm
  refine l_v (w' := w') (.inl ?_) (h r w' cnt hs') hd
  simp only [execOp, hx, Sem.run_bind, hr, Result.andThen_ok, Sem.run_pure]
theorem l_next {x : Operand} (hs : Sep w0 w (rangeH kd b r F Lf cnt :: L)) (hx : ev f x = .pointer (some ⟨r, 0, none⟩))
    (h0 : cnt = 0 → (∀ k v, F k = some v → Lf k = false) → OkL P n ops Q rest (upd f d (.tuple #[.bool false])) w)
    (h1 : ∀ k v w' cnt', F k = some v → Lf k = true → cnt' < cnt → Sep w0 w' (rangeK kd b r F (lfDel Lf k) cnt' k v :: L) → OkL P n ops Q rest (upd f d (.tuple #[.bool true, k, v])) w') (hd : Nat.blt d n = true := by rfl) :
    OkL P n ops Q (⟨some d, .next x false, ty, pos, aft, none⟩ :: rest) f w := by
  rcases run_next (P := P) hs ty with ⟨g1, g2, hr⟩ | ⟨k, v, w', cnt', g1, g2, g3, hr, hs'⟩
  · refine l_v (w' := w) (.inl ?_) (h0 g1 g2) hd
    simp only [execOp, hx, Sem.run_bind, hr, Result.andThen_ok, Sem.run_pure]
  · refine l_v (w' := w') (.inl ?_) (h1 k v w' cnt' g1 g2 g3 hs') hd
    simp only [execOp, hx, Sem.run_bind, hr, Result.andThen_ok, Sem.run_pure]
theorem l_del {mt kt et : TypeId} {x y : Operand} {k : Value} (hs : Sep w0 w (mapH kd b F :: L)) (hm : P.underlying mt = some (.map kt et)) (hdd : P.underlying kt = some kd) (hx : ev f x = .map (some b)) (hy : ev f y = k) (hk : IsKey kd k)
    (h : ∀ w', Sep w0 w' (mapH kd b (mdel F k) :: L) → OkL P n ops Q rest f w') : OkL P n ops Q (⟨none, .call { callee := .builtin .delete, args := #[x, y], argTypes := #[mt, kt] }, ty, pos, aft, none⟩ :: rest) f w := by
  obtain ⟨es, clock, hM, hs⟩ := hs.mapOpen
  obtain ⟨w', es', hr, hs', hM', _⟩ := run_del (P := P) (ty := ty) hM hs hm hdd hk
  refine l_0 (v := .tuple #[]) (w' := w') (.inl ?_) (h w' (Sep.mapShut hM' hs'))
  simp only [execOp, resolve, invoke, builtin, Sem.run_bind, Sem.run_pure, Result.andThen_ok, List.map_toArray, List.map_cons, List.map_nil, hx, hy, hr]
theorem l_delR {mt kt et : TypeId} {x y : Operand} {k : Value} (hs : Sep w0 w (rangeH kd b r F Lf cnt :: L)) (hm : P.underlying mt = some (.map kt et)) (hdd : P.underlying kt = some kd) (hx : ev f x = .map (some b)) (hy : ev f y = k) (hk : IsKey kd k)
    (h : ∀ w' cnt', cnt' ≤ cnt → Sep w0 w' (rangeH kd b r (mdel F k) Lf cnt' :: L) → OkL P n ops Q rest f w') : OkL P n ops Q (⟨none, .call { callee := .builtin .delete, args := #[x, y], argTypes := #[mt, kt] }, ty, pos, aft, none⟩ :: rest) f w := by
  obtain ⟨es, clock, since, seen, c0, hR, hs⟩ := hs.rangeOpen
  obtain ⟨w', es', hr, hs', hM', hsub⟩ := run_del (P := P) (ty := ty) hR.mp hs hm hdd hk
  refine l_0 (v := .tuple #[]) (w' := w') (.inl ?_) (h w' _ ?_ (Sep.rangeShut ⟨hM', fun x hx => hR.old x (hsub.subset hx), hR.sc, hR.sk, fun x hx => hR.lf x (hsub.subset hx), rfl⟩ hs'))
  · simp only [execOp, resolve, invoke, builtin, Sem.run_bind, Sem.run_pure, Result.andThen_ok, List.map_toArray, List.map_cons, List.map_nil, hx, hy, hr]
  · rw [← hR.cn]
    have e1 : ∀ a : Array MapEntry, (leftOf a seen).size = (a.toList.filter fun e => !seen.contains e.born).length := fun a => by
      unfold leftOf
      rw [← Array.toList_filter, Array.length_toList]
    rw [e1, e1]
    exact (hsub.filter _).length_le
end
end Go.Proofs.Ytnneoipoaoefkaa.Eng
