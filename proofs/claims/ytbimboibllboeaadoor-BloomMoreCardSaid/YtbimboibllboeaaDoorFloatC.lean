/- Regions that draw their order, a class of worlds of one's own: what floats reads cells that stay, what changes memory keeps the class. -/
import Derived.Test.YtbimboibllboeaaDoorMore
namespace Go.Proofs.YtbimboibllboeaaDoor.Eng
open Go Go.RowKit Go.Great
set_option linter.unusedVariables false
set_option linter.unusedSimpArgs false
variable {P : Program} {n : Nat} {f : Env} {w w' : World} {Q : EPost} {C : World → Prop} {K : Env → World → Prop} {ops : Array Oper} {rest l : List Oper} {op : Op} {ty : TypeId} {pos : String} {aft : Array Edge} {d k : Nat} {v : Value} {hvl : List Nat}
structure OkG (P : Program) (n : Nat) (ops : Array Oper) (hvl : List Nat) (C : World → Prop) (K : Env → World → Prop) (l : List Oper) (k : Nat) (f : Env) (w : World) : Prop where
  mk :: (out : ∀ a, Rep n a f → walkF P ops C (fun i => hvl.contains i) (fun a w => ∃ f, Rep n a f ∧ K f w) (l.zipIdx k) a w)
theorem g_nil (h : K f w) : OkG P n ops hvl C K [] k f w := ⟨fun a ha => ⟨f, ha, h⟩⟩
theorem g_v (hr : ∀ w', C w' → Run P (ev f) ⟨some d, op, ty, pos, aft, none⟩ w' v w') (h : OkG P n ops hvl C K rest (k + 1) (upd f d v) w) (hd : Nat.blt d n = true := by rfl) (hk : hvl.contains k = false := by rfl) :
    OkG P n ops hvl C K (⟨some d, op, ty, pos, aft, none⟩ :: rest) k f w := by
  refine ⟨fun a ha => ?_⟩
  rw [List.zipIdx_cons]
  unfold walkF stepW
  rw [if_pos (wanted_none rfl _)]
  simp only [hk, Bool.false_eq_true, if_false]
  refine ⟨v, fun w' hC => ?_, h.out _ (ha.put d v (by simpa using hd))⟩
  rw [ha.eval]
  exact hr w' hC
theorem g_new (hr : Run P (ev f) ⟨some d, op, ty, pos, aft, none⟩ w v w') (hC : C w') (h : OkG P n ops hvl C K rest (k + 1) (upd f d v) w') (hd : Nat.blt d n = true := by rfl) (hk : hvl.contains k = true := by rfl) :
    OkG P n ops hvl C K (⟨some d, op, ty, pos, aft, none⟩ :: rest) k f w := by
  refine ⟨fun a ha => ?_⟩
  rw [List.zipIdx_cons]
  unfold walkF stepW Heavy
  rw [if_pos (wanted_none rfl _)]
  simp only [hk, if_true]
  rw [ha.eval]
  rcases hr with hr | ⟨hr, rfl⟩ <;> (rw [hr]; exact ⟨hC, h.out _ (ha.put d _ (by simpa using hd))⟩)
theorem g_call {fn : FuncId} {args : Array Value} (hr : (execOp (ev f) ⟨some d, op, ty, pos, aft, none⟩).run P w = .ok (.enter fn args) w)
    (hc : Calls P fn args w fun e w' => ∃ v, e = .returned v ∧ C w' ∧ OkG P n ops hvl C K rest (k + 1) (upd f d v) w') (hd : Nat.blt d n = true := by rfl) (hk : hvl.contains k = true := by rfl) :
    OkG P n ops hvl C K (⟨some d, op, ty, pos, aft, none⟩ :: rest) k f w := by
  refine ⟨fun a ha => ?_⟩
  rw [List.zipIdx_cons]
  unfold walkF stepW Heavy
  rw [if_pos (wanted_none rfl _)]
  simp only [hk, if_true]
  rw [ha.eval, hr]
  exact hc.mono fun e w' ⟨v, he, hC, h⟩ => ⟨v, he, hC, h.out _ (ha.put d v (by simpa using hd))⟩
theorem c_floatG {id : Nat} (C : World → Prop) (hvl : List Nat) (n0 : Nat) (hm : P.follows .mixedOrders = true) (hB : floatB l.toArray hvl n0 = true) (hC : C w.drew)
    (h : OkG P n l.toArray hvl C (fun f' w' => OkL P n l.toArray Q (l.drop n0) f' w') (l.take n0) 0 f w.drew) : OkC P n (.region id l.toArray true) Q f w := by
  refine ⟨fun a ha => wp_region_float (C := C) hvl n0 hm hB hC ?_⟩
  have h1 := h.out a ha
  have mono : ∀ (l' : List (Oper × Nat)) (a : Act) (w1 : World) (Q1 Q2 : Act → World → Prop), C w1 → (∀ a w, Q1 a w → Q2 a w) → walkF P l.toArray C (fun i => hvl.contains i) Q1 l' a w1 → walkF P l.toArray C (fun i => hvl.contains i) Q2 l' a w1 := by
    intro l'
    induction l' with
    | nil => intro a w1 Q1 Q2 _ hq h; exact hq _ _ h
    | cons p l' ih => intro a w1 Q1 Q2 hC hq h; exact stepW_mono h hC fun a w hC' h => ih a w Q1 Q2 hC' hq h
  exact mono _ _ _ _ _ hC (fun a' w' ⟨f', hr, hq⟩ => hq.out a' hr) h1
theorem g_lit1 {w0 : World} {t e : TypeId} {z : Value} {by_ len : Nat} {L : List HP} {parts : Array (Nat × Operand)} (vs : List Value) (hs : Sep w0 w L) (ht : P.underlying t = some (.slice e)) (hi : TI P e z 1 by_)
    (hp : (parts.toList.map fun (p : Nat × Operand) => (p.1, ev f p.2)) = (vs.zipIdx 0).map fun x => (x.2, x.1)) (h1 : ∀ v ∈ vs, v.oneCell' = true) (hlen : vs.length = len) (h0 : 0 < len) (hsm : len ≤ 16777216)
    (h : ∀ b w', Sep w0 w' (blk b vs e :: L) → C w' ∧ OkG P n ops hvl C K rest (k + 1) (upd f d (.slice (some ⟨b, 0, none⟩) len len)) w') (hd : Nat.blt d n = true := by rfl) (hk : hvl.contains k = true := by rfl) :
    OkG P n ops hvl C K (⟨some d, .buildSlice t len parts, ty, pos, aft, none⟩ :: rest) k f w := by
  obtain ⟨b, w', hr, h1, h2, h3⟩ := run_lit1 (P := P) (f := f) (ty := ty) (pos := pos) (aft := aft) (dst := some d) (g := none) vs hs ht hi hp h1 hlen h0 hsm
  exact g_new hr (h b w' h1).1 (h b w' h1).2 hd hk
theorem g_lit {w0 : World} {t e : TypeId} {z : Value} {sz by_ len : Nat} {L : List HP} {parts : Array (Nat × Operand)} (vs : List Value) (hs : Sep w0 w L) (ht : P.underlying t = some (.slice e)) (hi : TI P e z sz by_)
    (hp : (parts.toList.map fun (p : Nat × Operand) => (p.1, ev f p.2)) = (vs.zipIdx 0).map fun x => (x.2, x.1)) (hc : ∀ v ∈ vs, v.cells.size = sz) (hsz : 0 < sz) (hlen : vs.length = len) (h0 : 0 < len) (hsm : len * sz ≤ 16777216)
    (h : ∀ b w', Sep w0 w' (blk b (vs.flatMap fun v => v.cells.toList) e :: L) → C w' ∧ OkG P n ops hvl C K rest (k + 1) (upd f d (.slice (some ⟨b, 0, none⟩) len len)) w') (hd : Nat.blt d n = true := by rfl) (hk : hvl.contains k = true := by rfl) :
    OkG P n ops hvl C K (⟨some d, .buildSlice t len parts, ty, pos, aft, none⟩ :: rest) k f w := by
  obtain ⟨i, hi1, hi2, hi3, hi4⟩ := hi.info
  subst hi3
  have hpos : ¬ len * i.size = 0 := by
    have := Nat.mul_pos h0 hsz; omega
  have hfill := fill_whole hsz vs ((Array.range (len * i.size)).map (z.cells[· % z.cells.size]!)) hc (by simp [hlen])
  rw [← hp, show (parts.toList.map fun (p : Nat × Operand) => (p.1, ev f p.2)) = (parts.map fun (i, x) => (i, ev f x)).toList by rw [Array.toList_map]] at hfill
  have hrun := run_buildSlice (P := P) w t e len (parts.map fun (i, x) => (i, ev f x)) _ i z ht hi1 hi2 (by omega) hpos hfill
  refine g_new (v := .slice (some ⟨w.heap.size, 0, none⟩) len len) (.inl ?_) (h _ _ (hs.alloc _)).1 (h _ _ (hs.alloc _)).2 hd hk
  simp only [execOp, Sem.run_bind, hrun, Result.andThen_ok, Sem.run_pure]
theorem g_lit0 {w0 : World} {t e : TypeId} {z : Value} {sz by_ : Nat} {L : List HP} (hs : Sep w0 w L) (ht : P.underlying t = some (.slice e)) (hi : TI P e z sz by_)
    (h : ∀ b w', Sep w0 w' (blk b [] e :: L) → C w' ∧ OkG P n ops hvl C K rest (k + 1) (upd f d (.slice (some ⟨b, 0, none⟩) 0 0)) w') (hd : Nat.blt d n = true := by rfl) (hk : hvl.contains k = true := by rfl) :
    OkG P n ops hvl C K (⟨some d, .buildSlice t 0 #[], ty, pos, aft, none⟩ :: rest) k f w := by
  obtain ⟨i, hi1, hi2, hi3, hi4⟩ := hi.info
  have e0 : Array.map (fun x => (default : Value)) (Array.range 0) = #[] := by simp [Array.range]
  refine g_new (v := .slice (some ⟨w.heap.size, 0, none⟩) 0 0) (.inl ?_) (h _ _ (hs.alloc _)).1 (h _ _ (hs.alloc _)).2 hd hk
  simp [execOp, Instr.buildSlice, run_underlying ht, sizeOf, typeInfo, hi1, newRow, Instr.fill, e0]
theorem g_app {s x : Operand} {t : TypeId} {v v' : Value} {m c : Nat} {A : Option Addr} (hv : ev f s = v) (hx : ev f x = .slice A m c) (hrun : (Builtin.append_ #[t, t] ty #[v, .slice A m c]).run P w = .ok v' w') (hC : C w')
    (h : OkG P n ops hvl C K rest (k + 1) (upd f d v') w') (hd : Nat.blt d n = true := by rfl) (hk : hvl.contains k = true := by rfl) :
    OkG P n ops hvl C K (⟨some d, .call { callee := .builtin .append, args := #[s, x], argTypes := #[t, t] }, ty, pos, aft, none⟩ :: rest) k f w := by
  refine g_new (v := v') (.inl ?_) hC h hd hk
  simp only [execOp, resolve, invoke, builtin, Sem.run_bind, Sem.run_pure, Result.andThen_ok, List.map_toArray, List.map_cons, List.map_nil, hv, hx, hrun]
theorem g_append {w0 : World} {s x : Operand} {t e : TypeId} {z : Value} {sz by_ j m c : Nat} {v : Value} {xs news : List Value} {A : Option Addr} {L : List HP} (ht : P.underlying t = some (.slice e)) (hi : TI P e z sz by_) (hz : z.cells.size = sz) (hsz : 0 < sz)
    (hv : ev f s = v) (hx : ev f x = .slice A m c) (hs : Sep w0 w (RowC e sz v j xs :: L)) (hr : Rd w sz A m news) (h1 : ∀ u ∈ news, u.oneCell' = true) (hby : (j + m) * by_ ≤ 140737488355328) (h63 : j + m ≤ 9223372036854775807)
    (h : ∀ v' w', Sep w0 w' (RowC e sz v' (j + m) (xs ++ news) :: L) → C w' ∧ OkG P n ops hvl C K rest (k + 1) (upd f d v') w') (hd : Nat.blt d n = true := by rfl) (hk : hvl.contains k = true := by rfl) :
    OkG P n ops hvl C K (⟨some d, .call { callee := .builtin .append, args := #[s, x], argTypes := #[t, t] }, ty, pos, aft, none⟩ :: rest) k f w := by
  obtain ⟨v', w', hrun, hs'⟩ := append_row (P := P) (ty := ty) (c := c) ht hi hz hsz hs hr h1 h63 hby
  exact g_app hv hx hrun (h v' w' hs').1 (h v' w' hs').2 hd hk
end Go.Proofs.YtbimboibllboeaaDoor.Eng
