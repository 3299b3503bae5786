/- Steps that carry what the call owns along; regions that draw their order. -/
import Derived.Test.YtnneoipoaoefkaaMem
import Derived.Great.BuildSlice
import Derived.Laws.MakeOwn
import Derived.Stop.BytesEq
namespace Go.Proofs.Ytnneoipoaoefkaa.Eng
open Go Go.RowKit Go.Great
set_option linter.unusedVariables false
set_option linter.unusedSimpArgs false
section
variable {P : Program} {n : Nat} {f : Env} {w w0 w' : World} {Q : EPost} {K : Env → Prop} {ops : Array Oper} {rest l : List Oper} {op : Op} {ty : TypeId} {pos : String} {aft : Array Edge} {d : Nat} {L : List HP} {v : Value}
/-! regions that draw: operations that leave the world alone, then a tail in its order -/
structure OkS (P : Program) (n : Nat) (ops : Array Oper) (w : World) (K : Env → Prop) (l : List Oper) (f : Env) : Prop where
  mk :: (out : ∀ a, Rep n a f → wpStill P ops w (fun a' => ∃ f', Rep n a' f' ∧ K f') l a)
theorem s_nil (h : K f) : OkS P n ops w K [] f := ⟨fun a ha => wpStill_nil ⟨f, ha, h⟩⟩
theorem s_put {o : Oper} (hw : ∀ a, Rep n a f → Region.wanted o (yielded ops a.tmps) = true) (hr : Run P (ev f) o w v w)
    (h : ∀ a, Rep n a f → wpStill P ops w (fun a' => ∃ f', Rep n a' f' ∧ K f') rest (a.put o.dst v)) : OkS P n ops w K (o :: rest) f := by
  refine ⟨fun a ha => ?_⟩
  unfold wpStill
  rw [if_pos (hw a ha)]
  unfold Oper.still
  rw [ha.eval]
  rcases hr with hr | ⟨hr, rfl⟩
  · rw [hr]; exact ⟨rfl, h a ha⟩
  · rw [hr]; exact ⟨rfl, h a ha⟩
theorem s_v (hr : Run P (ev f) ⟨some d, op, ty, pos, aft, none⟩ w v w) (h : OkS P n ops w K rest (upd f d v)) (hd : Nat.blt d n = true := by rfl) : OkS P n ops w K (⟨some d, op, ty, pos, aft, none⟩ :: rest) f :=
  s_put (fun a _ => wanted_none rfl _) hr fun a ha => h.out _ (ha.put d v (by simpa using hd))
theorem s_vg {j dj : Nat} {b t : Bool} {oj : Oper} (hr : Run P (ev f) ⟨some d, op, ty, pos, aft, some (j, b)⟩ w v w) (hv : f dj = .bool t) (ht : t = b) (h : OkS P n ops w K rest (upd f d v))
    (hj : ops[j]? = some oj := by rfl) (hdj : oj.dst = some dj := by rfl) (hd : Nat.blt d n = true := by rfl) (hdn : Nat.blt dj n = true := by rfl) : OkS P n ops w K (⟨some d, op, ty, pos, aft, some (j, b)⟩ :: rest) f :=
  s_put (fun a ha => wanted_yes rfl hj hdj (by simpa using hdn) ha (ht ▸ hv)) hr fun a ha => h.out _ (ha.put d v (by simpa using hd))
theorem s_skip {o : Oper} {j dj : Nat} {b : Bool} {oj : Oper} (hv : f dj = .bool (!b) ∨ f dj = undef)
    (h : OkS P n ops w K rest (upd f d undef)) (hg : o.guard = some (j, b) := by rfl) (hj : ops[j]? = some oj := by rfl) (hdj : oj.dst = some dj := by rfl) (hod : o.dst = some d := by rfl) (hd : Nat.blt d n = true := by rfl) : OkS P n ops w K (o :: rest) f := by
  refine ⟨fun a ha => ?_⟩
  unfold wpStill
  rw [wanted_no hg hj hdj ha hv, hod]
  exact h.out _ (ha.put d undef (by simpa using hd))
theorem c_tail {id : Nat} (k : Nat) (hm : P.follows .mixedOrders = true) (hB : Region.lexTailB .any l.toArray k = true)
    (h : OkS P n l.toArray w.drew (fun f' => OkL P n l.toArray Q (l.drop k) f' w.drew) (l.take k) f) : OkC P n (.region id l.toArray true) Q f w := by
  refine ⟨fun a ha => wp_region_still_tail k hm hB ?_⟩
  have h1 := h.out a ha
  have mono : ∀ (l' : List Oper) (a : Act) (Q1 Q2 : Act → Prop), (∀ a, Q1 a → Q2 a) → wpStill P l.toArray w.drew Q1 l' a → wpStill P l.toArray w.drew Q2 l' a := by
    intro l'
    induction l' with
    | nil => intro a Q1 Q2 hq h; exact hq _ h
    | cons o l' ih =>
      intro a Q1 Q2 hq h
      unfold wpStill at h ⊢
      split
      · rename_i hw; rw [if_pos hw] at h; exact Oper.still_mono (fun a h => ih a Q1 Q2 hq h) h
      · rename_i hw; rw [if_neg hw] at h; exact ih _ Q1 Q2 hq h
  exact mono _ _ _ _ (fun a' ⟨f', hr, hq⟩ => hq.out a' hr) h1
theorem c_still {id : Nat} (hm : P.follows .mixedOrders = true) (hB : Region.lexB .any l.toArray = true)
    (h : OkS P n l.toArray w.drew (fun f' => Q .normal f' w.drew) l f) : OkC P n (.region id l.toArray true) Q f w :=
  ⟨fun a ha => wp_region_still_lit hm hB (by
    have h1 := h.out a ha
    exact h1)⟩

/-! steps with what is owned -/
theorem at_perm {L : List HP} : ∀ {i : Nat} {A B : HP}, L[i]? = some A → ∃ M, L.Perm (A :: M) ∧ (L.set i B).Perm (B :: M) := by
  induction L with
  | nil => intro i A B h; simp at h
  | cons x L ih =>
    intro i A B h
    cases i with
    | zero => simp at h; subst h; exact ⟨L, .refl _, .refl _⟩
    | succ i =>
      obtain ⟨M, h1, h2⟩ := ih (i := i) (A := A) (B := B) (by simpa using h)
      exact ⟨x :: M, (h1.cons x).trans (.swap _ _ _), (h2.cons x).trans (.swap _ _ _)⟩
/-- A block at place i is changed. -/
theorem Sep.setAt {i b o : Nat} {c : List Value} {T : TypeId} (hs : Sep w0 w L) (hi : L[i]? = some (blk b c T)) (v : Value) : Sep w0 (w.setCell ⟨b, o, none⟩ v) (L.set i (blk b (c.set o v) T)) := by
  obtain ⟨M, h1, h2⟩ := at_perm (B := blk b (c.set o v) T) hi
  exact ((hs.perm h1).setCell o v).perm h2.symm
theorem Sep.setRowAt {i b : Nat} {c c' : List Value} {T : TypeId} (hs : Sep w0 w L) (hi : L[i]? = some (blk b c T)) : Sep w0 (w.setRow b c'.toArray) (L.set i (blk b c' T)) := by
  obtain ⟨M, h1, h2⟩ := at_perm (B := blk b c' T) hi
  exact ((hs.perm h1).setRow (l' := c')).perm h2.symm
theorem l_alloc {t : TypeId} {z : Value} {sz by_ : Nat} {c : List Value} (hs : Sep w0 w L) (hi : TI P t z sz by_)
    (h : ∀ b w', Sep w0 w' (blk b c t :: L) → Below w.heap.size w w' → w.heap.size ≤ b → OkL P n ops Q rest (upd f d (.pointer (some ⟨b, 0, none⟩))) w') (hc : z.cells = c.toArray := by rfl) (hd : Nat.blt d n = true := by rfl) :
    OkL P n ops Q (⟨some d, .alloc t, ty, pos, aft, none⟩ :: rest) f w :=
  l_v (r_alloc hi hc) (h _ _ (hs.alloc _) ((Below.refl _ _).alloc (Nat.le_refl _) _) (Nat.le_refl _)) hd
theorem l_box {t : TypeId} {x : Operand} {v : Value} {c : List Value} (hs : Sep w0 w L) (hx : ev f x = v)
    (h : ∀ b w', Sep w0 w' (blk b c t :: L) → Below w.heap.size w w' → w.heap.size ≤ b → OkL P n ops Q rest (upd f d (.pointer (some ⟨b, 0, none⟩))) w') (hc : v.cells = c.toArray := by rfl) (hd : Nat.blt d n = true := by rfl) :
    OkL P n ops Q (⟨some d, .box t x, ty, pos, aft, none⟩ :: rest) f w :=
  l_v (r_box hx hc) (h _ _ (hs.alloc _) ((Below.refl _ _).alloc (Nat.le_refl _) _) (Nat.le_refl _)) hd
theorem l_store {t : TypeId} {x y : Operand} {i b o : Nat} {c : List Value} {T : TypeId} {v z : Value} {by_ : Nat} (hs : Sep w0 w L) (hi : L[i]? = some (blk b c T)) (ht : TI P t z 1 by_) (hx : ev f x = .pointer (some ⟨b, o, none⟩)) (hy : ev f y = v) (ho : o < c.length)
    (h : ∀ w', Sep w0 w' (L.set i (blk b (c.set o v) T)) → OkL P n ops Q rest f w') (h1 : v.oneCell' = true := by rfl) : OkL P n ops Q (⟨none, .store t x y, ty, pos, aft, none⟩ :: rest) f w := by
  have hb := (hs.at_ i hi).1
  exact l_0 (r_store ht hx hy (cell_blk hb |>.trans (List.getElem?_eq_getElem ho)) (frozen_blk hb) h1) (h _ (hs.setAt hi v))
theorem l_store_agg {t : TypeId} {x y : Operand} {i b o sz : Nat} {c vs : List Value} {T : TypeId} {z : Value} {by_ : Nat} (hs : Sep w0 w L) (hi : L[i]? = some (blk b c T)) (ht : TI P t z sz by_) (hx : ev f x = .pointer (some ⟨b, o, none⟩)) (hy : ev f y = .agg vs.toArray)
    (hn : vs.length = sz) (ho : o + sz ≤ c.length) (h1 : ∀ v ∈ vs, v.oneCell' = true)
    (h : ∀ w', Sep w0 w' (L.set i (blk b (c.take o ++ vs ++ c.drop (o + sz)) T)) → OkL P n ops Q rest f w') : OkL P n ops Q (⟨none, .store t x y, ty, pos, aft, none⟩ :: rest) f w := by
  have hb := (hs.at_ i hi).1
  exact l_0 (r_store_agg ht hx hy hb hn ho h1) (h _ (hs.setRowAt hi))
/-- A whole struct or array is written. -/
theorem l_store_whole {t : TypeId} {x y : Operand} {i b sz : Nat} {c vs : List Value} {T : TypeId} {z : Value} {by_ : Nat} (hs : Sep w0 w L) (hi : L[i]? = some (blk b c T)) (ht : TI P t z sz by_) (hx : ev f x = .pointer (some ⟨b, 0, none⟩)) (hy : ev f y = .agg vs.toArray)
    (hn : vs.length = sz) (ho : c.length = sz) (h1 : ∀ v ∈ vs, v.oneCell' = true)
    (h : ∀ w', Sep w0 w' (L.set i (blk b vs T)) → OkL P n ops Q rest f w') : OkL P n ops Q (⟨none, .store t x y, ty, pos, aft, none⟩ :: rest) f w := by
  refine l_store_agg hs hi ht hx hy hn (by omega) h1 ?_
  intro w' hs'
  refine h w' ?_
  rw [List.take_zero, List.nil_append, List.drop_eq_nil_of_le (by omega), List.append_nil] at hs'
  exact hs'
/-! blocks that bear a conversion's mark behind their end -/
abbrev blkF (b : Nat) (l : List Value) (T : TypeId) (fr : Nat × Nat) : HP := obj b (.cells l.toArray T fr)
theorem Sep.setAtF {i b o : Nat} {c : List Value} {T : TypeId} {fr : Nat × Nat} (hs : Sep w0 w L) (hi : L[i]? = some (blkF b c T fr)) (v : Value) : Sep w0 (w.setCell ⟨b, o, none⟩ v) (L.set i (blkF b (c.set o v) T fr)) := by
  obtain ⟨M, h1, h2⟩ := at_perm (B := blkF b (c.set o v) T fr) hi
  have hs1 := hs.perm h1
  have hg := hs1.get.1
  refine Sep.perm (hs1.setObj (w' := w.setCell ⟨b, o, none⟩ v) (o' := .cells (c.set o v).toArray T fr) ⟨rfl, rfl, rfl, by simp [World.setCell]⟩ ?_ fun k hk => by simp only [World.setCell, Array.getElem?_modify]; rw [if_neg (fun e => hk e.symm)]) h2.symm
  simp [World.setCell, Array.getElem?_modify, hg]
theorem frozen_F {w : World} {b o : Nat} {c : List Value} {T : TypeId} {lo hi : Nat} (hb : w.heap[b]? = some (.cells c.toArray T (lo, hi))) (h : o < lo) : w.frozen? ⟨b, o, none⟩ = false := by
  simp [World.frozen?, hb]; omega
theorem l_storeF {t : TypeId} {x y : Operand} {i b o lo hi : Nat} {c : List Value} {T : TypeId} {v z : Value} {by_ : Nat} (hs : Sep w0 w L) (hL : L[i]? = some (blkF b c T (lo, hi))) (ht : TI P t z 1 by_) (hx : ev f x = .pointer (some ⟨b, o, none⟩)) (hy : ev f y = v) (ho : o < c.length) (hf : o < lo)
    (h : ∀ w', Sep w0 w' (L.set i (blkF b (c.set o v) T (lo, hi))) → OkL P n ops Q rest f w') (h1 : v.oneCell' = true := by rfl) : OkL P n ops Q (⟨none, .store t x y, ty, pos, aft, none⟩ :: rest) f w := by
  have hb := (hs.at_ i hL).1
  exact l_0 (r_store ht hx hy (cell_blk hb |>.trans (List.getElem?_eq_getElem ho)) (frozen_F hb hf) h1) (h _ (hs.setAtF hL v))
theorem r_load_atF {ρ : Operand → Value} {dst : Option Tmp} {g : Option (Nat × Bool)} {t : TypeId} {dd : TypeDesc} {x : Operand} {i b o : Nat} {c : List Value} {T : TypeId} {fr : Nat × Nat} {v : Value} (hs : Sep w0 w L) (hi : L[i]? = some (blkF b c T fr)) (ht : P.underlying t = some dd) (hx : ρ x = .pointer (some ⟨b, o, none⟩)) (hv : c[o]? = some v) (hd : notRow dd = true := by rfl) :
    Run P ρ ⟨dst, .load t x, ty, pos, aft, g⟩ w v w := r_load ht hx ((cell_blk (hs.at_ i hi).1).trans hv) hd
/-- A text's bytes in memory, some room behind them. -/
abbrev bufCells (l : List UInt8) (x : Nat) : List Value := l.map u8V ++ List.replicate x (Value.int .u8 0)
theorem l_cv_sb {t u e : TypeId} {x : Operand} {s : ByteArray} (hs : Sep w0 w L) (ht : P.underlying t = some .string) (hu : P.underlying u = some (.slice e)) (he : P.underlying e = some (.int .u8)) (hx : ev f x = .string s)
    (h : ∀ b r w', Sep w0 w' (blkF b (bufCells (toL s) r) e (s.size + r, s.size + r + 1) :: L) → Below w.heap.size w w' → w.heap.size ≤ b → OkL P n ops Q rest (upd f d (.slice (some ⟨b, 0, none⟩) s.size (s.size + r))) w') (hd : Nat.blt d n = true := by rfl) :
    OkL P n ops Q (⟨some d, .convert t u x, ty, pos, aft, none⟩ :: rest) f w := by
  have hrun := run_bytes_of_string (P := P) w t u e s ht hu he
  have hge := grownCap_ge w s.size 0 e
  generalize grownCap w s.size 0 e = cap at hrun hge
  obtain ⟨r, rfl⟩ : ∃ r, cap = s.size + r := ⟨cap - s.size, by omega⟩
  have hsz : (toL s).length = s.size := by rw [Array.length_toList]; rfl
  have e1 : bytesRow s (s.size + r) = (bufCells (toL s) r).toArray := by
    apply Array.ext'
    simp [bytesRow, bufCells, Nat.add_sub_cancel_left]
  have e2 : (bytesRow s (s.size + r)).size = s.size + r := by rw [e1]; simp [bufCells]
  rw [e2, e1] at hrun
  refine l_v (v := .slice (some ⟨w.heap.size, 0, none⟩) s.size (s.size + r)) (.inl ?_) (h _ r _ (hs.drew.alloc _) ?_ (Nat.le_refl _)) hd
  · simp only [execOp, hx, Sem.run_bind, hrun, Result.andThen_ok, Sem.run_pure]
  · exact (((Below.refl _ _).drew).alloc (Nat.le_refl _) _)
/-- A slice literal. -/
theorem l_lit {t e : TypeId} {z : Value} {sz by_ len : Nat} {parts : Array (Nat × Operand)} (vs : List Value) (hs : Sep w0 w L) (ht : P.underlying t = some (.slice e)) (hi : TI P e z sz by_)
    (hp : (parts.toList.map fun (p : Nat × Operand) => (p.1, ev f p.2)) = (vs.zipIdx 0).map fun x => (x.2, x.1)) (hc : ∀ v ∈ vs, v.cells.size = sz) (hsz : 0 < sz) (hlen : vs.length = len) (h0 : 0 < len) (hsm : len * sz ≤ 16777216)
    (h : ∀ b w', Sep w0 w' (blk b (vs.flatMap fun v => v.cells.toList) e :: L) → Below w.heap.size w w' → w.heap.size ≤ b → OkL P n ops Q rest (upd f d (.slice (some ⟨b, 0, none⟩) len len)) w') (hd : Nat.blt d n = true := by rfl) :
    OkL P n ops Q (⟨some d, .buildSlice t len parts, ty, pos, aft, none⟩ :: rest) f w := by
  obtain ⟨i, hi1, hi2, hi3, hi4⟩ := hi.info
  subst hi3
  have hpos : ¬ len * i.size = 0 := by
    have := Nat.mul_pos h0 hsz; omega
  have hfill := fill_whole hsz vs ((Array.range (len * i.size)).map (z.cells[· % z.cells.size]!)) hc (by simp [hlen])
  rw [← hp, show (parts.toList.map fun (p : Nat × Operand) => (p.1, ev f p.2)) = (parts.map fun (i, x) => (i, ev f x)).toList by rw [Array.toList_map]] at hfill
  have hrun := run_buildSlice (P := P) w t e len (parts.map fun (i, x) => (i, ev f x)) _ i z ht hi1 hi2 (by omega) hpos hfill
  refine l_v (v := .slice (some ⟨w.heap.size, 0, none⟩) len len) (.inl ?_) (h _ _ (hs.alloc _) ((Below.refl _ _).alloc (Nat.le_refl _) _) (Nat.le_refl _)) hd
  simp only [execOp, Sem.run_bind, hrun, Result.andThen_ok, Sem.run_pure]
theorem flat_one : ∀ {vs : List Value}, (∀ v ∈ vs, v.oneCell' = true) → vs.flatMap (fun v => v.cells.toList) = vs
  | [], _ => rfl
  | v :: vs, h => by
    rw [List.flatMap_cons, cells_one (h v (List.mem_cons_self ..)), flat_one fun u hu => h u (List.mem_cons_of_mem _ hu)]; rfl
theorem l_lit1 {t e : TypeId} {z : Value} {by_ len : Nat} {parts : Array (Nat × Operand)} (vs : List Value) (hs : Sep w0 w L) (ht : P.underlying t = some (.slice e)) (hi : TI P e z 1 by_)
    (hp : (parts.toList.map fun (p : Nat × Operand) => (p.1, ev f p.2)) = (vs.zipIdx 0).map fun x => (x.2, x.1)) (h1 : ∀ v ∈ vs, v.oneCell' = true) (hlen : vs.length = len) (h0 : 0 < len) (hsm : len ≤ 16777216)
    (h : ∀ b w', Sep w0 w' (blk b vs e :: L) → Below w.heap.size w w' → w.heap.size ≤ b → OkL P n ops Q rest (upd f d (.slice (some ⟨b, 0, none⟩) len len)) w') (hd : Nat.blt d n = true := by rfl) :
    OkL P n ops Q (⟨some d, .buildSlice t len parts, ty, pos, aft, none⟩ :: rest) f w := by
  refine l_lit vs hs ht hi hp (fun v hv => by rw [cells_one (h1 v hv)]; rfl) (by decide) hlen h0 (by omega) ?_ hd
  intro b w' hs'
  rw [flat_one h1] at hs'
  exact h b w' hs'
theorem run_lit1 {t e : TypeId} {z : Value} {by_ len : Nat} {parts : Array (Nat × Operand)} (vs : List Value) (hs : Sep w0 w L) (ht : P.underlying t = some (.slice e)) (hi : TI P e z 1 by_)
    (hp : (parts.toList.map fun (p : Nat × Operand) => (p.1, ev f p.2)) = (vs.zipIdx 0).map fun x => (x.2, x.1)) (h1 : ∀ v ∈ vs, v.oneCell' = true) (hlen : vs.length = len) (h0 : 0 < len) (hsm : len ≤ 16777216) {dst : Option Tmp} {g : Option (Nat × Bool)} :
    ∃ b w', Run P (ev f) ⟨dst, .buildSlice t len parts, ty, pos, aft, g⟩ w (.slice (some ⟨b, 0, none⟩) len len) w' ∧ Sep w0 w' (blk b vs e :: L) ∧ Below w.heap.size w w' ∧ w.heap.size ≤ b := by
  obtain ⟨i, hi1, hi2, hi3, hi4⟩ := hi.info
  have hpos : ¬ len * i.size = 0 := by
    rw [hi3]; omega
  have hfill := fill_whole (Nat.lt_of_lt_of_eq Nat.zero_lt_one hi3.symm) vs ((Array.range (len * i.size)).map (z.cells[· % z.cells.size]!)) (fun v hv => by rw [cells_one (h1 v hv), hi3]; rfl) (by simp [hlen])
  rw [← hp, show (parts.toList.map fun (p : Nat × Operand) => (p.1, ev f p.2)) = (parts.map fun (i, x) => (i, ev f x)).toList by rw [Array.toList_map], flat_one h1] at hfill
  have hrun := run_buildSlice (P := P) w t e len (parts.map fun (i, x) => (i, ev f x)) _ i z ht hi1 hi2 (by rw [hi3]; omega) hpos hfill
  refine ⟨w.heap.size, _, .inl ?_, hs.alloc _, (Below.refl _ _).alloc (Nat.le_refl _) _, Nat.le_refl _⟩
  simp only [execOp, Sem.run_bind, hrun, Result.andThen_ok, Sem.run_pure]
/-- The empty literal. -/
theorem l_lit0 {t e : TypeId} {z : Value} {sz by_ : Nat} (hs : Sep w0 w L) (ht : P.underlying t = some (.slice e)) (hi : TI P e z sz by_)
    (h : ∀ b w', Sep w0 w' (blk b [] e :: L) → Below w.heap.size w w' → w.heap.size ≤ b → OkL P n ops Q rest (upd f d (.slice (some ⟨b, 0, none⟩) 0 0)) w') (hd : Nat.blt d n = true := by rfl) :
    OkL P n ops Q (⟨some d, .buildSlice t 0 #[], ty, pos, aft, none⟩ :: rest) f w := by
  obtain ⟨i, hi1, hi2, hi3, hi4⟩ := hi.info
  refine l_v (v := .slice (some ⟨w.heap.size, 0, none⟩) 0 0) (.inl ?_) (h _ _ (hs.alloc _) ((Below.refl _ _).alloc (Nat.le_refl _) _) (Nat.le_refl _)) hd
  have e0 : Array.map (fun x => (default : Value)) (Array.range 0) = #[] := by simp [Array.range]
  simp [execOp, Instr.buildSlice, run_underlying ht, sizeOf, typeInfo, hi1, newRow, Instr.fill, e0]
/-- An array literal, every place written. -/
theorem r_build_a {ρ : Operand → Value} {dst : Option Tmp} {g : Option (Nat × Bool)} {t e : TypeId} {len sz szt bt by_ : Nat} {z zt : Value} {parts : Array (Nat × Operand)} (vs : List Value) (ht : P.underlying t = some (.array len e)) (hi : TI P e z sz by_) (hit : TI P t zt szt bt)
    (hp : (parts.toList.map fun (p : Nat × Operand) => (p.1, ρ p.2)) = (vs.zipIdx 0).map fun x => (x.2, x.1)) (hc : ∀ v ∈ vs, v.cells.size = sz) (hsz : 0 < sz) (hz : vs.length * sz = zt.cells.size) :
    Run P ρ ⟨dst, .build t parts, ty, pos, aft, g⟩ w (.agg (vs.flatMap fun v => v.cells.toList).toArray) w := by
  obtain ⟨i, hi1, hi2, hi3, hi4⟩ := hi.info
  obtain ⟨it, ht1, ht2, ht3, ht4⟩ := hit.info
  subst hi3
  have hfill := fill_whole hsz vs zt.cells hc hz
  rw [← hp] at hfill
  left
  simp only [execOp, Instr.build, Sem.run_bind, zeroValue, typeInfo, sizeOf, run_underlying ht, Result.andThen_ok, Sem.run_pure]
  simp [ht1, ht2, hi1, hfill, program, Sem.run]
theorem r_build_a1 {ρ : Operand → Value} {dst : Option Tmp} {g : Option (Nat × Bool)} {t e : TypeId} {len szt bt by_ : Nat} {z zt : Value} {parts : Array (Nat × Operand)} (vs : List Value) (ht : P.underlying t = some (.array len e)) (hi : TI P e z 1 by_) (hit : TI P t zt szt bt)
    (hp : (parts.toList.map fun (p : Nat × Operand) => (p.1, ρ p.2)) = (vs.zipIdx 0).map fun x => (x.2, x.1)) (h1 : ∀ v ∈ vs, v.oneCell' = true) (hz : vs.length = zt.cells.size) :
    Run P ρ ⟨dst, .build t parts, ty, pos, aft, g⟩ w (.agg vs.toArray) w := by
  have h := r_build_a (P := P) (w := w) (dst := dst) (ty := ty) (pos := pos) (aft := aft) (g := g) vs ht hi hit hp (fun v hv => by rw [cells_one (h1 v hv)]; rfl) (by decide) (by omega)
  rwa [flat_one h1] at h
theorem ivn {a : Int} {k : Nat} (h : a = (k : Int)) : iV a = iV (k : Int) := by rw [h]
theorem r_load_at {ρ : Operand → Value} {dst : Option Tmp} {g : Option (Nat × Bool)} {t : TypeId} {dd : TypeDesc} {x : Operand} {i b o : Nat} {c : List Value} {T : TypeId} {v : Value} (hs : Sep w0 w L) (hi : L[i]? = some (blk b c T)) (ht : P.underlying t = some dd) (hx : ρ x = .pointer (some ⟨b, o, none⟩)) (hv : c[o]? = some v) (hd : notRow dd = true := by rfl) :
    Run P ρ ⟨dst, .load t x, ty, pos, aft, g⟩ w v w := r_load ht hx ((cell_blk (hs.at_ i hi).1).trans hv) hd
theorem r_load_whole {ρ : Operand → Value} {dst : Option Tmp} {g : Option (Nat × Bool)} {t : TypeId} {dd : TypeDesc} {x : Operand} {i b sz by_ : Nat} {z : Value} {c : List Value} {T : TypeId} (hs : Sep w0 w L) (hi : L[i]? = some (blk b c T)) (ht : P.underlying t = some dd) (hI : TI P t z sz by_) (hx : ρ x = .pointer (some ⟨b, 0, none⟩)) (hn : c.length = sz) (hd : notRow dd = false := by rfl) :
    Run P ρ ⟨dst, .load t x, ty, pos, aft, g⟩ w (.agg c.toArray) w := r_load_agg ht hI hx (cells_whole (hs.at_ i hi).1) hn hd
/-- A literal put behind the own row. -/
theorem l_append_lit {s x : Operand} {t e : TypeId} {z : Value} {sz by_ k m c b : Nat} {v : Value} {xs vs : List Value} {T : TypeId} (ht : P.underlying t = some (.slice e)) (hi : TI P e z sz by_) (hz : z.cells.size = sz) (hsz : 0 < sz)
    (hv : ev f s = v) (hx : ev f x = .slice (some ⟨b, 0, none⟩) m c) (hs : Sep w0 w (blk b vs T :: RowC e sz v k xs :: L)) (hn : vs.length = m * sz) (h1 : ∀ u ∈ vs, u.oneCell' = true) (hby : (k + m) * by_ ≤ 140737488355328) (h63 : k + m ≤ 9223372036854775807)
    (h : ∀ v' w', Sep w0 w' (RowC e sz v' (k + m) (xs ++ vs) :: L) → OkL P n ops Q rest (upd f d v') w') (hd : Nat.blt d n = true := by rfl) :
    OkL P n ops Q (⟨some d, .call { callee := .builtin .append, args := #[s, x], argTypes := #[t, t] }, ty, pos, aft, none⟩ :: rest) f w :=
  l_append ht hi hz hsz hv hx (hs.pull 1) (rd_blk (hs.at_ 0).1 hn (by omega)) h1 hby h63 (fun v' w' h' => h v' w' (h'.pull 1).drop) hd
theorem Sep.rowAt {e : TypeId} {n c k : Nat} {ad : Addr} {xs : List Value} {u : Value} (hs : Sep w0 w (RowC e 1 (.slice (some ad) n c) n xs :: L)) (hv : xs[k]? = some u) : w.cell? (ad.add k) = some u := by
  have hr := hs.rd
  have hl : k < xs.length := (List.getElem?_eq_some_iff.1 hv).1
  have hl2 := hr.1
  obtain ⟨ad', he, hc⟩ := hr.ad (by omega)
  cases he
  exact hc k u hv
theorem Sep.rowAd {e : TypeId} {n : Nat} {v : Value} {xs : List Value} (hs : Sep w0 w (RowC e 1 v n xs :: L)) (hn : 0 < n) : ∃ ad c, v = .slice (some ad) n c ∧ n ≤ c := by
  obtain ⟨A, c, rfl, hc⟩ := hs.rowForm
  obtain ⟨ad, rfl, _⟩ := hs.rd.ad hn
  exact ⟨ad, c, rfl, hc⟩
theorem one_map {α : Type} {g : α → Value} (hg : ∀ a, (g a).oneCell' = true) (l : List α) : ∀ v ∈ l.map g, v.oneCell' = true := by
  intro v hv
  obtain ⟨x, _, rfl⟩ := List.mem_map.1 hv
  exact hg x
theorem l_make {t e : TypeId} {z : Value} {sz by_ l c : Nat} {x y : Operand} (hs : Sep w0 w L) (ht : P.underlying t = some (.slice e)) (hi : TI P e z sz by_) (hx : ev f x = iV (l : Int)) (hy : ev f y = iV (c : Int)) (hlc : l ≤ c) (hby : by_ * c ≤ 281474976710656) (h63 : c ≤ 9223372036854775807)
    (h : ∀ b w', Sep w0 w' (blk b (madeCells z.cells (c * sz)).toList e :: L) → Below w.heap.size w w' → w.heap.size ≤ b → OkL P n ops Q rest (upd f d (.slice (some ⟨b, 0, none⟩) l c)) w') (hd : Nat.blt d n = true := by rfl) :
    OkL P n ops Q (⟨some d, .makeSlice t x y, ty, pos, aft, none⟩ :: rest) f w := by
  obtain ⟨i, hi1, hi2, hi3, hi4⟩ := hi.info
  subst hi3; subst hi4
  have hb' : (i.bytes : Int) * (c : Int) ≤ 281474976710656 := by
    have h : ((i.bytes * c : Nat) : Int) ≤ 281474976710656 := by omega
    rwa [Int.natCast_mul] at h
  have hr := run_make (P := P) w t e i z ht hi1 hi2 .i64 .i64 (l : Int) (c : Int) (by omega) (by omega) hb' (by omega)
  simp only [Int.toNat_natCast] at hr
  refine l_v (v := .slice (some ⟨w.heap.size, 0, none⟩) l c) (.inl ?_) (h _ _ (hs.alloc _) ((Below.refl _ _).alloc (Nat.le_refl _) _) (Nat.le_refl _)) hd
  simp only [execOp, hx, hy, Sem.run_bind, hr, Result.andThen_ok, Sem.run_pure]
/-- Equality of arrays of bytes. -/
theorem beq_dec (a b : List UInt8) : (a == b) = decide (a = b) := by rw [Bool.eq_iff_iff]; simp
theorem r_eqA {ρ : Operand → Value} {dst : Option Tmp} {g : Option (Nat × Bool)} {t t' e : TypeId} {len by_ : Nat} {z : Value} {x y : Operand} {a b : List UInt8} (ht : P.underlying t = some (.array len e)) (he : P.underlying e = some (.int .u8)) (hi : TI P e z 1 by_) (hg : P.eqGuardType P.depth t = false)
    (hx : ρ x = .agg (a.map u8V).toArray) (hy : ρ y = .agg (b.map u8V).toArray) (ha : a.length = len) (hb : b.length = len) : Run P ρ ⟨dst, .binOp .eql t x y t', ty, pos, aft, g⟩ w (bV (decide (a = b))) w := by
  left
  have h := run_eql_bytes (P := P) w t e len ht he (fun w => hi.size w) a b ha hb
  rw [beq_dec] at h
  have h2 : (binOp .eql t (.agg (a.map u8V).toArray) (.agg (b.map u8V).toArray)).run P w = .ok (.bool (decide (a = b))) w := h
  simp only [execOp, hx, hy, Sem.run_bind, run_eqGuard_agg (P := P) w .eql t _ _ _ _ hg, Result.andThen_ok, h2, Sem.run_pure]
theorem r_neA {ρ : Operand → Value} {dst : Option Tmp} {g : Option (Nat × Bool)} {t t' e : TypeId} {len by_ : Nat} {z : Value} {x y : Operand} {a b : List UInt8} (ht : P.underlying t = some (.array len e)) (he : P.underlying e = some (.int .u8)) (hi : TI P e z 1 by_) (hg : P.eqGuardType P.depth t = false)
    (hx : ρ x = .agg (a.map u8V).toArray) (hy : ρ y = .agg (b.map u8V).toArray) (ha : a.length = len) (hb : b.length = len) : Run P ρ ⟨dst, .binOp .neq t x y t', ty, pos, aft, g⟩ w (bV (decide (a ≠ b))) w := by
  left
  have h := run_equalIn_bytes (P := P) w 9998 t e len ht he (fun w => hi.size w) a b ha hb
  rw [beq_dec] at h
  have h2 : (binOp .neq t (.agg (a.map u8V).toArray) (.agg (b.map u8V).toArray)).run P w = .ok (.bool (decide (a ≠ b))) w := by
    rw [run_neq_struct]
    have h' : (Op.equalIn 10000 t (.agg (a.map u8V).toArray) (.agg (b.map u8V).toArray)).run P w = .ok (decide (a = b)) w := h
    rw [h', Result.andThen_ok, decide_not]
  simp only [execOp, hx, hy, Sem.run_bind, run_eqGuard_agg (P := P) w .neq t _ _ _ _ hg, Result.andThen_ok, h2, Sem.run_pure]
end
end Go.Proofs.Ytnneoipoaoefkaa.Eng
