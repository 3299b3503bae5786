/- The steps of a function's code, the frame taken as a function from slots to values: one lemma a form of code. -/
import Derived.Below
import Derived.Calls
import Derived.Tactics
import Derived.StillTail
import Derived.Deep.Quiet
import Derived.KernelRfl
import Derived.WalkKit
namespace Go.Proofs.Ytnneoipoaoefkaa.Eng
open Go Go.RowKit
set_option linter.unusedVariables false
set_option linter.unusedSimpArgs false

abbrev Env := Nat → Value
def upd (f : Env) (k : Nat) (v : Value) : Env := fun t => bif Nat.beq t k then v else f t
theorem beq_no {t k : Nat} (h : ¬ t = k) : Nat.beq t k = false := by
  cases hb : Nat.beq t k
  · rfl
  · exact absurd (Nat.eq_of_beq_eq_true hb) h
theorem upd_same (f : Env) (k : Nat) (v : Value) : upd f k v k = v := by simp [upd]
theorem upd_eq (f : Env) (k : Nat) (v : Value) (t : Nat) : upd f k v t = if t = k then v else f t := by
  unfold upd
  by_cases h : t = k
  · subst h; simp
  · simp [beq_no h, h]
/-- Frame a holds what f says. -/
structure Rep (n : Nat) (a : Act) (f : Env) : Prop where
  size : a.tmps.size = n
  dfr : a.defers = []
  get : ∀ t, a.tmps.getD t undef = f t
def ev (f : Env) : Operand → Value
  | .tmp t => f t
  | .const v => v
  | .global g => .pointer (some ⟨g, 0, none⟩)
  | .func k => .func (.func k) #[] #[]
variable {P : Program} {n : Nat} {a : Act} {f : Env} {w : World}
theorem Rep.eval (h : Rep n a f) : a.eval = ev f := by
  funext x
  cases x <;> simp [Act.eval, ev, ← h.get]
theorem Rep.put (h : Rep n a f) (d : Nat) (v : Value) (hd : d < n) : Rep n (a.put (some d) v) (upd f d v) := by
  refine ⟨by simp [Act.put, h.size], h.dfr, fun t => ?_⟩
  rw [upd_eq]
  simp only [Act.put, Array.getD_eq_getD_getElem?, Array.getElem?_setIfInBounds]
  by_cases e : d = t
  · subst e; simp [h.size, hd]
  · rw [if_neg e, if_neg (fun e' => e e'.symm), ← h.get]; simp
theorem Rep.put0 (h : Rep n a f) (v : Value) : Rep n (a.put none v) f := h

abbrev EPost := Exit → Env → World → Prop
def lift (n : Nat) (Q : EPost) : Exit → Act → World → Prop := fun e a w => ∃ f, Rep n a f ∧ Q e f w
structure OkC (P : Program) (n : Nat) (c : Code) (Q : EPost) (f : Env) (w : World) : Prop where
  mk :: (out : ∀ a, Rep n a f → c.wp P (lift n Q) a w)
structure OkL (P : Program) (n : Nat) (ops : Array Oper) (Q : EPost) (l : List Oper) (f : Env) (w : World) : Prop where
  mk :: (out : ∀ a, Rep n a f → wpList P ops (lift n Q) l a w)
def thenE (K : Env → World → Prop) (Q : EPost) : EPost
  | .normal, f, w => K f w
  | e, f, w => Q e f w
def blockE (id : Nat) (Q : EPost) : EPost
  | .exit i, f, w => bif Nat.beq i id then Q .normal f w else Q (.exit i) f w
  | e, f, w => Q e f w
variable {Q : EPost} {K : Env → World → Prop}
theorem nrm_then (h : K f w) : thenE K Q .normal f w := h
theorem nrm_block {id : Nat} (h : Q .normal f w) : blockE id Q .normal f w := h
theorem ex_then {i : Nat} (h : Q (.exit i) f w) : thenE K Q (.exit i) f w := h
theorem ex_hit {id : Nat} (h : Q .normal f w) : blockE id Q (.exit id) f w := by simpa [blockE] using h
theorem ex_miss {i id : Nat} (h : Q (.exit i) f w) (hne : Nat.beq i id = false := by rfl) : blockE id Q (.exit i) f w := by simpa [blockE, hne] using h
theorem ret_then (h : Q .ret f w) : thenE K Q .ret f w := h
theorem ret_block {id : Nat} (h : Q .ret f w) : blockE id Q .ret f w := h

theorem OkC.mono {c : Code} {Q' : EPost} (h : OkC P n c Q f w) (hq : ∀ e f w, Q e f w → Q' e f w) : OkC P n c Q' f w :=
  ⟨fun a ha => wp_mono (h.out a ha) fun _ _ _ ⟨f', hr, hf⟩ => ⟨f', hr, hq _ _ _ hf⟩⟩
theorem c_skip (h : Q .normal f w) : OkC P n .skip Q f w := ⟨fun a ha => wp_skip ⟨f, ha, h⟩⟩
theorem c_label {l : Nat} (h : Q .normal f w) : OkC P n (.label l) Q f w := ⟨fun a ha => wp_label ⟨f, ha, h⟩⟩
theorem c_exit {id : Nat} (h : Q (.exit id) f w) : OkC P n (.exit id) Q f w := ⟨fun a ha => wp_exit ⟨f, ha, h⟩⟩
theorem c_ret (h : Q .ret f w) : OkC P n .ret Q f w := ⟨fun a ha => wp_ret ⟨f, ha, h⟩⟩
theorem c_seq {x y : Code} (h : OkC P n x (thenE (fun f w => OkC P n y Q f w) Q) f w) : OkC P n (.seq x y) Q f w :=
  ⟨fun a ha => wp_seq (wp_mono (h.out a ha) (by
    rintro e a w ⟨f', hr, hq⟩
    cases e with
    | normal => exact OkC.out hq _ hr
    | _ => exact ⟨f', hr, hq⟩))⟩
theorem c_block {id : Nat} {c : Code} (h : OkC P n c (blockE id Q) f w) : OkC P n (.block id c) Q f w :=
  ⟨fun a ha => wp_block (wp_mono (h.out a ha) (by
    rintro e a w ⟨f', hr, hq⟩
    cases e with
    | exit i =>
      simp only [blockE] at hq
      simp only [Exit.inBlock]
      by_cases hi : i = id
      · subst hi; rw [if_pos rfl]; exact ⟨f', hr, by simpa using hq⟩
      · rw [if_neg hi]
        exact ⟨f', hr, by simpa [beq_no hi] using hq⟩
    | _ => exact ⟨f', hr, hq⟩))⟩
theorem c_cond {c : Operand} {x y : Code} {t : Bool} (hc : ev f c = .bool t) (ht : t = true → OkC P n x Q f w) (hf : t = false → OkC P n y Q f w) : OkC P n (.cond c x y) Q f w :=
  ⟨fun a ha => wp_cond_split (t := t) (by rw [ha.eval]; exact hc) (fun h => (ht h).out a ha) (fun h => (hf h).out a ha)⟩
theorem c_true {c : Operand} {x y : Code} {t : Bool} (hc : ev f c = .bool t) (h : t = true) (ht : OkC P n x Q f w) : OkC P n (.cond c x y) Q f w :=
  c_cond hc (fun _ => ht) (fun h' => by rw [h] at h'; cases h')
theorem c_false {c : Operand} {x y : Code} {t : Bool} (hc : ev f c = .bool t) (h : t = false) (hf : OkC P n y Q f w) : OkC P n (.cond c x y) Q f w :=
  c_cond hc (fun h' => by rw [h] at h'; cases h') (fun _ => hf)
theorem c_loop {c : Code} (I : Env → World → Prop) (μ : Env → World → Nat) (h0 : I f w)
    (round : ∀ g w', I g w' → OkC P n c (thenE (fun f' w'' => I f' w'' ∧ μ f' w'' < μ g w') Q) g w') : OkC P n (.loop c) Q f w := by
  refine ⟨fun a ha => wp_loop (fun a w => ∃ g, Rep n a g ∧ I g w) (fun a w => μ (fun t => a.tmps.getD t undef) w) ⟨f, ha, h0⟩ ?_⟩
  rintro a' w' ⟨g, hr, hI⟩
  refine wp_mono ((round g w' hI).out a' hr) ?_
  rintro e a2 w2 ⟨f2, hr2, hq⟩
  cases e with
  | normal =>
    refine ⟨⟨f2, hr2, hq.1⟩, ?_⟩
    have e1 : (fun t => a2.tmps.getD t undef) = f2 := funext hr2.get
    have e2 : (fun t => a'.tmps.getD t undef) = g := funext hr.get
    show μ (fun t => a2.tmps.getD t undef) w2 < μ (fun t => a'.tmps.getD t undef) w'
    rw [e1, e2]
    exact hq.2
  | _ => exact ⟨f2, hr2, hq⟩
/-- f outside the slots k.., g there. -/
def over (keep : List Nat) (f g : Env) : Env := keep.foldr (fun k h => upd h k (f k)) g
theorem over_at (keep : List Nat) (f g : Env) (t : Nat) : over keep f g t = if t ∈ keep then f t else g t := by
  induction keep with
  | nil => simp [over]
  | cons k keep ih =>
    show upd (over keep f g) k (f k) t = _
    rw [upd_eq, ih]
    by_cases h : t = k
    · subst h; simp
    · simp [h]
theorem over_self (keep : List Nat) (f g : Env) (h : ∀ k ∈ keep, g k = f k) : over keep f g = g := by
  funext t
  rw [over_at]
  split
  · rename_i ht; exact (h t ht).symm
  · rfl
/-- A loop, with slots that keep what they held. -/
theorem c_loopk {c : Code} (keep : List Nat) (I : Env → World → Prop) (μ : Env → World → Nat) (h0 : I f w)
    (round : ∀ g w', I (over keep f g) w' → OkC P n c (thenE (fun f' w'' => ((∀ k ∈ keep, f' k = f k) ∧ I f' w'') ∧ μ f' w'' < μ (over keep f g) w') Q) (over keep f g) w') : OkC P n (.loop c) Q f w := by
  refine c_loop (fun f' w' => (∀ k ∈ keep, f' k = f k) ∧ I f' w') μ ⟨fun _ _ => rfl, h0⟩ ?_
  rintro g w' ⟨hk, hI⟩
  have e := over_self keep f g hk
  have := round g w' (by rw [e]; exact hI)
  rw [e] at this
  exact this
/-- The same, the measure an index of the relation. -/
theorem c_loopm {c : Code} (keep : List Nat) (I : Nat → Env → World → Prop) (h0 : ∃ m, I m f w)
    (round : ∀ m g w', I m (over keep f g) w' → OkC P n c (thenE (fun f' w'' => (∀ k ∈ keep, f' k = f k) ∧ ∃ m', m' < m ∧ I m' f' w'') Q) (over keep f g) w') : OkC P n (.loop c) Q f w := by
  obtain ⟨m0, h0⟩ := h0
  have key : ∀ m g w', (∀ k ∈ keep, g k = f k) → I m g w' → ∀ (b : Frame) (ks : List Item) (cs : List Frame) (a : Act), Rep n a g →
      ∃ e a' w2, lift n Q e a' w2 ∧ Arrives P (lone (b.at a (.code c :: .inLoop c :: ks)) cs w') b ks cs e a' w2 := by
    intro m
    induction m using Nat.strongRecOn with
    | _ m ih =>
      intro g w' hk hI b ks cs a ha
      have e := over_self keep f g hk
      have hr := round m g w' (by rw [e]; exact hI)
      rw [e] at hr
      obtain ⟨e1, a1, w1, hq, harr⟩ := hr.out a ha b (.inLoop c :: ks) cs
      obtain ⟨f1, hr1, hq⟩ := hq
      cases e1 with
      | normal =>
        obtain ⟨hk1, m1, hlt, hI1⟩ := hq
        obtain ⟨e2, a2, w2, hq2, harr2⟩ := ih m1 hlt f1 w1 hk1 hI1 b ks cs a1 hr1
        exact ⟨e2, a2, w2, hq2, .of_steps (Steps.trans harr (.one step_inLoop)) harr2⟩
      | exit id => exact ⟨_, a1, w1, ⟨f1, hr1, hq⟩, .pass (x := .inLoop c) rfl (fun _ _ => .inl (by simp)) harr⟩
      | goto l => exact ⟨_, a1, w1, ⟨f1, hr1, hq⟩, .pass (x := .inLoop c) rfl (fun _ _ => .inl (by simp)) harr⟩
      | ret => exact ⟨_, a1, w1, ⟨f1, hr1, hq⟩, .pass (x := .inLoop c) rfl (fun _ _ => .inl (by simp)) harr⟩
      | panic ch => exact ⟨_, a1, w1, ⟨f1, hr1, hq⟩, .pass (x := .inLoop c) rfl (fun _ _ => .inl (by simp)) harr⟩
      | outgrown => exact ⟨_, a1, w1, ⟨f1, hr1, hq⟩, .pass (x := .inLoop c) rfl (fun _ _ => .inl (by simp)) harr⟩
  refine ⟨fun a ha b ks cs => ?_⟩
  obtain ⟨e, a', w2, hq, harr⟩ := key m0 f w (fun _ _ => rfl) h0 b ks cs a ha
  exact ⟨e, a', w2, hq, .of_steps (.one step_loop) harr⟩
def Keeps : List Nat → Env → Env → Prop
  | [], _, _ => True
  | k :: ks, f, g => g k = f k ∧ Keeps ks f g
theorem Keeps.all {f g : Env} : ∀ {ks : List Nat}, Keeps ks f g → ∀ k ∈ ks, g k = f k
  | k :: ks, ⟨h1, h2⟩, k', hk => by
    rcases List.mem_cons.1 hk with rfl | hk
    · exact h1
    · exact h2.all k' hk
/-- The same, as the walk meets it. -/
theorem c_loopn {c : Code} (keep : List Nat) (I : Nat → Env → World → Prop) (h0 : ∃ m, I m f w)
    (round : ∀ m g w', I m (over keep f g) w' → OkC P n c (thenE (fun f' w'' => Keeps keep f f' ∧ ∃ m', m' < m ∧ I m' f' w'') Q) (over keep f g) w') : OkC P n (.loop c) Q f w :=
  c_loopm keep I h0 fun m g w' hI => (round m g w' hI).mono (by
    intro e f w h
    cases e with
    | normal => exact ⟨h.1.all, h.2⟩
    | _ => exact h)
/-- Ways that meet again: what holds there. -/
theorem c_mid {c : Code} (keep : List Nat) (M : Env → World → Prop) (h1 : OkC P n c (thenE (fun f' w' => Keeps keep f f' ∧ M f' w') Q) f w)
    (h2 : ∀ g w', M (over keep f g) w' → K (over keep f g) w') : OkC P n c (thenE K Q) f w :=
  h1.mono (by
    intro e f' w' h
    cases e with
    | normal =>
      have e := over_self keep f f' h.1.all
      have := h2 f' w' (by rw [e]; exact h.2)
      rw [e] at this
      exact this
    | _ => exact h)
def Holds : List (Nat × Value) → Env → Prop
  | [], _ => True
  | (k, v) :: L, g => g k = v ∧ Holds L g
theorem Holds.all {g : Env} : ∀ {L : List (Nat × Value)}, Holds L g → ∀ p ∈ L, g p.1 = p.2
  | (k, v) :: L, ⟨h1, h2⟩, p, hp => by
    rcases List.mem_cons.1 hp with rfl | hp
    · exact h1
    · exact h2.all p hp
theorem OkC.env {c : Code} {f' : Env} (h : OkC P n c Q f' w) (e : f = f') : OkC P n c Q f w := e ▸ h
theorem OkL.env {ops : Array Oper} {l : List Oper} {f' : Env} (h : OkL P n ops Q l f' w) (e : f = f') : OkL P n ops Q l f w := e ▸ h
def upds (L : List (Nat × Value)) (g : Env) : Env := match L with
  | [] => g
  | (k, v) :: L => upd (upds L g) k v
theorem fixL {g : Env} : ∀ (L : List (Nat × Value)), (∀ p ∈ L, g p.1 = p.2) → g = upds L g
  | [], _ => rfl
  | (k, v) :: L, h => by
    funext t
    show g t = upd (upds L g) k v t
    rw [upd_eq]
    split
    · rename_i e; subst e; exact h (t, v) (List.mem_cons_self ..)
    · exact congrFun (fixL L fun p hp => h p (List.mem_cons_of_mem _ hp)) t
theorem fixH {g : Env} {L : List (Nat × Value)} (h : Holds L g) : g = upds L g := fixL L h.all
theorem fix1 {g : Env} {k : Nat} {v : Value} (h : g k = v) : g = upd g k v := by
  funext t
  rw [upd_eq]
  split
  · rename_i e; subst e; exact h
  · rfl

/-! lists of operations -/
theorem c_region {id : Nat} {l : List Oper} (h : OkL P n l.toArray Q l f w) : OkC P n (.region id l.toArray false) Q f w :=
  ⟨fun a ha => wp_region_lit (h.out a ha)⟩
/-- The usual case: a region, and code behind it. -/
theorem c_rseq {id : Nat} {l : List Oper} {y : Code} (h : OkL P n l.toArray (thenE (fun f w => OkC P n y Q f w) Q) l f w) : OkC P n (.seq (.region id l.toArray false) y) Q f w :=
  c_seq (c_region h)
variable {ops : Array Oper} {rest : List Oper}
theorem l_nil (h : Q .normal f w) : OkL P n ops Q [] f w := ⟨fun a ha => wpList_nil ⟨f, ha, h⟩⟩
theorem l_then (h : K f w) : OkL P n ops (thenE K Q) [] f w := l_nil h
/-- An operation's run: the value, and the world behind it. -/
def Run (P : Program) (ρ : Operand → Value) (o : Oper) (w : World) (v : Value) (w' : World) : Prop :=
  (execOp ρ o).run P w = .ok (.value v) w' ∨ ((execOp ρ o).run P w = .ok .skip w' ∧ v = undef)
theorem wanted_none {o : Oper} (hg : o.guard = none) (y : Nat → Option Bool) : Region.wanted o y = true := by simp [Region.wanted, hg]
theorem wanted_yes {o : Oper} {j d : Nat} {b : Bool} {oj : Oper} (hg : o.guard = some (j, b)) (hj : ops[j]? = some oj) (hd : oj.dst = some d) (hdn : d < n) (ha : Rep n a f) (hv : f d = .bool b) :
    Region.wanted o (yielded ops a.tmps) = true := by
  have h1 : a.tmps[d]? = some (.bool b) := by
    have := ha.get d
    rw [hv, Array.getD_eq_getD_getElem?] at this
    have hs : d < a.tmps.size := by rw [ha.size]; exact hdn
    rw [Array.getElem?_eq_getElem hs] at this ⊢
    simpa using this
  simp [Region.wanted, hg, yielded, hj, hd, h1]
theorem wanted_no {o : Oper} {j d : Nat} {b : Bool} {oj : Oper} (hg : o.guard = some (j, b)) (hj : ops[j]? = some oj) (hd : oj.dst = some d) (ha : Rep n a f) (hv : f d = .bool (!b) ∨ f d = undef) :
    Region.wanted o (yielded ops a.tmps) = false := by
  have h1 : a.tmps[d]? = some (.bool (!b)) ∨ a.tmps[d]? = some undef ∨ a.tmps[d]? = none := by
    have h := ha.get d
    rw [Array.getD_eq_getD_getElem?] at h
    cases hx : a.tmps[d]? with
    | none => exact .inr (.inr rfl)
    | some x =>
      rw [hx] at h
      simp only [Option.getD_some] at h
      rcases hv with hv | hv
      · left; rw [h, hv]
      · right; left; rw [h, hv]
  rcases h1 with h1 | h1 | h1
  · cases b <;> simp [Region.wanted, hg, yielded, hj, hd, h1]
  · simp [Region.wanted, hg, yielded, hj, hd, h1, undef]
  · simp [Region.wanted, hg, yielded, hj, hd, h1]
theorem l_put {o : Oper} {v : Value} {w' : World} (hw : ∀ a, Rep n a f → Region.wanted o (yielded ops a.tmps) = true) (hr : Run P (ev f) o w v w')
    (h : ∀ a, Rep n a f → wpList P ops (lift n Q) rest (a.put o.dst v) w') : OkL P n ops Q (o :: rest) f w := by
  refine ⟨fun a ha => ?_⟩
  unfold wpList
  rw [if_pos (hw a ha)]
  left
  unfold Oper.wp
  rw [ha.eval]
  rcases hr with hr | ⟨hr, rfl⟩
  · rw [hr]; exact h a ha
  · rw [hr]; exact h a ha
section steps
variable {op : Op} {ty : TypeId} {pos : String} {aft : Array Edge} {d : Nat} {v : Value} {w' : World}
/-- A value into a slot. -/
theorem l_v (hr : Run P (ev f) ⟨some d, op, ty, pos, aft, none⟩ w v w') (h : OkL P n ops Q rest (upd f d v) w') (hd : Nat.blt d n = true := by rfl) : OkL P n ops Q (⟨some d, op, ty, pos, aft, none⟩ :: rest) f w :=
  l_put (fun a _ => wanted_none rfl _) hr fun a ha => h.out _ (ha.put d v (by simpa using hd))
/-- No slot. -/
theorem l_0 (hr : Run P (ev f) ⟨none, op, ty, pos, aft, none⟩ w v w') (h : OkL P n ops Q rest f w') : OkL P n ops Q (⟨none, op, ty, pos, aft, none⟩ :: rest) f w :=
  l_put (fun a _ => wanted_none rfl _) hr fun a ha => h.out _ (ha.put0 v)
/-- Guarded, and the guard says yes. -/
theorem l_vg {j dj : Nat} {b t : Bool} {oj : Oper} (hr : Run P (ev f) ⟨some d, op, ty, pos, aft, some (j, b)⟩ w v w') (hv : f dj = .bool t) (ht : t = b) (h : OkL P n ops Q rest (upd f d v) w')
    (hj : ops[j]? = some oj := by rfl) (hdj : oj.dst = some dj := by rfl) (hd : Nat.blt d n = true := by rfl) (hdn : Nat.blt dj n = true := by rfl) : OkL P n ops Q (⟨some d, op, ty, pos, aft, some (j, b)⟩ :: rest) f w :=
  l_put (fun a ha => wanted_yes rfl hj hdj (by simpa using hdn) ha (ht ▸ hv)) hr fun a ha => h.out _ (ha.put d v (by simpa using hd))
/-- Guarded, and the guard says no. -/
theorem l_skip {o : Oper} {j dj : Nat} {b : Bool} {oj : Oper} (hv : f dj = .bool (!b) ∨ f dj = undef)
    (h : OkL P n ops Q rest (upd f d undef) w) (hg : o.guard = some (j, b) := by rfl) (hj : ops[j]? = some oj := by rfl) (hdj : oj.dst = some dj := by rfl) (hod : o.dst = some d := by rfl) (hd : Nat.blt d n = true := by rfl) : OkL P n ops Q (o :: rest) f w := by
  refine ⟨fun a ha => ?_⟩
  unfold wpList
  rw [wanted_no hg hj hdj ha hv, hod]
  exact h.out _ (ha.put d undef (by simpa using hd))
theorem l_no {o : Oper} {j dj : Nat} {b t : Bool} {oj : Oper} (hv : f dj = .bool t) (ht : t = !b)
    (h : OkL P n ops Q rest (upd f d undef) w) (hg : o.guard = some (j, b) := by rfl) (hj : ops[j]? = some oj := by rfl) (hdj : oj.dst = some dj := by rfl) (hod : o.dst = some d := by rfl) (hd : Nat.blt d n = true := by rfl) : OkL P n ops Q (o :: rest) f w :=
  l_skip (.inl (ht ▸ hv)) h hg hj hdj hod hd
/-- A call: what it comes to, by its contract. -/
theorem l_call {fn : FuncId} {args : Array Value} (hr : (execOp (ev f) ⟨some d, op, ty, pos, aft, none⟩).run P w = .ok (.enter fn args) w)
    (hc : Calls P fn args w fun e w' => ∃ v, e = .returned v ∧ OkL P n ops Q rest (upd f d v) w') (hd : Nat.blt d n = true := by rfl) : OkL P n ops Q (⟨some d, op, ty, pos, aft, none⟩ :: rest) f w := by
  refine ⟨fun a ha => ?_⟩
  unfold wpList
  rw [if_pos (wanted_none rfl _)]
  left
  unfold Oper.wp
  rw [ha.eval, hr]
  refine hc.mono ?_
  rintro e w' ⟨v, rfl, h⟩
  exact h.out _ (ha.put d v (by simpa using hd))
theorem l_callg {fn : FuncId} {args : Array Value} {j dj : Nat} {b t : Bool} {oj : Oper} (hr : (execOp (ev f) ⟨some d, op, ty, pos, aft, some (j, b)⟩).run P w = .ok (.enter fn args) w)
    (hv : f dj = .bool t) (ht : t = b) (hc : Calls P fn args w fun e w' => ∃ v, e = .returned v ∧ OkL P n ops Q rest (upd f d v) w')
    (hj : ops[j]? = some oj := by rfl) (hdj : oj.dst = some dj := by rfl) (hd : Nat.blt d n = true := by rfl) (hdn : Nat.blt dj n = true := by rfl) : OkL P n ops Q (⟨some d, op, ty, pos, aft, some (j, b)⟩ :: rest) f w := by
  refine ⟨fun a ha => ?_⟩
  unfold wpList
  rw [if_pos (wanted_yes rfl hj hdj (by simpa using hdn) ha (ht ▸ hv))]
  left
  unfold Oper.wp
  rw [ha.eval, hr]
  refine hc.mono ?_
  rintro e w' ⟨v, rfl, h⟩
  exact h.out _ (ha.put d v (by simpa using hd))
end steps

/-! entering, and coming back -/
structure Fin (P : Program) (fn : Func) (R : Ending → World → Prop) (f : Env) (w : World) : Prop where
  mk :: (out : ∀ n a, Rep n a f → ∃ v, (results fn a.tmps).run P w = .ok v w ∧ R (.returned v) w)
def finE (P : Program) (fn : Func) (R : Ending → World → Prop) : EPost
  | .normal, f, w | .ret, f, w => Fin P fn R f w
  | _, _, _ => False
def env0 (args : List Value) : Env := fun t => args.getD t undef
theorem enter {k : FuncId} {fn : Func} {c : Code} {args : Array Value} {R : Ending → World → Prop} (hf : P.funcs[k]? = some fn) (hb : fn.body = some c) (hn : Nat.ble args.size fn.ntmps = true)
    (h : OkC P fn.ntmps c (finE P fn R) (env0 args.toList) w) : Calls P k args w R := by
  refine calls_of_wp hf hb (wp_mono (h.out _ ⟨?_, rfl, fun t => ?_⟩) ?_)
  · have : args.size ≤ fn.ntmps := by simpa using hn
    simp; omega
  · simp only [env0, Array.getD_eq_getD_getElem?, List.getD_eq_getElem?_getD, Array.getElem?_append, Array.getElem?_toList]
    split
    · rfl
    · rename_i h1
      have h3 : args[t]? = none := Array.getElem?_eq_none (by omega)
      rw [h3]
      by_cases h2 : t - args.size < fn.ntmps - args.size
      · simp [h2]
      · rw [Array.getElem?_eq_none (by rw [Array.size_replicate]; omega)]
  · rintro e a w ⟨f, hr, hq⟩
    cases e with
    | normal => obtain ⟨v, h1, h2⟩ := Fin.out hq _ _ hr; exact ⟨hr.dfr, v, h1, h2⟩
    | ret => obtain ⟨v, h1, h2⟩ := Fin.out hq _ _ hr; exact ⟨hr.dfr, v, h1, h2⟩
    | _ => exact (False.elim hq)
variable {fn : Func} {R : Ending → World → Prop}
theorem fin0 (h : fn.results = #[]) (hR : R (.returned (.tuple #[])) w) : Fin P fn R f w :=
  ⟨fun n a ha => ⟨_, results_none h _ _ _, hR⟩⟩
theorem fin1 {t : Tmp} (h : fn.results = #[.tmp t]) (hR : R (.returned (f t)) w) : Fin P fn R f w :=
  ⟨fun n a ha => ⟨_, results_tmp h _ _ _, by rw [ha.get]; exact hR⟩⟩
theorem fin2 {t u : Tmp} (h : fn.results = #[.tmp t, .tmp u]) (hR : R (.returned (.tuple #[f t, f u])) w) : Fin P fn R f w :=
  ⟨fun n a ha => ⟨_, results_tmp2 h _ _ _, by rw [ha.get, ha.get]; exact hR⟩⟩
/-- Results that lie in memory. -/
theorem results_cell' {fn : Func} {t : Tmp} {T : TypeId} {p : Addr} {v : Value} (h : fn.results = #[.cell t T]) (tmps : Array Value) (P : Program) (w : World) (hp : tmps.getD t undef = .pointer (some p)) (hl : (loadVar T p).run P w = .ok v w) :
    (results fn tmps).run P w = .ok v w := by
  rw [Array.getD_eq_getD_getElem?] at hp
  simp [results, h, hp, asAddr, hl]
theorem results_cell_tmp' {fn : Func} {t u : Tmp} {T : TypeId} {p : Addr} {v : Value} (h : fn.results = #[.cell t T, .tmp u]) (tmps : Array Value) (P : Program) (w : World) (hp : tmps.getD t undef = .pointer (some p)) (hl : (loadVar T p).run P w = .ok v w) :
    (results fn tmps).run P w = .ok (.tuple #[v, tmps.getD u undef]) w := by
  rw [Array.getD_eq_getD_getElem?] at hp
  simp [results, h, hp, asAddr, hl]
theorem fin1c {t : Tmp} {T : TypeId} {p : Addr} {v : Value} (h : fn.results = #[.cell t T]) (hp : f t = .pointer (some p)) (hl : (loadVar T p).run P w = .ok v w) (hR : R (.returned v) w) : Fin P fn R f w :=
  ⟨fun n a ha => ⟨_, results_cell' h _ _ _ (by rw [ha.get]; exact hp) hl, hR⟩⟩
theorem fin2c {t u : Tmp} {T : TypeId} {p : Addr} {v : Value} (h : fn.results = #[.cell t T, .tmp u]) (hp : f t = .pointer (some p)) (hl : (loadVar T p).run P w = .ok v w) (hR : R (.returned (.tuple #[v, f u])) w) : Fin P fn R f w :=
  ⟨fun n a ha => ⟨_, results_cell_tmp' h _ _ _ (by rw [ha.get]; exact hp) hl, by rw [ha.get]; exact hR⟩⟩
theorem results_tmp3' {fn : Func} {t u v : Tmp} (h : fn.results = #[.tmp t, .tmp u, .tmp v]) (tmps : Array Value) (P : Program) (w : World) :
    (results fn tmps).run P w = .ok (.tuple #[tmps.getD t undef, tmps.getD u undef, tmps.getD v undef]) w := by
  simp [results, h]
theorem results_tmp4' {fn : Func} {t u v x : Tmp} (h : fn.results = #[.tmp t, .tmp u, .tmp v, .tmp x]) (tmps : Array Value) (P : Program) (w : World) :
    (results fn tmps).run P w = .ok (.tuple #[tmps.getD t undef, tmps.getD u undef, tmps.getD v undef, tmps.getD x undef]) w := by
  simp [results, h]
theorem fin3 {t u v : Tmp} (h : fn.results = #[.tmp t, .tmp u, .tmp v]) (hR : R (.returned (.tuple #[f t, f u, f v])) w) : Fin P fn R f w :=
  ⟨fun n a ha => ⟨_, results_tmp3' h _ _ _, by rw [ha.get, ha.get, ha.get]; exact hR⟩⟩
theorem fin4 {t u v x : Tmp} (h : fn.results = #[.tmp t, .tmp u, .tmp v, .tmp x]) (hR : R (.returned (.tuple #[f t, f u, f v, f x])) w) : Fin P fn R f w :=
  ⟨fun n a ha => ⟨_, results_tmp4' h _ _ _, by rw [ha.get, ha.get, ha.get, ha.get]; exact hR⟩⟩
end Go.Proofs.Ytnneoipoaoefkaa.Eng
