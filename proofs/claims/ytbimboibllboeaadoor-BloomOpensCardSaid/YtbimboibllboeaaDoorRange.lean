/- Code that holds a range over a function: the marks that it leaves, the rounds, the iterators. -/
import Derived.Test.YtbimboibllboeaaDoorMore
import Derived.RangeFuncLeaves
import Derived.RangeFuncRecord
import Derived.RangeFuncSeq
import Derived.OrdersIn
import Derived.TacticsIn
namespace Go.Proofs.YtbimboibllboeaaDoor.Eng
open Go Go.RowKit
set_option linter.unusedVariables false
set_option linter.unusedSimpArgs false
/-- The fence that lets all in, of a plain frame or of a round's. -/
def FR (ro : Option Nat) : Fence := { Fence.wide with round := ro }
theorem FR_none : FR none = Fence.wide := rfl
theorem FR_some (l : Nat) : FR (some l) = Fence.wide.inRound l := rfl
section
variable {P : Program} {ro : Option Nat}
theorem calls_in {n : Nat} {f : FuncId} {args : Array Value} {w : World} {R : Ending → World → Prop} (h : Calls P f args w R) : CallsIn (FR ro) n P f args w R :=
  (callsIn_wide (n := n)).2 h
theorem rows_in {n : Nat} {row : String} {args : Array Value} {w : World} {R : Value → World → Prop} (h : Rows P row args w R) : RowsIn (FR ro) n P row args w R := by
  intro c cs _
  obtain ⟨v, w', hR, hs⟩ := h c cs
  exact ⟨v, w', hR, (stepsIn_wide (P := P)).2 hs⟩
/-- The frame with further deferred calls behind its own. -/
def Act.more (a : Act) (ds : List Deferred) : Act := { a with defers := a.defers ++ ds }
theorem more_put (a : Act) (ds : List Deferred) (d : Option Tmp) (v : Value) : (Act.more a ds).put d v = Act.more (a.put d v) ds := by cases d <;> rfl
theorem more_eval (a : Act) (ds : List Deferred) : (Act.more a ds).eval = a.eval := by funext x; cases x <;> rfl
theorem op_in {n : Nat} {o : Oper} {a : Act} {w : World} {ds : List Deferred} {next next' : Act → World → Prop} {Q Q' : Exit → Act → World → Prop} (hnd : ∀ c, o.op ≠ .defer c) (h : o.wp P a w next Q)
    (hn : ∀ a w, next a w → next' (Act.more a ds) w) (hq : ∀ e a w, Q e a w → Q' e (Act.more a ds) w) (hlo : ¬ LetsOut Q) : o.wpIn (FR ro) n P (Act.more a ds) w next' Q' := by
  unfold Oper.wp at h
  refine ⟨fun _ _ => trivial, ?_⟩
  rw [Oper.semAt_eq _ _ _ hnd, more_eval]
  generalize (execOp a.eval o).run P w = r at *
  cases r with
  | ok x w' =>
    cases x with
    | value v => rw [Oper.uponIn_value, more_put]; exact hn _ _ h
    | skip => rw [Oper.uponIn_skip, more_put]; exact hn _ _ h
    | defer d =>
      rw [Oper.uponIn_defer]
      have := hn _ _ h
      rw [← more_put] at this
      exact this
    | enter f args =>
      rw [Oper.uponIn_enter]
      refine ⟨fun h => (by cases h), calls_in ?_⟩
      rw [Oper.upon_enter] at h
      refine h.mono fun e w'' he => ?_
      cases e with
      | returned v =>
        show next' ((Act.more a ds).put o.dst v) w''
        rw [more_put]; exact hn _ _ he
      | panicked c => exact hq _ _ _ he
      | outgrown => exact absurd he hlo
    | row row args =>
      rw [Oper.uponIn_row]
      refine ⟨fun h => (by cases h), rows_in ?_⟩
      rw [Oper.upon_row] at h
      exact h.mono fun v w'' he => by rw [more_put]; exact hn _ _ he
    | _ => exact h.elim
  | halt x w' =>
    cases x with
    | panic v => exact hq _ _ _ h
    | _ => exact h.elim
def noDefer (ops : Array Oper) : Bool := ops.all fun o => match o.op with | .defer _ => false | _ => true
theorem noDefer_at {ops : Array Oper} (h : noDefer ops = true) {i : Nat} {o : Oper} (hi : ops[i]? = some o) : ∀ c, o.op ≠ .defer c := by
  intro c hc
  have h1 := Array.all_eq_true.1 h i (Array.getElem?_eq_some_iff.1 hi).1
  rw [(Array.getElem?_eq_some_iff.1 hi).2, hc] at h1
  cases h1
theorem list_in {n : Nat} {ops : Array Oper} {ds : List Deferred} {Q Q' : Exit → Act → World → Prop} (hq : ∀ e a w, Q e a w → Q' e (Act.more a ds) w) (hlo : ¬ LetsOut Q) :
    ∀ (l : List Oper) (a : Act) (w : World), (∀ o ∈ l, ∀ c, o.op ≠ .defer c) → wpList P ops Q l a w → wpListIn (FR ro) n P ops Q' l (Act.more a ds) w
  | [], a, w, _, h => hq _ _ _ h
  | o :: rest, a, w, hnd, h => by
    unfold wpList at h
    unfold wpListIn
    have ih := list_in (n := n) (ops := ops) hq hlo rest
    have hnr : ∀ o ∈ rest, ∀ c, o.op ≠ .defer c := fun o ho => hnd o (List.mem_cons_of_mem _ ho)
    by_cases hw : Region.wanted o (yielded ops a.tmps) = true
    · rw [if_pos hw] at h
      rw [if_pos (show Region.wanted o (yielded ops (Act.more a ds).tmps) = true from hw)]
      rcases h with h | ⟨_, h⟩
      · exact op_in (hnd o (List.mem_cons_self ..)) h (fun a w h => ih a w hnr h) hq hlo
      · exact absurd h hlo
    · rw [if_neg hw] at h
      rw [if_neg (show ¬ Region.wanted o (yielded ops (Act.more a ds).tmps) = true from hw), more_put]
      exact ⟨fun _ _ => trivial, ih _ _ hnr h⟩
theorem any_in {n : Nat} {ops : Array Oper} {ds : List Deferred} {Q Q' : Exit → Act → World → Prop} (hq : ∀ e a w, Q e a w → Q' e (Act.more a ds) w) (hlo : ¬ LetsOut Q) (hnd : noDefer ops = true) :
    ∀ (fuel : Nat) (listed : Array Bool) (a : Act) (w : World), wpAny P .any ops Q fuel listed a w → wpAnyIn (FR ro) n P .any ops Q' fuel listed (Act.more a ds) w
  | 0, listed, a, w, h => ⟨h.1, hq _ _ _ h.2⟩
  | fuel + 1, listed, a, w, h => by
    have ih := any_in (n := n) hq hlo hnd fuel
    refine ⟨fun h0 => hq _ _ _ (h.1 h0), fun i hi => ?_⟩
    have h1 := h.2 i hi
    unfold wpOp at h1
    unfold wpOpIn
    cases ho : ops[i]? with
    | none => rw [ho] at h1; exact ih _ _ _ h1
    | some o =>
      rw [ho] at h1
      by_cases hw : Region.wanted o (yielded ops a.tmps) = true
      · simp only [hw, if_true] at h1
        simp only [show Region.wanted o (yielded ops (Act.more a ds).tmps) = true from hw, if_true]
        rcases h1 with h1 | ⟨_, h1⟩
        · exact op_in (noDefer_at hnd ho) h1 (fun a w h => ih _ a w h) hq hlo
        · exact absurd h1 hlo
      · simp only [hw, if_false] at h1
        simp only [show ¬ Region.wanted o (yielded ops (Act.more a ds).tmps) = true from hw, if_false, more_put]
        exact ⟨fun _ _ => trivial, ih _ _ _ h1⟩
end
/-! code with marks -/
abbrev EPostD := Exit → List Deferred → Env → World → Prop
def liftD (n : Nat) (Q : EPostD) : Exit → Act → World → Prop := fun e a w => ∃ f, Rep n ⟨a.tmps, []⟩ f ∧ Q e a.defers f w
structure OkI (P : Program) (ro : Option Nat) (n : Nat) (c : Code) (Q : EPostD) (ds : List Deferred) (f : Env) (w : World) : Prop where
  mk :: (out : ∀ tm, Rep n ⟨tm, []⟩ f → c.wpIn (FR ro) 0 P (liftD n Q) ⟨tm, ds⟩ w)
structure OkIL (P : Program) (ro : Option Nat) (n : Nat) (ops : Array Oper) (Q : EPostD) (l : List Oper) (ds : List Deferred) (f : Env) (w : World) : Prop where
  mk :: (out : ∀ tm, Rep n ⟨tm, []⟩ f → wpListIn (FR ro) 0 P ops (liftD n Q) l ⟨tm, ds⟩ w)
def thenI (K : List Deferred → Env → World → Prop) (Q : EPostD) : EPostD
  | .normal, ds, f, w => K ds f w
  | e, ds, f, w => Q e ds f w
def blockI (id : Nat) (Q : EPostD) : EPostD
  | .exit i, ds, f, w => bif Nat.beq i id then Q .normal ds f w else Q (.exit i) ds f w
  | e, ds, f, w => Q e ds f w
def nrmE (K : Env → World → Prop) : EPost
  | .normal, f, w => K f w
  | _, _, _ => False
section
variable {P : Program} {ro : Option Nat} {n : Nat} {Q Q' : EPostD} {K : List Deferred → Env → World → Prop} {ds : List Deferred} {f : Env} {w : World}
theorem nrm_n {K : Env → World → Prop} (h : K f w) : nrmE K .normal f w := h
theorem nrm_thenI (h : K ds f w) : thenI K Q .normal ds f w := h
theorem nrm_blockI {id : Nat} (h : Q .normal ds f w) : blockI id Q .normal ds f w := h
theorem ex_thenI {i : Nat} (h : Q (.exit i) ds f w) : thenI K Q (.exit i) ds f w := h
theorem ex_hitI {id : Nat} (h : Q .normal ds f w) : blockI id Q (.exit id) ds f w := by simpa [blockI] using h
theorem ex_missI {i id : Nat} (h : Q (.exit i) ds f w) (hne : Nat.beq i id = false := by rfl) : blockI id Q (.exit i) ds f w := by simpa [blockI, hne] using h
theorem ret_thenI (h : Q .ret ds f w) : thenI K Q .ret ds f w := h
theorem ret_blockI {id : Nat} (h : Q .ret ds f w) : blockI id Q .ret ds f w := h
theorem OkI.mono {c : Code} (h : OkI P ro n c Q ds f w) (hq : ∀ e ds f w, Q e ds f w → Q' e ds f w) : OkI P ro n c Q' ds f w :=
  ⟨fun tm ha => wpIn_mono (h.out tm ha) fun _ _ _ ⟨f', hr, hf⟩ => ⟨f', hr, hq _ _ _ _ hf⟩⟩
theorem OkI.env {c : Code} {f' : Env} (h : OkI P ro n c Q ds f' w) (e : f = f') : OkI P ro n c Q ds f w := e ▸ h
theorem ci_skip (h : Q .normal ds f w) : OkI P ro n .skip Q ds f w := ⟨fun tm ha => wpIn_skip ⟨f, ha, h⟩⟩
theorem ci_label {l : Nat} (h : Q .normal ds f w) : OkI P ro n (.label l) Q ds f w := ⟨fun tm ha => wpIn_label ⟨f, ha, h⟩⟩
theorem ci_exit {id : Nat} (h : Q (.exit id) ds f w) : OkI P ro n (.exit id) Q ds f w := ⟨fun tm ha => wpIn_exit ⟨f, ha, h⟩⟩
theorem ci_ret (h : Q .ret ds f w) : OkI P ro n .ret Q ds f w := ⟨fun tm ha => wpIn_ret ⟨f, ha, h⟩⟩
theorem ci_seq {x y : Code} (h : OkI P ro n x (thenI (fun ds f w => OkI P ro n y Q ds f w) Q) ds f w) : OkI P ro n (.seq x y) Q ds f w :=
  ⟨fun tm ha => wpIn_seq (wpIn_mono (h.out tm ha) (by
    rintro e a w ⟨f', hr, hq⟩
    cases e with
    | normal => exact OkI.out hq _ hr
    | _ => exact ⟨f', hr, hq⟩))⟩
theorem ci_block {id : Nat} {c : Code} (h : OkI P ro n c (blockI id Q) ds f w) : OkI P ro n (.block id c) Q ds f w :=
  ⟨fun tm ha => wpIn_block (wpIn_mono (h.out tm ha) (by
    rintro e a w ⟨f', hr, hq⟩
    cases e with
    | exit i =>
      simp only [blockI] at hq
      simp only [Exit.inBlock]
      by_cases hi : i = id
      · subst hi; rw [if_pos rfl]; exact ⟨f', hr, by simpa using hq⟩
      · rw [if_neg hi]
        exact ⟨f', hr, by simpa [beq_no hi] using hq⟩
    | _ => exact ⟨f', hr, hq⟩))⟩
theorem evalD {tm : Array Value} (ha : Rep n ⟨tm, []⟩ f) (ds : List Deferred) : (⟨tm, ds⟩ : Act).eval = ev f := by
  rw [← ha.eval]; exact more_eval ⟨tm, []⟩ ds
theorem ci_cond {c : Operand} {x y : Code} {t : Bool} (hc : ev f c = .bool t) (ht : t = true → OkI P ro n x Q ds f w) (hf : t = false → OkI P ro n y Q ds f w) : OkI P ro n (.cond c x y) Q ds f w :=
  ⟨fun tm ha => wpIn_cond_split (t := t) (by rw [evalD ha]; exact hc) (fun h => (ht h).out tm ha) (fun h => (hf h).out tm ha)⟩
theorem ci_true {c : Operand} {x y : Code} {t : Bool} (hc : ev f c = .bool t) (h : t = true) (ht : OkI P ro n x Q ds f w) : OkI P ro n (.cond c x y) Q ds f w :=
  ci_cond hc (fun _ => ht) (fun h' => by rw [h] at h'; cases h')
theorem ci_false {c : Operand} {x y : Code} {t : Bool} (hc : ev f c = .bool t) (h : t = false) (hf : OkI P ro n y Q ds f w) : OkI P ro n (.cond c x y) Q ds f w :=
  ci_cond hc (fun h' => by rw [h] at h'; cases h') (fun _ => hf)
/-! regions -/
theorem no_out {K : Env → World → Prop} : ¬ LetsOut (lift n (nrmE K)) := fun ⟨a, w, f, _, h⟩ => h
theorem lift_more {a : Act} {e : Exit} {K : Env → World → Prop} (hK : ∀ f w, K f w → Q .normal ds f w) (h : lift n (nrmE K) e a w) : liftD n Q e (Act.more a ds) w := by
  obtain ⟨f, hr, hq⟩ := h
  have hd := hr.dfr
  cases e with
  | normal =>
    refine ⟨f, ⟨hr.size, rfl, hr.get⟩, ?_⟩
    show Q .normal (a.defers ++ ds) f w
    rw [hd]
    exact hK _ _ hq
  | _ => exact hq.elim
theorem act_more {tm : Array Value} (ds : List Deferred) : (⟨tm, ds⟩ : Act) = Act.more ⟨tm, []⟩ ds := rfl
/-- Operations without a round, walked as ever. -/
theorem il_of {ops : Array Oper} {l : List Oper} (hnd : noDefer l.toArray = true) (h : OkL P n ops (nrmE fun f w => Q .normal ds f w) l f w) : OkIL P ro n ops Q l ds f w := by
  refine ⟨fun tm ha => ?_⟩
  rw [act_more]
  refine list_in (Q := lift n (nrmE fun f w => Q .normal ds f w)) (Q' := liftD n Q) (ds := ds) (fun e a w h => lift_more (fun _ _ h => h) h) no_out l _ w (fun o ho => ?_) (h.out _ ha)
  obtain ⟨i, hi, e⟩ := List.mem_iff_getElem.1 ho
  exact noDefer_at (i := i) hnd (by simp [hi, e])
theorem ci_regionL {id : Nat} {l : List Oper} (h : OkIL P ro n l.toArray Q l ds f w) : OkI P ro n (.region id l.toArray false) Q ds f w :=
  ⟨fun tm ha => wpIn_region_lit (h.out tm ha)⟩
theorem ci_region {id : Nat} {l : List Oper} (h : OkL P n l.toArray (nrmE fun f w => Q .normal ds f w) l f w) (hnd : noDefer l.toArray = true := by kernel_rfl) : OkI P ro n (.region id l.toArray false) Q ds f w :=
  ci_regionL (il_of hnd h)
theorem ci_rseq {id : Nat} {l : List Oper} {y : Code} (h : OkL P n l.toArray (nrmE fun f w => OkI P ro n y Q ds f w) l f w) (hnd : noDefer l.toArray = true := by kernel_rfl) : OkI P ro n (.seq (.region id l.toArray false) y) Q ds f w :=
  ci_seq (ci_region (Q := thenI (fun ds f w => OkI P ro n y Q ds f w) Q) h hnd)
/-! loops -/
theorem ci_loopm {c : Code} (keep : List Nat) (I : Nat → List Deferred → Env → World → Prop) (h0 : ∃ m, I m ds f w)
    (round : ∀ m ds g w', I m ds (over keep f g) w' → OkI P ro n c (thenI (fun ds f' w'' => (∀ k ∈ keep, f' k = f k) ∧ ∃ m', m' < m ∧ I m' ds f' w'') Q) ds (over keep f g) w') : OkI P ro n (.loop c) Q ds f w := by
  obtain ⟨m0, h0⟩ := h0
  refine ⟨fun tm ha b k cs hro hb hr => ?_⟩
  have key : ∀ m ds g w', (∀ k ∈ keep, g k = f k) → I m ds g w' → ∀ (tm : Array Value), Rep n ⟨tm, []⟩ g →
      ∃ e a' w2, liftD n Q e a' w2 ∧ ArrivesIn (Machine.fenced P (FR ro)) P (lone (b.atR ⟨tm, ds⟩ (.code c :: .inLoop c :: k)) cs w') b k cs e a' w2 := by
    intro m
    induction m using Nat.strongRecOn with
    | _ m ih =>
      intro ds g w' hk hI tm ha
      have e := over_self keep f g hk
      have hrd := round m ds g w' (by rw [e]; exact hI)
      rw [e] at hrd
      obtain ⟨e1, a1, w1, hq, harr⟩ := hrd.out tm ha b (.inLoop c :: k) cs hro hb hr
      obtain ⟨f1, hr1, hq⟩ := hq
      cases e1 with
      | normal =>
        obtain ⟨hk1, m1, hlt, hI1⟩ := hq
        obtain ⟨e2, a2, w2, hq2, harr2⟩ := ih m1 hlt a1.defers f1 w1 hk1 hI1 a1.tmps hr1
        exact ⟨e2, a2, w2, hq2, .of_steps (StepsIn.trans harr (.one (fenced_calm hb hr rfl) stepR_inLoop)) harr2⟩
      | exit id => exact ⟨_, a1, w1, ⟨f1, hr1, hq⟩, .pass (x := .inLoop c) rfl (fun _ _ => .inl (by simp)) harr⟩
      | goto l => exact ⟨_, a1, w1, ⟨f1, hr1, hq⟩, .pass (x := .inLoop c) rfl (fun _ _ => .inl (by simp)) harr⟩
      | ret => exact ⟨_, a1, w1, ⟨f1, hr1, hq⟩, .pass (x := .inLoop c) rfl (fun _ _ => .inl (by simp)) harr⟩
      | panic ch => exact ⟨_, a1, w1, ⟨f1, hr1, hq⟩, .pass (x := .inLoop c) rfl (fun _ _ => .inl (by simp)) harr⟩
      | outgrown => exact ⟨_, a1, w1, ⟨f1, hr1, hq⟩, .pass (x := .inLoop c) rfl (fun _ _ => .inl (by simp)) harr⟩
  obtain ⟨e, a', w', hq, harr⟩ := key m0 ds f w (fun _ _ => rfl) h0 tm ha
  exact ⟨e, a', w', hq, .of_steps (.one (fenced_calm hb hr rfl) stepR_loop) harr⟩
theorem ci_loopn {c : Code} (keep : List Nat) (I : Nat → List Deferred → Env → World → Prop) (h0 : ∃ m, I m ds f w)
    (round : ∀ m ds g w', I m ds (over keep f g) w' → OkI P ro n c (thenI (fun ds f' w'' => Keeps keep f f' ∧ ∃ m', m' < m ∧ I m' ds f' w'') Q) ds (over keep f g) w') : OkI P ro n (.loop c) Q ds f w :=
  ci_loopm keep I h0 fun m ds g w' hI => (round m ds g w' hI).mono (by
    intro e ds f w h
    cases e with
    | normal => exact ⟨h.1.all, h.2⟩
    | _ => exact h)
/-! entering, and coming back -/
structure FinI (P : Program) (fn : Func) (R : Ending → World → Prop) (ds : List Deferred) (f : Env) (w : World) : Prop where
  mk :: (out : ∀ n tm, Rep n ⟨tm, []⟩ f → LeavesInM (FR none) 0 P fn tm R ds .returning w)
def finI (P : Program) (fn : Func) (R : Ending → World → Prop) : EPostD
  | .normal, ds, f, w | .ret, ds, f, w => FinI P fn R ds f w
  | _, _, _, _ => False
theorem enterI {k : FuncId} {fn : Func} {c : Code} {args : Array Value} {R : Ending → World → Prop} (hf : P.funcs[k]? = some fn) (hb : fn.body = some c) (hn : Nat.ble args.size fn.ntmps = true)
    (h : OkI P none fn.ntmps c (finI P fn R) [] (env0 args.toList) w) : Calls P k args w R := by
  refine (callsIn_wide (n := 0)).1 (callsIn_of_wp_marks (F := FR none) hf hb trivial (wpIn_mono (h.out _ ⟨?_, rfl, fun t => ?_⟩) ?_) rfl)
  · have : args.size ≤ fn.ntmps := by simpa using hn
    simp; omega
  · simp only [env0, Array.getD_eq_getD_getElem?, List.getD_eq_getElem?_getD, Array.getElem?_append, Array.getElem?_toList]
    split
    · rfl
    · rename_i h1
      have h3 : args[t]? = none := Array.getElem?_eq_none (by omega)
      rw [h3]
      by_cases h2 : t - args.size < fn.ntmps - args.size
      · simp [h2]
      · rw [Array.getElem?_eq_none (by rw [Array.size_replicate]; omega)]
  · rintro e a w ⟨f, hr, hq⟩
    cases e with
    | normal => exact FinI.out hq _ _ hr
    | ret => exact FinI.out hq _ _ hr
    | _ => exact (False.elim hq)
variable {fn : Func} {R : Ending → World → Prop}
theorem finI0 (h : Fin P fn R f w) : FinI P fn R [] f w := ⟨fun n tm ha => h.out n ⟨tm, []⟩ ha⟩
def markOf (D : Nat) : Deferred := { target := .collected D, args := #[] }
def dfr (D : Nat) : HP := obj D (.deferred (some []))
theorem finIs {w0 : World} {L : List HP} : ∀ (Ds : List Nat) (w : World), Sep w0 w (Ds.map dfr ++ L) → (∀ w', Sep w0 w' L → Fin P fn R f w') → FinI P fn R (Ds.map markOf) f w
  | [], w, hs, h => finI0 (h w hs)
  | D :: Ds, w, hs, h => by
    have hs : Sep w0 w (dfr D :: (Ds.map dfr ++ L)) := hs
    have hg := hs.get
    have hlt : D < w.heap.size := heap_lt hg.1
    have hs2 : Sep w0 (w.putObj D (.deferred none)) (obj D (.deferred none) :: (Ds.map dfr ++ L)) := hs.setObj ⟨rfl, rfl, rfl, World.putObj_size⟩ (World.putObj_heap_same hlt) (fun k hk => World.putObj_heap_other hk)
    refine ⟨fun n tm ha => ⟨by simp, .inl ⟨D, _, rfl, run_takeDeferred hg.1, ?_⟩⟩⟩
    exact (finIs Ds _ hs2.drop h).out n tm ha
/-! the statement, in terms of what is owned -/
def YieldOk (P : Program) (l : Nat) (v : Value) (W : World) (R : Ending → World → Prop) : Prop := YieldAt Fence.wide 0 P l #[v] W R
theorem YieldOk.mono {P : Program} {l : Nat} {v : Value} {W : World} {R R' : Ending → World → Prop} (h : YieldOk P l v W R) (hr : ∀ e w', R e w' → R' e w') : YieldOk P l v W R' :=
  let ⟨fn, tm, a, b, h1, h2⟩ := h; ⟨fn, tm, a, b, h1, h2.mono hr⟩
/-- An iterator: handed yield, it hands it the values one by one, until it is told to stop. S: what the ranging frame owns ahead of each round; Sx: behind a round that stops. -/
def Iter (P : Program) (gf : FuncId) (lb : Array Value) (vs : List Value) (w0 W : World) (l : Nat) (S : Nat → List HP) (Sx : List HP) : Prop :=
  (∀ k v, vs[k]? = some v → ∀ W L, Sep w0 W (S k ++ L) → YieldOk P l v W fun e W' => (e = .returned (.bool true) ∧ Sep w0 W' (S (k + 1) ++ L)) ∨ (e = .returned (.bool false) ∧ Sep w0 W' (Sx ++ L))) →
  Calls P gf (#[.func (.yield l) #[] #[]] ++ lb) W fun e W' => (∃ v, e = .returned v) ∧ (Sep w0 W' (S vs.length) ∨ Sep w0 W' Sx)
abbrev lp (l : Nat) (r : Loop) : HP := obj l (.loop r)
theorem noQ_ {Q : EPostD} : ∀ e ds f w, (fun _ _ _ _ => False : EPostD) e ds f w → Q e ds f w := fun _ _ _ _ h => h.elim
/-- What a round's body comes to. -/
def roundI (w0 : World) (A B : List HP) : EPostD
  | .normal, _, _, w => Sep w0 w A
  | .ret, _, _, w => Sep w0 w B
  | _, _, _, _ => False
theorem perm2 {α : Type} (A L : List α) (a b : α) : ((A ++ [a, b]) ++ L).Perm (a :: b :: (A ++ L)) := by
  rw [List.append_assoc]
  exact (List.perm_middle (l₁ := A) (l₂ := b :: L) (a := a)).trans (List.Perm.cons a (List.perm_middle))
theorem perm3 {α : Type} (A L : List α) (a b : α) : (a :: b :: (A ++ L)).Perm (A ++ a :: b :: L) :=
  ((List.perm_middle (l₁ := A) (l₂ := b :: L) (a := a)).trans (List.Perm.cons a (List.perm_middle))).symm
theorem ci_range {w0 : World} {g : Operand} {p : Tmp} {assign body : Code} {gf : FuncId} {fng : Func} {cg : Code} {lb : Array Value} {vs : List Value} (S : Nat → List HP) (Sx : List HP) (q : Tmp)
    (hg : ev f g = .func (.func gf) #[] lb) (hf : P.funcs[gf]? = some fng) (hnm : (fng.name == "runtime.NumGoroutine") = false) (hbg : fng.body = some cg)
    (hs : Sep w0 w (S 0))
    (hit : ∀ W l (T : Nat → List HP) (Tx : List HP), Sep w0 W (T 0) → (∀ k, ∃ M, T k = S k ++ M) → Iter P gf lb vs w0 W l T Tx)
    (hassign : ∀ l v W, OkI P (some l) n assign (thenI (fun ds1 f1 w1 => ds1 = [] ∧ w1 = W ∧ f1 = upd (upd f p v) q v) fun _ _ _ _ => False) [] (upd f p v) W)
    (hbody : ∀ l k v, vs[k]? = some v → ∀ W L, Sep w0 W (S k ++ L) → OkI P (some l) n body (roundI w0 (S (k + 1) ++ L) (Sx ++ L)) [] (upd (upd f p v) q v) W)
    (hdone : ∀ D W, Sep w0 W (dfr D :: S vs.length) → Q .normal (markOf D :: ds) f W)
    (hstop : ∀ D W, Sep w0 W (dfr D :: Sx) → Q .ret (markOf D :: ds) f W) (hp : Nat.blt p n = true := by rfl) :
    OkI P none n (.rangeFunc g #[p] assign body) Q ds f w := by
  refine ⟨fun tm ha => wpIn_rangeFunc ?_⟩
  intro fn hfn
  have eg : ∀ args w, (callFunc gf args).run P w = .ok (.enter gf args) w := fun args w => by
    have h1 : fng.name ≠ "runtime.NumGoroutine" := by simpa using hnm
    simp [callFunc, hf, h1, hbg, mark]
  obtain ⟨rec, hrec⟩ : ∃ rec : LoopState → Option Code → Loop, rec = fun st pe => { state := st, pending := pe, fn, tmps := tm, params := #[p], assign, body, defers := w.heap.size } := ⟨_, rfl⟩
  obtain ⟨W1, hW1⟩ : ∃ W1, (w.alloc (.deferred (some []))).alloc (.loop (rec .ready none)) = W1 := ⟨_, rfl⟩
  have hs1 : Sep w0 W1 (lp (w.heap.size + 1) (rec .ready none) :: dfr w.heap.size :: S 0) := by
    have h := (hs.alloc (.deferred (some []))).alloc (.loop (rec .ready none))
    rw [World.size_alloc, hW1] at h
    exact h
  generalize hl : w.heap.size + 1 = l at hs1
  generalize hD : w.heap.size = D at hs1
  refine ⟨l, [markOf D], W1, { target := .fn (.func gf) lb, args := #[.func (.yield l) #[] #[]] }, W1, gf, #[.func (.yield l) #[] #[]] ++ lb, W1, ?_, ?_, fun _ _ => trivial, ?_, fun h => (by cases h), ?_⟩
  · rw [← hW1, hrec, ← hl, ← hD]; exact run_enterLoop_outer _ _ _ _ _
  · have hev : (⟨tm, ds⟩ : Act).eval g = .func (.func gf) #[] lb := by rw [evalD ha]; exact hg
    simp only [resolve, hev]
    simp [go_sem]
  · simp [invoke, go_sem, eg]
  · have hT0 : Sep w0 W1 (S 0 ++ [lp l (rec .ready none), dfr D]) := hs1.perm (by
      have := perm3 (S 0) [] (lp l (rec .ready none)) (dfr D)
      rw [List.append_nil] at this
      exact this)
    refine calls_in ((hit W1 l (fun k => S k ++ [lp l (rec .ready none), dfr D]) (Sx ++ [lp l (rec .done (some .ret)), dfr D]) hT0 (fun k => ⟨_, rfl⟩) ?_).mono ?_)
    · -- one round
      intro k v hv W L hsW
      have hs2 : Sep w0 W (lp l (rec .ready none) :: dfr D :: (S k ++ L)) := hsW.perm (perm2 _ _ _ _)
      have hll := hs2.get.1
      have hlt : l < W.heap.size := heap_lt hll
      have hy := run_yield (P := P) (args := #[v]) hll (by rw [hrec]; rfl)
      have etm : (((rec .ready none).params.zip #[v]).foldl (fun tmps (x : Tmp × Value) => tmps.setIfInBounds x.1 x.2) (rec .ready none).tmps) = tm.setIfInBounds p v := by
        rw [hrec]; simp
      have hrep : Rep n ⟨tm.setIfInBounds p v, []⟩ (upd f p v) := by
        have := ha.put p v (by simpa using hp)
        exact this
      refine ⟨(rec .ready none).fn, _, (rec .ready none).assign, (rec .ready none).body, hy, roundIn_of_wpIn (F := Fence.wide) trivial ?_⟩
      have e1 : (rec .ready none).assign = assign := by rw [hrec]
      have e2 : (rec .ready none).body = body := by rw [hrec]
      rw [e1, e2]
      have etm' : (((rec .ready none).params.zip #[v]).foldl (fun tmps x => match x with | (t, a) => tmps.setIfInBounds t a) (rec .ready none).tmps) = tm.setIfInBounds p v := etm
      rw [etm']
      refine wpIn_mono ((hassign l v W).out _ hrep) ?_
      rintro e a1 w1 ⟨f1, hr1, hq⟩
      cases e with
      | normal =>
        obtain ⟨hd1, rfl, rfl⟩ := hq
        have hb := run_beginRound (P := P) hll (by rw [hrec])
        have hs3 : Sep w0 (w1.putObj l (.loop { rec .ready none with state := .busy })) (lp l { rec .ready none with state := .busy } :: dfr D :: (S k ++ L)) := hs2.setObj ⟨rfl, rfl, rfl, World.putObj_size⟩ (World.putObj_heap_same hlt) (fun k hk => World.putObj_heap_other hk)
        refine ⟨_, hb, ?_⟩
        have h4 := (hbody l k v hv _ (lp l { rec .ready none with state := .busy } :: dfr D :: L) (hs3.perm (perm3 _ _ _ _))).out _ hr1
        have ea : a1 = ⟨a1.tmps, []⟩ := by cases a1; simp only at hd1; subst hd1; rfl
        rw [← ea] at h4
        refine wpIn_mono h4 ?_
        rintro e a3 w3 ⟨f3, hr3, hq3⟩
        have back : ∀ (X : List HP), Sep w0 w3 (X ++ lp l { rec .ready none with state := .busy } :: dfr D :: L) → Sep w0 w3 (lp l { rec .ready none with state := .busy } :: dfr D :: (X ++ L)) := fun X h => h.perm (perm3 _ _ _ _).symm
        have fwd : ∀ (X : List HP) (w4 : World) (r : Loop), Sep w0 w4 (lp l r :: dfr D :: (X ++ L)) → Sep w0 w4 ((X ++ [lp l r, dfr D]) ++ L) := fun X w4 r h => h.perm (perm2 _ _ _ _).symm
        cases e with
        | normal =>
          have h5 := back _ hq3
          have hl5 := h5.get.1
          have he := run_endRound (P := P) none hl5
          refine ⟨_, _, he, .inl ⟨rfl, fwd _ _ _ ?_⟩⟩
          have h6 := h5.setObj (w' := w3.putObj l (.loop (rec .ready none))) (o' := .loop (rec .ready none)) ⟨rfl, rfl, rfl, World.putObj_size⟩ (World.putObj_heap_same (heap_lt hl5)) (fun k hk => World.putObj_heap_other hk)
          rw [hrec] at h6 ⊢
          exact h6
        | ret =>
          have h5 := back _ hq3
          have hl5 := h5.get.1
          have he := run_endRound (P := P) (some .ret) hl5
          refine ⟨_, _, he, .inr ⟨rfl, fwd _ _ _ ?_⟩⟩
          have h6 := h5.setObj (w' := w3.putObj l (.loop (rec .done (some .ret)))) (o' := .loop (rec .done (some .ret))) ⟨rfl, rfl, rfl, World.putObj_size⟩ (World.putObj_heap_same (heap_lt hl5)) (fun k hk => World.putObj_heap_other hk)
          rw [hrec] at h6 ⊢
          exact h6
        | _ => exact hq3.elim
      | _ => exact hq.elim
    · -- behind the iterator
      rintro e W2 ⟨⟨v, rfl⟩, h2⟩
      have fin : ∀ (X : List HP) (r : Loop), r.state ≠ .busy → Sep w0 W2 (X ++ [lp l r, dfr D]) → ∃ W4, (Instr.endLoop l).run P W2 = .ok r.pending W4 ∧ Sep w0 W4 (dfr D :: X) := fun X r hb h => by
        have h3 : Sep w0 W2 (lp l r :: dfr D :: X) := by
          have := h.perm (M := lp l r :: dfr D :: (X ++ [])) (by have := perm2 X [] (lp l r) (dfr D); rw [List.append_nil] at this; exact this)
          rw [List.append_nil] at this
          exact this
        have hl3 := h3.get.1
        exact ⟨_, run_endLoop hl3 hb, (h3.setObj (w' := W2.putObj l (.loop { r with state := .exhausted })) (o' := .loop { r with state := .exhausted }) ⟨rfl, rfl, rfl, World.putObj_size⟩ (World.putObj_heap_same (heap_lt hl3)) (fun k hk => World.putObj_heap_other hk)).drop⟩
      rcases h2 with h2 | h2
      · obtain ⟨W4, hr, h4⟩ := fin _ _ (by rw [hrec]; simp) h2
        refine ⟨_, W4, hr, ?_⟩
        rw [hrec]
        exact ⟨f, ha, hdone D W4 h4⟩
      · obtain ⟨W4, hr, h4⟩ := fin _ _ (by rw [hrec]; simp) h2
        refine ⟨_, W4, hr, ?_⟩
        rw [hrec]
        exact wpIn_ret ⟨f, ha, hstop D W4 h4⟩
end
end Go.Proofs.YtbimboibllboeaaDoor.Eng
