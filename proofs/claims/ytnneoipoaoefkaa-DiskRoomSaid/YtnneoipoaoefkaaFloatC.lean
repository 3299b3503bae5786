/- Regions that draw their order, a class of worlds of one's own: what floats reads cells that stay, what changes memory keeps the class. -/
import Derived.Test.YtnneoipoaoefkaaMore
namespace Go.Proofs.Ytnneoipoaoefkaa.Eng
open Go Go.RowKit Go.Great
set_option linter.unusedVariables false
set_option linter.unusedSimpArgs false
section
variable {P : Program} {ops : Array Oper} {C : World → Prop} {w : World} {a : Act} {Q' : Exit → Act → World → Prop}
/-- hvl: the heavy ones, the last one first; from place n0 on each waits for all ahead of it. -/
def floatD (ops : Array Oper) (hvl : List Nat) (n0 : Nat) : Bool :=
  (List.range ops.size).all fun j => match ops[j]? with
    | none => false
    | some oj => !isSel oj.op && (oj.after.all fun e => !Region.binds .any e || decide (e.on < j)) && (List.range j).all fun i =>
        if n0 ≤ j then deep ops 20 j i else
        waits ops hvl 8 j i || (match ops[i]? with | some oi => oi.apart ops oj && !(hvl.contains i && hvl.contains j) | none => false) || deep ops 20 j i
theorem floatD_at {hvl : List Nat} {n0 j : Nat} {oj : Oper} (hB : floatD ops hvl n0 = true) (hj : ops[j]? = some oj) : isSel oj.op = false ∧ (∀ d, direct ops j d = true → d < j) ∧
    ∀ i, i < j → if n0 ≤ j then deep ops 20 j i = true else ((waits ops hvl 8 j i = true ∨ deep ops 20 j i = true) ∨ ∃ oi, ops[i]? = some oi ∧ oi.apart ops oj = true ∧ ¬ (hvl.contains i = true ∧ hvl.contains j = true)) := by
  have h := List.all_eq_true.1 hB j (List.mem_range.2 (Array.getElem?_eq_some_iff.1 hj).1)
  rw [hj] at h
  simp only [Bool.and_eq_true, Bool.not_eq_true'] at h
  obtain ⟨⟨h1, h2⟩, h3⟩ := h
  refine ⟨h1, fun d hd => ?_, fun i hi => ?_⟩
  · unfold direct at hd
    rw [hj] at hd
    obtain ⟨e, he, hb⟩ := Array.any_eq_true'.1 hd
    simp only [Bool.and_eq_true, beq_iff_eq] at hb
    have := Array.all_eq_true_iff_forall_mem.1 h2 e he
    rw [Bool.or_eq_true, Bool.not_eq_true', decide_eq_true_eq] at this
    rcases this with h' | h'
    · rw [h'] at hb; cases hb.1
    · rw [← hb.2]; exact h'
  · have h4 := List.all_eq_true.1 h3 i (List.mem_range.2 hi)
    split at h4
    · rename_i hn; rw [if_pos hn]; exact h4
    · rename_i hn
      rw [if_neg hn]
      rw [Bool.or_eq_true, Bool.or_eq_true] at h4
      rcases h4 with (h4 | h4) | h4
      · exact .inl (.inl h4)
      rotate_left
      · exact .inl (.inr h4)
      · right
        cases ho : ops[i]? with
        | none => rw [ho] at h4; cases h4
        | some oi =>
          rw [ho] at h4
          simp only [Bool.and_eq_true, Bool.not_eq_true', Bool.and_eq_false_iff] at h4
          refine ⟨oi, rfl, h4.1, fun ⟨h5, h6⟩ => ?_⟩
          rcases h4.2 with h7 | h7
          · rw [h5] at h7; cases h7
          · rw [h6] at h7; cases h7
/-- The tail. -/
theorem wpAny_tailD {hvl : List Nat} {n0 : Nat} (hB : floatD ops hvl n0 = true) : ∀ (l : List (Oper × Nat)) (listed : Array Bool) (a : Act) (w : World), Left ops listed l → (∀ p ∈ l, n0 ≤ p.2) → Closed ops listed →
    wpList P ops Q' (l.map (·.1)) a w → wpAny P .any ops Q' l.length listed a w
  | [], listed, a, w, hl, _, _, h => by
    refine ⟨List.eq_nil_iff_forall_not_mem.2 fun i hi => ?_, h⟩
    have := mem_ready' hi
    obtain ⟨p, hp, _⟩ := hl.all i this.2.1 this.1
    cases hp
  | (o, i) :: l, listed, a, w, hl, hn, hc, h => by
    have hmem := hl.mem (o, i) (List.mem_cons_self ..)
    have hfirst : i ∈ Region.ready .any ops listed := by
      refine mem_ready.2 ⟨hmem.2, o, hmem.1, fun e he hb => ?_⟩
      have hd : direct ops i e.on = true := by
        unfold direct; rw [hmem.1]; exact Array.any_eq_true'.2 ⟨e, he, by simp [hb]⟩
      have hlt := (floatD_at hB hmem.1).2.1 _ hd
      cases hx : listed.getD e.on true with
      | false =>
        obtain ⟨p, hp, he2⟩ := hl.all e.on (by have := (Array.getElem?_eq_some_iff.1 hmem.1).1; simp only at this; omega) hx
        rcases List.mem_cons.1 hp with rfl | hp
        · simp only at he2; omega
        · have := (List.pairwise_cons.1 hl.ord).1 p hp; simp only at this; omega
      | true =>
        have : e.on < listed.size := by rw [hc.1]; have := (Array.getElem?_eq_some_iff.1 hmem.1).1; simp only at this; omega
        simp only [Array.getD_eq_getD_getElem?, Array.getElem?_eq_getElem this] at hx ⊢
        simpa using hx
    refine ⟨fun h0 => (by rw [h0] at hfirst; cases hfirst), fun j hj => ?_⟩
    have hr := mem_ready' hj
    obtain ⟨p, hp, rfl⟩ := hl.all j hr.2.1 hr.1
    have hpi : p = (o, i) := by
      rcases List.mem_cons.1 hp with rfl | hp'
      · rfl
      · exfalso
        have hpm := hl.mem p hp
        have hlt := (List.pairwise_cons.1 hl.ord).1 p hp'
        have h1 := (floatD_at hB hpm.1).2.2 i hlt
        rw [if_pos (hn p hp)] at h1
        have h2 := deep_listed hc 20 p.2 hr.2.2 h1
        rw [getD_tf hmem.2] at h2
        cases h2
    subst hpi
    have hrem := Left.remove (pre := []) hl
    unfold wpOp
    rw [hmem.1]
    simp only
    have step : ∀ a w, wpList P ops Q' (l.map (·.1)) a w → wpAny P .any ops Q' l.length (listed.setIfInBounds i true) a w := fun a w h' =>
      wpAny_tailD hB l _ a w hrem (fun p hp => hn p (List.mem_cons_of_mem _ hp)) (hc.set hr.2.2 hr.2.1) h'
    have h' : wpList P ops Q' (o :: l.map (·.1)) a w := h
    unfold wpList at h'
    split at h'
    · rename_i hw; rw [if_pos hw]; exact h'.imp (Oper.wp_mono step) id
    · rename_i hw; rw [if_neg hw]; exact step _ _ h'
theorem wpAny_floatD {hvl : List Nat} {n0 : Nat} (hB : floatD ops hvl n0 = true) (tl : List (Oper × Nat)) (htl : ∀ p ∈ tl, n0 ≤ p.2) : ∀ (m : Nat) (l : List (Oper × Nat)) (listed : Array Bool) (a : Act) (w : World), l.length = m → C w → Left ops listed (l ++ tl) → (∀ p ∈ l, p.2 < n0) → Closed ops listed →
    walkF P ops C (fun i => hvl.contains i) (fun a w => wpList P ops Q' (tl.map (·.1)) a w) l a w → wpAny P .any ops Q' (l ++ tl).length listed a w := by
  intro m
  induction m with
  | zero =>
    intro l listed a w hm hC hl hn hc h
    obtain rfl : l = [] := List.eq_nil_of_length_eq_zero hm
    exact wpAny_tailD hB tl listed a w hl htl hc h
  | succ m ih =>
    intro l listed a w hm hC hl hn hc h
    have hlen : (l ++ tl).length = (m + tl.length) + 1 := by rw [List.length_append, hm]; omega
    rw [hlen]
    refine ⟨fun h0 => ?_, fun j hj => ?_⟩
    · exfalso
      -- the first one is ready
      cases l with
      | nil => cases hm
      | cons p l =>
        have hmem := hl.mem p (by simp)
        have hfirst : p.2 ∈ Region.ready .any ops listed := by
          refine mem_ready.2 ⟨hmem.2, p.1, hmem.1, fun e he hb => ?_⟩
          have hd : direct ops p.2 e.on = true := by
            unfold direct; rw [hmem.1]; exact Array.any_eq_true'.2 ⟨e, he, by simp [hb]⟩
          have hlt := (floatD_at hB hmem.1).2.1 _ hd
          have hps : p.2 < ops.size := (Array.getElem?_eq_some_iff.1 hmem.1).1
          cases hx : listed.getD e.on true with
          | false =>
            obtain ⟨q, hq, he2⟩ := hl.all e.on (by omega) hx
            rcases List.mem_cons.1 (show q ∈ p :: (l ++ tl) from hq) with rfl | hq
            · omega
            · have := (List.pairwise_cons.1 (show (p :: (l ++ tl)).Pairwise _ from hl.ord)).1 q hq; omega
          | true =>
            have : e.on < listed.size := by rw [hc.1]; omega
            simp only [Array.getD_eq_getD_getElem?, Array.getElem?_eq_getElem this] at hx ⊢
            simpa using hx
        rw [h0] at hfirst
        cases hfirst
    · have hr := mem_ready' hj
      obtain ⟨p, hp, rfl⟩ := hl.all j hr.2.1 hr.1
      have hpm := hl.mem p hp
      have hpl : p ∈ l := by
        rcases List.mem_append.1 hp with hp' | hp'
        · exact hp'
        · exfalso
          cases l with
          | nil => cases hm
          | cons q l =>
            have hq := hl.mem q (by simp)
            have hlt := hn q (List.mem_cons_self ..)
            have h1 := (floatD_at hB hpm.1).2.2 q.2 (by have := htl p hp'; omega)
            rw [if_pos (htl p hp')] at h1
            have h2 := deep_listed hc 20 p.2 hr.2.2 h1
            rw [getD_tf hq.2] at h2
            cases h2
      obtain ⟨pre, post, rfl⟩ := List.append_of_mem hpl
      have hl' : Left ops listed (pre ++ (p.1, p.2) :: (post ++ tl)) := by simpa using hl
      have hwalk : walkF P ops C (fun i => hvl.contains i) (fun a w => wpList P ops Q' (tl.map (·.1)) a w) (pre ++ (p.1, p.2) :: post) a w := by simpa using h
      have hpull := walkF_pull pre a w hC (fun q hq => ?_) (sel_no (floatD_at hB hpm.1).1) hwalk
      · refine wpOp_heavy hpm.1 hC hpull fun a' w' hC' h' => ?_
        have := ih (pre ++ post) (listed.setIfInBounds p.2 true) a' w' (by simp at hm ⊢; omega) hC' (by have := Left.remove hl'; simpa using this) (fun q hq => hn q (by
          rcases List.mem_append.1 hq with h1 | h1
          · exact List.mem_append_left _ h1
          · exact List.mem_append_right _ (List.mem_cons_of_mem _ h1))) (hc.set hr.2.2 hr.2.1) h'
        have e : (pre ++ post ++ tl).length = m + tl.length := by simp at hm ⊢; omega
        rwa [e] at this
      · have hq' := hl'.mem q (List.mem_append_left _ hq)
        have hlt : q.2 < p.2 := (List.pairwise_append.1 hl'.ord).2.2 q hq (p.1, p.2) (List.mem_cons_self ..)
        have h1 := (floatD_at hB hpm.1).2.2 q.2 hlt
        rw [if_neg (by have := hn p hpl; omega)] at h1
        have hsq := sel_no (floatD_at hB hq'.1).1
        rcases h1 with h1 | ⟨oi, ho, h2, h3⟩
        · exfalso
          have := h1.elim (fun h1 => waits_listed hc 8 p.2 hr.2.2 h1) (fun h1 => deep_listed hc 20 p.2 hr.2.2 h1)
          rw [getD_tf hq'.2] at this
          cases this
        · have : oi = q.1 := Option.some.inj (ho.symm.trans hq'.1)
          subst this
          exact ⟨h2, h3, hsq⟩
theorem wp_region_floatD {id : Nat} {l : List Oper} (hvl : List Nat) (n0 : Nat) (hm : P.follows .mixedOrders = true) (hB : floatD l.toArray hvl n0 = true) (hC : C w.drew)
    (h : walkF P l.toArray C (fun i => hvl.contains i) (fun a w => wpList P l.toArray Q' (l.drop n0) a w) (l.take n0).zipIdx a w.drew) : (Code.region id l.toArray true).wp P Q' a w := by
  refine wp_region_any hm ?_
  have hz : l.zipIdx = (l.take n0).zipIdx ++ (l.drop n0).zipIdx (l.take n0).length := by
    conv => lhs; rw [← List.take_append_drop n0 l]
    rw [List.zipIdx_append]; simp
  have hlen : ((l.take n0).zipIdx ++ (l.drop n0).zipIdx (l.take n0).length).length = l.toArray.size := by rw [← hz]; simp
  have := wpAny_floatD (P := P) (C := C) (Q' := Q') hB ((l.drop n0).zipIdx (l.take n0).length) (fun p hp => ?_) (l.take n0).zipIdx.length (l.take n0).zipIdx (Array.replicate l.toArray.size false) a w.drew rfl hC ?_ ?_ ?_ (by
    have e : ((l.drop n0).zipIdx (l.take n0).length).map (·.1) = l.drop n0 := by simp
    rw [e]; exact h)
  · rw [hlen] at this; exact this
  · have h1 := List.mem_zipIdx hp
    have h2 : (l.take n0).length = min n0 l.length := List.length_take
    rcases Nat.le_total n0 l.length with h3 | h3
    · omega
    · have : l.drop n0 = [] := List.drop_eq_nil_of_le h3
      rw [this] at hp; cases hp
  · rw [← hz]
    refine ⟨fun p hp => ?_, fun i hi _ => ?_, ?_⟩
    · have h1 := List.mem_zipIdx hp
      refine ⟨?_, ?_⟩
      · have h2 : l[p.2]? = some p.1 := by
          have := h1.2.2
          rw [List.getElem?_eq_getElem (by omega)]
          simp at this ⊢
          exact this.symm
        simpa using h2
      · have h2 : p.2 < l.toArray.size := by simp; omega
        simp only [Array.getD_eq_getD_getElem?, Array.getElem?_replicate]
        rw [if_pos h2]; rfl
    · have hi' : i < l.length := by simpa using hi
      exact ⟨(l[i], i), by rw [List.mem_zipIdx_iff_getElem?]; simp [hi'], rfl⟩
    · have : ∀ (l : List Oper) (k : Nat), (l.zipIdx k).Pairwise fun p q => p.2 < q.2 := by
        intro l
        induction l with
        | nil => intro k; exact .nil
        | cons o l ih => intro k; rw [List.zipIdx_cons]; exact List.pairwise_cons.2 ⟨fun p hp => by have := (List.mem_zipIdx hp).1; simp only; omega, ih _⟩
      exact this l 0
  · intro p hp
    have h1 := List.mem_zipIdx hp
    have h2 : (l.take n0).length = min n0 l.length := List.length_take
    omega
  · refine ⟨by simp, fun j hj => ?_⟩
    simp only [Array.getD_eq_getD_getElem?, Array.getElem?_replicate] at hj
    split at hj <;> simp at hj
end
variable {P : Program} {n : Nat} {f : Env} {w w' : World} {Q : EPost} {C : World → Prop} {K : Env → World → Prop} {ops : Array Oper} {rest l : List Oper} {op : Op} {ty : TypeId} {pos : String} {aft : Array Edge} {d k : Nat} {v : Value} {hvl : List Nat}
structure OkG (P : Program) (n : Nat) (ops : Array Oper) (hvl : List Nat) (C : World → Prop) (K : Env → World → Prop) (l : List Oper) (k : Nat) (f : Env) (w : World) : Prop where
  mk :: (out : ∀ a, Rep n a f → walkF P ops C (fun i => hvl.contains i) (fun a w => ∃ f, Rep n a f ∧ K f w) (l.zipIdx k) a w)
theorem g_nil (h : K f w) : OkG P n ops hvl C K [] k f w := ⟨fun a ha => ⟨f, ha, h⟩⟩
theorem g_v (hr : ∀ w', C w' → Run P (ev f) ⟨some d, op, ty, pos, aft, none⟩ w' v w') (h : OkG P n ops hvl C K rest (k + 1) (upd f d v) w) (hd : Nat.blt d n = true := by rfl) (hk : hvl.contains k = false := by rfl) :
    OkG P n ops hvl C K (⟨some d, op, ty, pos, aft, none⟩ :: rest) k f w := by
  refine ⟨fun a ha => ?_⟩
  rw [List.zipIdx_cons]
  unfold walkF stepW
  rw [if_pos (wanted_none rfl _)]
  simp only [hk, Bool.false_eq_true, if_false]
  refine ⟨v, fun w' hC => ?_, h.out _ (ha.put d v (by simpa using hd))⟩
  rw [ha.eval]
  exact hr w' hC
theorem g_new (hr : Run P (ev f) ⟨some d, op, ty, pos, aft, none⟩ w v w') (hC : C w') (h : OkG P n ops hvl C K rest (k + 1) (upd f d v) w') (hd : Nat.blt d n = true := by rfl) (hk : hvl.contains k = true := by rfl) :
    OkG P n ops hvl C K (⟨some d, op, ty, pos, aft, none⟩ :: rest) k f w := by
  refine ⟨fun a ha => ?_⟩
  rw [List.zipIdx_cons]
  unfold walkF stepW Heavy
  rw [if_pos (wanted_none rfl _)]
  simp only [hk, if_true]
  rw [ha.eval]
  rcases hr with hr | ⟨hr, rfl⟩ <;> (rw [hr]; exact ⟨hC, h.out _ (ha.put d _ (by simpa using hd))⟩)
theorem g_call {fn : FuncId} {args : Array Value} (hr : (execOp (ev f) ⟨some d, op, ty, pos, aft, none⟩).run P w = .ok (.enter fn args) w)
    (hc : Calls P fn args w fun e w' => ∃ v, e = .returned v ∧ C w' ∧ OkG P n ops hvl C K rest (k + 1) (upd f d v) w') (hd : Nat.blt d n = true := by rfl) (hk : hvl.contains k = true := by rfl) :
    OkG P n ops hvl C K (⟨some d, op, ty, pos, aft, none⟩ :: rest) k f w := by
  refine ⟨fun a ha => ?_⟩
  rw [List.zipIdx_cons]
  unfold walkF stepW Heavy
  rw [if_pos (wanted_none rfl _)]
  simp only [hk, if_true]
  rw [ha.eval, hr]
  exact hc.mono fun e w' ⟨v, he, hC, h⟩ => ⟨v, he, hC, h.out _ (ha.put d v (by simpa using hd))⟩
theorem c_floatG {id : Nat} (C : World → Prop) (hvl : List Nat) (n0 : Nat) (hm : P.follows .mixedOrders = true) (hB : floatD l.toArray hvl n0 = true) (hC : C w.drew)
    (h : OkG P n l.toArray hvl C (fun f' w' => OkL P n l.toArray Q (l.drop n0) f' w') (l.take n0) 0 f w.drew) : OkC P n (.region id l.toArray true) Q f w := by
  refine ⟨fun a ha => wp_region_floatD (C := C) hvl n0 hm hB hC ?_⟩
  have h1 := h.out a ha
  have mono : ∀ (l' : List (Oper × Nat)) (a : Act) (w1 : World) (Q1 Q2 : Act → World → Prop), C w1 → (∀ a w, Q1 a w → Q2 a w) → walkF P l.toArray C (fun i => hvl.contains i) Q1 l' a w1 → walkF P l.toArray C (fun i => hvl.contains i) Q2 l' a w1 := by
    intro l'
    induction l' with
    | nil => intro a w1 Q1 Q2 _ hq h; exact hq _ _ h
    | cons p l' ih => intro a w1 Q1 Q2 hC hq h; exact stepW_mono h hC fun a w hC' h => ih a w Q1 Q2 hC' hq h
  exact mono _ _ _ _ _ hC (fun a' w' ⟨f', hr, hq⟩ => hq.out a' hr) h1
theorem g_lit1 {w0 : World} {t e : TypeId} {z : Value} {by_ len : Nat} {L : List HP} {parts : Array (Nat × Operand)} (vs : List Value) (hs : Sep w0 w L) (ht : P.underlying t = some (.slice e)) (hi : TI P e z 1 by_)
    (hp : (parts.toList.map fun (p : Nat × Operand) => (p.1, ev f p.2)) = (vs.zipIdx 0).map fun x => (x.2, x.1)) (h1 : ∀ v ∈ vs, v.oneCell' = true) (hlen : vs.length = len) (h0 : 0 < len) (hsm : len ≤ 16777216)
    (h : ∀ b w', Sep w0 w' (blk b vs e :: L) → C w' ∧ OkG P n ops hvl C K rest (k + 1) (upd f d (.slice (some ⟨b, 0, none⟩) len len)) w') (hd : Nat.blt d n = true := by rfl) (hk : hvl.contains k = true := by rfl) :
    OkG P n ops hvl C K (⟨some d, .buildSlice t len parts, ty, pos, aft, none⟩ :: rest) k f w := by
  obtain ⟨b, w', hr, h1, h2, h3⟩ := run_lit1 (P := P) (f := f) (ty := ty) (pos := pos) (aft := aft) (dst := some d) (g := none) vs hs ht hi hp h1 hlen h0 hsm
  exact g_new hr (h b w' h1).1 (h b w' h1).2 hd hk
theorem g_lit {w0 : World} {t e : TypeId} {z : Value} {sz by_ len : Nat} {L : List HP} {parts : Array (Nat × Operand)} (vs : List Value) (hs : Sep w0 w L) (ht : P.underlying t = some (.slice e)) (hi : TI P e z sz by_)
    (hp : (parts.toList.map fun (p : Nat × Operand) => (p.1, ev f p.2)) = (vs.zipIdx 0).map fun x => (x.2, x.1)) (hc : ∀ v ∈ vs, v.cells.size = sz) (hsz : 0 < sz) (hlen : vs.length = len) (h0 : 0 < len) (hsm : len * sz ≤ 16777216)
    (h : ∀ b w', Sep w0 w' (blk b (vs.flatMap fun v => v.cells.toList) e :: L) → C w' ∧ OkG P n ops hvl C K rest (k + 1) (upd f d (.slice (some ⟨b, 0, none⟩) len len)) w') (hd : Nat.blt d n = true := by rfl) (hk : hvl.contains k = true := by rfl) :
    OkG P n ops hvl C K (⟨some d, .buildSlice t len parts, ty, pos, aft, none⟩ :: rest) k f w := by
  obtain ⟨i, hi1, hi2, hi3, hi4⟩ := hi.info
  subst hi3
  have hpos : ¬ len * i.size = 0 := by
    have := Nat.mul_pos h0 hsz; omega
  have hfill := fill_whole hsz vs ((Array.range (len * i.size)).map (z.cells[· % z.cells.size]!)) hc (by simp [hlen])
  rw [← hp, show (parts.toList.map fun (p : Nat × Operand) => (p.1, ev f p.2)) = (parts.map fun (i, x) => (i, ev f x)).toList by rw [Array.toList_map]] at hfill
  have hrun := run_buildSlice (P := P) w t e len (parts.map fun (i, x) => (i, ev f x)) _ i z ht hi1 hi2 (by omega) hpos hfill
  refine g_new (v := .slice (some ⟨w.heap.size, 0, none⟩) len len) (.inl ?_) (h _ _ (hs.alloc _)).1 (h _ _ (hs.alloc _)).2 hd hk
  simp only [execOp, Sem.run_bind, hrun, Result.andThen_ok, Sem.run_pure]
theorem g_lit0 {w0 : World} {t e : TypeId} {z : Value} {sz by_ : Nat} {L : List HP} (hs : Sep w0 w L) (ht : P.underlying t = some (.slice e)) (hi : TI P e z sz by_)
    (h : ∀ b w', Sep w0 w' (blk b [] e :: L) → C w' ∧ OkG P n ops hvl C K rest (k + 1) (upd f d (.slice (some ⟨b, 0, none⟩) 0 0)) w') (hd : Nat.blt d n = true := by rfl) (hk : hvl.contains k = true := by rfl) :
    OkG P n ops hvl C K (⟨some d, .buildSlice t 0 #[], ty, pos, aft, none⟩ :: rest) k f w := by
  obtain ⟨i, hi1, hi2, hi3, hi4⟩ := hi.info
  have e0 : Array.map (fun x => (default : Value)) (Array.range 0) = #[] := by simp [Array.range]
  refine g_new (v := .slice (some ⟨w.heap.size, 0, none⟩) 0 0) (.inl ?_) (h _ _ (hs.alloc _)).1 (h _ _ (hs.alloc _)).2 hd hk
  simp [execOp, Instr.buildSlice, run_underlying ht, sizeOf, typeInfo, hi1, newRow, Instr.fill, e0]
theorem g_app {s x : Operand} {t : TypeId} {v v' : Value} {m c : Nat} {A : Option Addr} (hv : ev f s = v) (hx : ev f x = .slice A m c) (hrun : (Builtin.append_ #[t, t] ty #[v, .slice A m c]).run P w = .ok v' w') (hC : C w')
    (h : OkG P n ops hvl C K rest (k + 1) (upd f d v') w') (hd : Nat.blt d n = true := by rfl) (hk : hvl.contains k = true := by rfl) :
    OkG P n ops hvl C K (⟨some d, .call { callee := .builtin .append, args := #[s, x], argTypes := #[t, t] }, ty, pos, aft, none⟩ :: rest) k f w := by
  refine g_new (v := v') (.inl ?_) hC h hd hk
  simp only [execOp, resolve, invoke, builtin, Sem.run_bind, Sem.run_pure, Result.andThen_ok, List.map_toArray, List.map_cons, List.map_nil, hv, hx, hrun]
theorem g_append {w0 : World} {s x : Operand} {t e : TypeId} {z : Value} {sz by_ j m c : Nat} {v : Value} {xs news : List Value} {A : Option Addr} {L : List HP} (ht : P.underlying t = some (.slice e)) (hi : TI P e z sz by_) (hz : z.cells.size = sz) (hsz : 0 < sz)
    (hv : ev f s = v) (hx : ev f x = .slice A m c) (hs : Sep w0 w (RowC e sz v j xs :: L)) (hr : Rd w sz A m news) (h1 : ∀ u ∈ news, u.oneCell' = true) (hby : (j + m) * by_ ≤ 140737488355328) (h63 : j + m ≤ 9223372036854775807)
    (h : ∀ v' w', Sep w0 w' (RowC e sz v' (j + m) (xs ++ news) :: L) → C w' ∧ OkG P n ops hvl C K rest (k + 1) (upd f d v') w') (hd : Nat.blt d n = true := by rfl) (hk : hvl.contains k = true := by rfl) :
    OkG P n ops hvl C K (⟨some d, .call { callee := .builtin .append, args := #[s, x], argTypes := #[t, t] }, ty, pos, aft, none⟩ :: rest) k f w := by
  obtain ⟨v', w', hrun, hs'⟩ := append_row (P := P) (ty := ty) (c := c) ht hi hz hsz hs hr h1 h63 hby
  exact g_app hv hx hrun (h v' w' hs').1 (h v' w' hs').2 hd hk
end Go.Proofs.Ytnneoipoaoefkaa.Eng
