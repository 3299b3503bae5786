/- Regions that draw their order, once more: calls whose answer is the same in every world of the class ('quasi') may be done at any time too; one that makes memory keeps its place only against others that do, and against such calls behind it. -/
import Derived.Test.YtiipibmliffghaaMore
namespace Go.Proofs.Ytiipibmliffghaa.Eng
open Go Go.RowKit
set_option linter.unusedVariables false
set_option linter.unusedSimpArgs false
section
variable {P : Program} {ops : Array Oper} {C : World → Prop} {w : World} {a : Act}
abbrev Ext (w w' : World) : Prop := Below w.heap.size w w'
theorem Ext.go {a b c : World} (h : Ext a b) (k : Ext b c) : Ext a c := h.trans (k.mono h.size)
theorem Ext.me (w : World) : Ext w w := Below.refl _ _
def Dep (P : Program) (C : World → Prop) (q : Bool) (o : Oper) (a : Act) (v : Value) : Prop :=
  if q = true then ∀ w, C w → Heavy P o a w fun v' w' => v' = v ∧ C w' ∧ Ext w w' else Light P C o a v
def stepQ (P : Program) (ops : Array Oper) (C : World → Prop) (h q : Bool) (o : Oper) (a : Act) (w : World) (K : Act → World → Prop) : Prop :=
  if Region.wanted o (yielded ops a.tmps) then
    (if h then Heavy P o a w (fun v w' => C w' ∧ K (a.put o.dst v) w') else ∃ v, Dep P C q o a v ∧ ∀ w', C w' → Ext w w' → K (a.put o.dst v) w')
  else ∀ w', C w' → Ext w w' → K (a.put o.dst undef) w'
theorem stepQ_mono {h q : Bool} {o : Oper} {K K' : Act → World → Prop} (hs : stepQ P ops C h q o a w K) (hk : ∀ a w', C w' → K a w' → K' a w') : stepQ P ops C h q o a w K' := by
  unfold stepQ at *
  split at hs
  · rename_i hw
    rw [if_pos hw]
    split at hs
    · rename_i hh; rw [if_pos hh]; exact heavyUpon_mono hs fun v w' hv => ⟨hv.1, hk _ _ hv.1 hv.2⟩
    · rename_i hh; rw [if_neg hh]; exact hs.imp fun v hv => ⟨hv.1, fun w' h1 h2 => hk _ _ h1 (hv.2 w' h1 h2)⟩
  · rename_i hw; rw [if_neg hw]; exact fun w' h1 h2 => hk _ _ h1 (hs w' h1 h2)
theorem dep_put {q : Bool} {o : Oper} {d : Option Tmp} {u v : Value} (hsel : ∀ cs b, o.op ≠ .select cs b) (hd : ∀ t, d = some t → t ∉ o.looksAt ops) : Dep P C q o (a.put d u) v ↔ Dep P C q o a v := by
  unfold Dep
  split
  · exact forall_congr' fun w => imp_congr_right fun _ => heavy_put hsel hd
  · exact light_put hsel hd
theorem stepQ_swap {hi qi hj qj : Bool} {oi oj : Oper} {K : Act → World → Prop} (hap : oi.apart ops oj = true) (hsi : ∀ cs b, oi.op ≠ .select cs b) (hsj : ∀ cs b, oj.op ≠ .select cs b) (hh : ¬ (hi = true ∧ (hj = true ∨ qj = true))) (hC : C w)
    (hK : ∀ a w w', K a w → C w' → Ext w w' → K a w')
    (H : ∀ w1, C w1 → Ext w w1 → stepQ P ops C hi qi oi a w1 (fun a' w' => ∀ w2, C w2 → Ext w' w2 → stepQ P ops C hj qj oj a' w2 K)) : stepQ P ops C hj qj oj a w (fun a' w' => ∀ w2, C w2 → Ext w' w2 → stepQ P ops C hi qi oi a' w2 K) := by
  obtain ⟨h1, h2, h3⟩ := Oper.apart_spec hap
  have wj : ∀ u, Region.wanted oj (yielded ops (a.put oi.dst u).tmps) = Region.wanted oj (yielded ops a.tmps) := fun u => wanted_put oj a oi.dst u h1
  have wi : ∀ u, Region.wanted oi (yielded ops (a.put oj.dst u).tmps) = Region.wanted oi (yielded ops a.tmps) := fun u => wanted_put oi a oj.dst u h3
  have pc : ∀ u v, (a.put oi.dst u).put oj.dst v = (a.put oj.dst v).put oi.dst u := fun u v => Act.put_comm a u v h2
  by_cases wI : Region.wanted oi (yielded ops a.tmps) = true
  · by_cases hhi : hi = true
    · subst hhi
      have hj' : hj = false := by cases hj <;> simp_all
      have qj' : qj = false := by cases qj <;> simp_all
      subst hj' qj'
      have Hi : ∀ w1, C w1 → Ext w w1 → Heavy P oi a w1 (fun v w' => C w' ∧ ∀ w2, C w2 → Ext w' w2 → stepQ P ops C false false oj (a.put oi.dst v) w2 K) := fun w1 c1 e1 => by
        have h := H w1 c1 e1
        unfold stepQ at h
        rw [if_pos wI] at h
        simp only [if_true] at h
        exact h
      by_cases wJ : Region.wanted oj (yielded ops a.tmps) = true
      · obtain ⟨v0, w0, c0, h0⟩ := heavyUpon_some (Hi w hC (Ext.me w))
        have h0 := h0 w0 c0 (Ext.me w0)
        unfold stepQ at h0
        rw [wj, if_pos wJ] at h0
        simp only [Bool.false_eq_true, if_false] at h0
        obtain ⟨u, hl, _⟩ := h0
        rw [dep_put hsj h1] at hl
        unfold stepQ
        rw [if_pos wJ]
        simp only [Bool.false_eq_true, if_false]
        refine ⟨u, hl, fun w' c' e' w2 c2 e2 => ?_⟩
        rw [wi, if_pos wI]
        simp only [if_true]
        rw [heavy_put hsi h3]
        refine heavyUpon_mono (Hi w2 c2 (e'.go e2)) fun v w3 ⟨he, hv⟩ => ⟨he, ?_⟩
        have hv := hv w3 he (Ext.me w3)
        unfold stepQ at hv
        rw [wj, if_pos wJ] at hv
        simp only [Bool.false_eq_true, if_false] at hv
        obtain ⟨u', hl', hk⟩ := hv
        rw [dep_put hsj h1] at hl'
        have hu : u = u' := light_one (by unfold Dep at hl; simpa using hl) (by unfold Dep at hl'; simpa using hl') hC
        rw [hu, ← pc]
        exact hk w3 he (Ext.me w3)
      · unfold stepQ
        rw [if_neg wJ]
        intro w' c' e' w2 c2 e2
        rw [wi, if_pos wI]
        simp only [if_true]
        rw [heavy_put hsi h3]
        refine heavyUpon_mono (Hi w2 c2 (e'.go e2)) fun v w3 ⟨he, hv⟩ => ⟨he, ?_⟩
        have hv := hv w3 he (Ext.me w3)
        unfold stepQ at hv
        rw [wj, if_neg wJ] at hv
        rw [← pc]
        exact hv w3 he (Ext.me w3)
    · have h := H w hC (Ext.me w)
      unfold stepQ at h
      rw [if_pos wI, if_neg hhi] at h
      obtain ⟨vi, di, h⟩ := h
      have h := h w hC (Ext.me w) w hC (Ext.me w)
      have fin : ∀ u w4, K ((a.put oi.dst vi).put oj.dst u) w4 → ∀ w2, C w2 → Ext w4 w2 → stepQ P ops C hi qi oi (a.put oj.dst u) w2 K := fun u w4 hk w2 c2 e2 => by
        unfold stepQ
        rw [wi, if_pos wI, if_neg hhi]
        exact ⟨vi, (dep_put hsi h3).2 di, fun w5 c5 e5 => by rw [← pc]; exact hK _ _ _ hk c5 (e2.go e5)⟩
      rw [wj] at h
      unfold stepQ
      by_cases wJ : Region.wanted oj (yielded ops a.tmps) = true
      · rw [if_pos wJ] at h ⊢
        by_cases hhj : hj = true
        · rw [if_pos hhj] at h ⊢
          rw [heavy_put hsj h1] at h
          exact heavyUpon_mono h fun u w3 ⟨he, hk⟩ => ⟨he, fin u w3 hk⟩
        · rw [if_neg hhj] at h ⊢
          obtain ⟨u, du, hk⟩ := h
          exact ⟨u, (dep_put hsj h1).1 du, fun w' c' e' => fin u w' (hk w' c' e')⟩
      · rw [if_neg wJ] at h ⊢
        exact fun w' c' e' => fin undef w' (h w' c' e')
  · have h := H w hC (Ext.me w)
    unfold stepQ at h
    rw [if_neg wI] at h
    have h := h w hC (Ext.me w) w hC (Ext.me w)
    have fin : ∀ u w4, K ((a.put oi.dst undef).put oj.dst u) w4 → ∀ w2, C w2 → Ext w4 w2 → stepQ P ops C hi qi oi (a.put oj.dst u) w2 K := fun u w4 hk w2 c2 e2 => by
      unfold stepQ
      rw [wi, if_neg wI]
      exact fun w5 c5 e5 => by rw [← pc]; exact hK _ _ _ hk c5 (e2.go e5)
    rw [wj] at h
    unfold stepQ
    by_cases wJ : Region.wanted oj (yielded ops a.tmps) = true
    · rw [if_pos wJ] at h ⊢
      by_cases hhj : hj = true
      · rw [if_pos hhj] at h ⊢
        rw [heavy_put hsj h1] at h
        exact heavyUpon_mono h fun u w3 ⟨he, hk⟩ => ⟨he, fin u w3 hk⟩
      · rw [if_neg hhj] at h ⊢
        obtain ⟨u, du, hk⟩ := h
        exact ⟨u, (dep_put hsj h1).1 du, fun w' c' e' => fin u w' (hk w' c' e')⟩
    · rw [if_neg wJ] at h ⊢
      exact fun w' c' e' => fin undef w' (h w' c' e')
def walkQ (P : Program) (ops : Array Oper) (C : World → Prop) (hv qv : Nat → Bool) (Q : Act → World → Prop) : List (Oper × Nat) → Act → World → Prop
  | [], a, w => ∀ w', C w' → Ext w w' → Q a w'
  | (o, i) :: l, a, w => ∀ w', C w' → Ext w w' → stepQ P ops C (hv i) (qv i) o a w' (walkQ P ops C hv qv Q l)
variable {hv qv : Nat → Bool} {Q : Act → World → Prop}
theorem walkQ_ext : ∀ {l : List (Oper × Nat)} {a : Act} {w w' : World}, walkQ P ops C hv qv Q l a w → C w' → Ext w w' → walkQ P ops C hv qv Q l a w'
  | [], a, w, w', h, c, e => fun w2 c2 e2 => h w2 c2 (e.go e2)
  | (o, i) :: l, a, w, w', h, c, e => fun w2 c2 e2 => h w2 c2 (e.go e2)
theorem walkQ_pull {oj : Oper} {j : Nat} {post : List (Oper × Nat)} : ∀ (pre : List (Oper × Nat)) (a : Act) (w : World), C w →
    (∀ p ∈ pre, p.1.apart ops oj = true ∧ ¬ (hv p.2 = true ∧ (hv j = true ∨ qv j = true)) ∧ (∀ cs b, p.1.op ≠ .select cs b)) → (∀ cs b, oj.op ≠ .select cs b) →
    walkQ P ops C hv qv Q (pre ++ (oj, j) :: post) a w → stepQ P ops C (hv j) (qv j) oj a w (walkQ P ops C hv qv Q (pre ++ post))
  | [], a, w, hC, _, _, h => h w hC (Ext.me w)
  | (oi, i) :: pre, a, w, hC, hp, hs, h => by
    have h1 := hp (oi, i) (List.mem_cons_self ..)
    refine stepQ_swap h1.1 h1.2.2 hs h1.2.1 hC (fun a w w' hk c e => walkQ_ext hk c e) fun w1 c1 e1 => ?_
    exact stepQ_mono (h w1 c1 e1) fun a' w' c' h' w2 c2 e2 => walkQ_pull pre a' w2 c2 (fun p hp' => hp p (List.mem_cons_of_mem _ hp')) hs (walkQ_ext h' c2 e2)
variable {Q' : Exit → Act → World → Prop}
theorem wpOp_Q {i : Nat} {o : Oper} {K K' : Act → World → Prop} {h q : Bool} (ho : ops[i]? = some o) (hC : C w) (hs : stepQ P ops C h q o a w K) (hk : ∀ a w, C w → K a w → K' a w) : wpOp P ops Q' i K' a w := by
  have heavy : ∀ {K2 : Value → World → Prop}, Heavy P o a w K2 → Region.wanted o (yielded ops a.tmps) = true → (∀ v w', K2 v w' → K' (a.put o.dst v) w') → wpOp P ops Q' i K' a w := fun hs hw hk2 => by
    unfold wpOp
    rw [ho]
    simp only
    rw [if_pos hw]
    left
    unfold Oper.wp
    unfold Heavy at hs
    generalize (execOp a.eval o).run P w = r at hs ⊢
    cases r with
    | halt h' w' => exact hs.elim
    | ok n w' =>
      cases n <;> first
        | exact hk2 _ _ hs
        | exact Calls.mono hs (by rintro e w'' ⟨v, rfl, hv⟩; exact hk2 _ _ hv)
        | exact hs.elim
  unfold stepQ at hs
  split at hs
  · rename_i hw
    split at hs
    · exact heavy hs hw fun v w' hv => hk _ _ hv.1 hv.2
    · obtain ⟨v, hd, hv⟩ := hs
      unfold Dep at hd
      split at hd
      · exact heavy (hd w hC) hw fun v' w' ⟨he, c', e'⟩ => by rw [he]; exact hk _ _ c' (hv w' c' e')
      · unfold wpOp
        rw [ho]
        simp only
        rw [if_pos hw]
        left
        unfold Oper.wp
        rcases hd w hC with hr | ⟨hr, rfl⟩
        · rw [hr]; exact hk _ _ hC (hv w hC (Ext.me w))
        · rw [hr]; exact hk _ _ hC (hv w hC (Ext.me w))
  · rename_i hw
    unfold wpOp
    rw [ho]
    simp only
    rw [if_neg hw]; exact hk _ _ hC (hs w hC (Ext.me w))
/-- No such call waits in text behind one that makes memory, unless by an edge. -/
def quasiB (ops : Array Oper) (hvl qvl : List Nat) : Bool := qvl.all fun j => hvl.all fun i => decide (j < i) || decide (i = j) || deep ops 8 j i
theorem wpAny_floatQ {hvl qvl : List Nat} {n0 : Nat} (hB : floatB ops hvl n0 = true) (hQB : quasiB ops hvl qvl = true) (tl : List (Oper × Nat)) (htl : ∀ p ∈ tl, n0 ≤ p.2) : ∀ (m : Nat) (l : List (Oper × Nat)) (listed : Array Bool) (a : Act) (w : World), l.length = m → C w → Left ops listed (l ++ tl) → (∀ p ∈ l, p.2 < n0) → Closed ops listed →
    walkQ P ops C (fun i => hvl.contains i) (fun i => qvl.contains i) (fun a w => wpList P ops Q' (tl.map (·.1)) a w) l a w → wpAny P .any ops Q' (l ++ tl).length listed a w := by
  intro m
  induction m with
  | zero =>
    intro l listed a w hm hC hl hn hc h
    obtain rfl : l = [] := List.eq_nil_of_length_eq_zero hm
    exact wpAny_tail hB tl listed a w hl htl hc (h w hC (Ext.me w))
  | succ m ih =>
    intro l listed a w hm hC hl hn hc h
    have hlen : (l ++ tl).length = (m + tl.length) + 1 := by rw [List.length_append, hm]; omega
    rw [hlen]
    refine ⟨fun h0 => ?_, fun j hj => ?_⟩
    · exfalso
      -- the first one is ready
      cases l with
      | nil => cases hm
      | cons p l =>
        have hmem := hl.mem p (by simp)
        have hfirst : p.2 ∈ Region.ready .any ops listed := by
          refine mem_ready.2 ⟨hmem.2, p.1, hmem.1, fun e he hb => ?_⟩
          have hd : direct ops p.2 e.on = true := by
            unfold direct; rw [hmem.1]; exact Array.any_eq_true'.2 ⟨e, he, by simp [hb]⟩
          have hlt := (floatB_at hB hmem.1).2.1 _ hd
          have hps : p.2 < ops.size := (Array.getElem?_eq_some_iff.1 hmem.1).1
          cases hx : listed.getD e.on true with
          | false =>
            obtain ⟨q, hq, he2⟩ := hl.all e.on (by omega) hx
            rcases List.mem_cons.1 (show q ∈ p :: (l ++ tl) from hq) with rfl | hq
            · omega
            · have := (List.pairwise_cons.1 (show (p :: (l ++ tl)).Pairwise _ from hl.ord)).1 q hq; omega
          | true =>
            have : e.on < listed.size := by rw [hc.1]; omega
            simp only [Array.getD_eq_getD_getElem?, Array.getElem?_eq_getElem this] at hx ⊢
            simpa using hx
        rw [h0] at hfirst
        cases hfirst
    · have hr := mem_ready' hj
      obtain ⟨p, hp, rfl⟩ := hl.all j hr.2.1 hr.1
      have hpm := hl.mem p hp
      have hpl : p ∈ l := by
        rcases List.mem_append.1 hp with hp' | hp'
        · exact hp'
        · exfalso
          cases l with
          | nil => cases hm
          | cons q l =>
            have hq := hl.mem q (by simp)
            have hlt := hn q (List.mem_cons_self ..)
            have h1 := (floatB_at hB hpm.1).2.2 q.2 (by have := htl p hp'; omega)
            rw [if_pos (htl p hp')] at h1
            have h2 := deep_listed hc 8 p.2 hr.2.2 h1
            rw [getD_tf hq.2] at h2
            cases h2
      obtain ⟨pre, post, rfl⟩ := List.append_of_mem hpl
      have hl' : Left ops listed (pre ++ (p.1, p.2) :: (post ++ tl)) := by simpa using hl
      have hwalk : walkQ P ops C (fun i => hvl.contains i) (fun i => qvl.contains i) (fun a w => wpList P ops Q' (tl.map (·.1)) a w) (pre ++ (p.1, p.2) :: post) a w := by simpa using h
      have hpull := walkQ_pull pre a w hC (fun q hq => ?_) (sel_no (floatB_at hB hpm.1).1) hwalk
      · refine wpOp_Q hpm.1 hC hpull fun a' w' hC' h' => ?_
        have := ih (pre ++ post) (listed.setIfInBounds p.2 true) a' w' (by simp at hm ⊢; omega) hC' (by have := Left.remove hl'; simpa using this) (fun q hq => hn q (by
          rcases List.mem_append.1 hq with h1 | h1
          · exact List.mem_append_left _ h1
          · exact List.mem_append_right _ (List.mem_cons_of_mem _ h1))) (hc.set hr.2.2 hr.2.1) h'
        have e : (pre ++ post ++ tl).length = m + tl.length := by simp at hm ⊢; omega
        rwa [e] at this
      · have hq' := hl'.mem q (List.mem_append_left _ hq)
        have hlt : q.2 < p.2 := (List.pairwise_append.1 hl'.ord).2.2 q hq (p.1, p.2) (List.mem_cons_self ..)
        have h1 := (floatB_at hB hpm.1).2.2 q.2 hlt
        rw [if_neg (by have := hn p hpl; omega)] at h1
        have hsq := sel_no (floatB_at hB hq'.1).1
        rcases h1 with h1 | ⟨oi, ho, h2, h3⟩
        · exfalso
          have := h1.elim (fun h1 => waits_listed hc 8 p.2 hr.2.2 h1) (fun h1 => waits_listed hc 64 p.2 hr.2.2 h1)
          rw [getD_tf hq'.2] at this
          cases this
        · have : oi = q.1 := Option.some.inj (ho.symm.trans hq'.1)
          subst this
          refine ⟨h2, fun ⟨h5, h6⟩ => ?_, hsq⟩
          rcases h6 with h6 | h6
          · exact h3 ⟨h5, h6⟩
          · have h7 := List.all_eq_true.1 (List.all_eq_true.1 hQB p.2 (by simpa using h6)) q.2 (by simpa using h5)
            rw [Bool.or_eq_true, Bool.or_eq_true, decide_eq_true_eq, decide_eq_true_eq] at h7
            rcases h7 with (h7 | h7) | h7
            · omega
            · omega
            · have := deep_listed hc 8 p.2 hr.2.2 h7
              rw [getD_tf hq'.2] at this
              cases this
theorem wp_region_floatQ {id : Nat} {l : List Oper} (hvl qvl : List Nat) (n0 : Nat) (hm : P.follows .mixedOrders = true) (hB : floatB l.toArray hvl n0 = true) (hQB : quasiB l.toArray hvl qvl = true) (hC : C w.drew)
    (h : walkQ P l.toArray C (fun i => hvl.contains i) (fun i => qvl.contains i) (fun a w => wpList P l.toArray Q' (l.drop n0) a w) (l.take n0).zipIdx a w.drew) : (Code.region id l.toArray true).wp P Q' a w := by
  refine wp_region_any hm ?_
  have hz : l.zipIdx = (l.take n0).zipIdx ++ (l.drop n0).zipIdx (l.take n0).length := by
    conv => lhs; rw [← List.take_append_drop n0 l]
    rw [List.zipIdx_append]; simp
  have hlen : ((l.take n0).zipIdx ++ (l.drop n0).zipIdx (l.take n0).length).length = l.toArray.size := by rw [← hz]; simp
  have := wpAny_floatQ (P := P) (C := C) (Q' := Q') hB hQB ((l.drop n0).zipIdx (l.take n0).length) (fun p hp => ?_) (l.take n0).zipIdx.length (l.take n0).zipIdx (Array.replicate l.toArray.size false) a w.drew rfl hC ?_ ?_ ?_ (by
    have e : ((l.drop n0).zipIdx (l.take n0).length).map (·.1) = l.drop n0 := by simp
    rw [e]; exact h)
  · rw [hlen] at this; exact this
  · have h1 := List.mem_zipIdx hp
    have h2 : (l.take n0).length = min n0 l.length := List.length_take
    rcases Nat.le_total n0 l.length with h3 | h3
    · omega
    · have : l.drop n0 = [] := List.drop_eq_nil_of_le h3
      rw [this] at hp; cases hp
  · rw [← hz]
    refine ⟨fun p hp => ?_, fun i hi _ => ?_, ?_⟩
    · have h1 := List.mem_zipIdx hp
      refine ⟨?_, ?_⟩
      · have h2 : l[p.2]? = some p.1 := by
          have := h1.2.2
          rw [List.getElem?_eq_getElem (by omega)]
          simp at this ⊢
          exact this.symm
        simpa using h2
      · have h2 : p.2 < l.toArray.size := by simp; omega
        simp only [Array.getD_eq_getD_getElem?, Array.getElem?_replicate]
        rw [if_pos h2]; rfl
    · have hi' : i < l.length := by simpa using hi
      exact ⟨(l[i], i), by rw [List.mem_zipIdx_iff_getElem?]; simp [hi'], rfl⟩
    · have : ∀ (l : List Oper) (k : Nat), (l.zipIdx k).Pairwise fun p q => p.2 < q.2 := by
        intro l
        induction l with
        | nil => intro k; exact .nil
        | cons o l ih => intro k; rw [List.zipIdx_cons]; exact List.pairwise_cons.2 ⟨fun p hp => by have := (List.mem_zipIdx hp).1; simp only; omega, ih _⟩
      exact this l 0
  · intro p hp
    have h1 := List.mem_zipIdx hp
    have h2 : (l.take n0).length = min n0 l.length := List.length_take
    omega
  · refine ⟨by simp, fun j hj => ?_⟩
    simp only [Array.getD_eq_getD_getElem?, Array.getElem?_replicate] at hj
    split at hj <;> simp at hj
end
section
variable {P : Program} {n : Nat} {f : Env} {W w w' : World} {Q : EPost} {K : Env → World → Prop} {ops : Array Oper} {rest l : List Oper} {op : Op} {ty : TypeId} {pos : String} {aft : Array Edge} {d k : Nat} {v : Value} {hvl qvl : List Nat}
structure OkQ (P : Program) (n : Nat) (ops : Array Oper) (hvl qvl : List Nat) (W : World) (K : Env → World → Prop) (l : List Oper) (k : Nat) (f : Env) (w : World) : Prop where
  mk :: (out : ∀ a, Rep n a f → Below W.heap.size W w → walkQ P ops (fun w => Below W.heap.size W w) (fun i => hvl.contains i) (fun i => qvl.contains i) (fun a w => ∃ f, Rep n a f ∧ K f w) (l.zipIdx k) a w)
theorem q_nil (h : ∀ w', Below W.heap.size W w' → Ext w w' → K f w') : OkQ P n ops hvl qvl W K [] k f w := ⟨fun a ha _ w' c e => ⟨f, ha, h w' c e⟩⟩
theorem q_v (hr : ∀ w', Below W.heap.size W w' → Run P (ev f) ⟨some d, op, ty, pos, aft, none⟩ w' v w') (h : OkQ P n ops hvl qvl W K rest (k + 1) (upd f d v) w) (hd : Nat.blt d n = true := by rfl) (hk : hvl.contains k = false := by rfl) (hq : qvl.contains k = false := by rfl) :
    OkQ P n ops hvl qvl W K (⟨some d, op, ty, pos, aft, none⟩ :: rest) k f w := by
  refine ⟨fun a ha hB => ?_⟩
  rw [List.zipIdx_cons]
  intro w1 c1 e1
  unfold stepQ
  rw [if_pos (wanted_none rfl _)]
  simp only [hk, hq, Bool.false_eq_true, if_false]
  refine ⟨v, ?_, fun w2 c2 e2 => walkQ_ext (h.out _ (ha.put d v (by simpa using hd)) hB) c2 (e1.go e2)⟩
  unfold Dep
  rw [if_neg (by decide)]
  intro w3 c3
  rw [ha.eval]
  exact hr w3 c3
theorem q_call {fn : FuncId} {args : Array Value} (v : Value) (hr : ∀ w', (execOp (ev f) ⟨some d, op, ty, pos, aft, none⟩).run P w' = .ok (.enter fn args) w')
    (hc : ∀ w', Below W.heap.size W w' → Calls P fn args w' fun e w'' => e = .returned v ∧ Below w'.heap.size w' w'') (h : OkQ P n ops hvl qvl W K rest (k + 1) (upd f d v) w) (hd : Nat.blt d n = true := by rfl) (hk : hvl.contains k = false := by rfl) (hq : qvl.contains k = true := by rfl) :
    OkQ P n ops hvl qvl W K (⟨some d, op, ty, pos, aft, none⟩ :: rest) k f w := by
  refine ⟨fun a ha hB => ?_⟩
  rw [List.zipIdx_cons]
  intro w1 c1 e1
  unfold stepQ
  rw [if_pos (wanted_none rfl _)]
  simp only [hk, hq, Bool.false_eq_true, if_false]
  refine ⟨v, ?_, fun w2 c2 e2 => walkQ_ext (h.out _ (ha.put d v (by simpa using hd)) hB) c2 (e1.go e2)⟩
  unfold Dep
  rw [if_pos rfl]
  intro w3 c3
  unfold Heavy
  rw [ha.eval, hr w3]
  exact Calls.mono (hc w3 c3) fun e w4 ⟨he, hb⟩ => ⟨v, he, rfl, c3.trans (hb.mono c3.size), hb⟩
theorem q_alloc {w0 : World} {t : TypeId} {z : Value} {sz by_ : Nat} {c : List Value} {L : List HP} (hs : ∀ w', Below W.heap.size W w' → Sep w0 w' L) (hi : TI P t z sz by_)
    (h : ∀ b w', Sep w0 w' (blk b c t :: L) → Sep W w' [blk b c t] → Below W.heap.size W w' → OkQ P n ops hvl qvl W K rest (k + 1) (upd f d (.pointer (some ⟨b, 0, none⟩))) w') (hc : z.cells = c.toArray := by rfl) (hd : Nat.blt d n = true := by rfl) (hk : hvl.contains k = true := by rfl) :
    OkQ P n ops hvl qvl W K (⟨some d, .alloc t, ty, pos, aft, none⟩ :: rest) k f w := by
  refine ⟨fun a ha hB => ?_⟩
  rw [List.zipIdx_cons]
  intro w1 c1 e1
  unfold stepQ Heavy
  rw [if_pos (wanted_none rfl _)]
  simp only [hk, if_true]
  rw [ha.eval]
  have hb : Ext w1 (w1.alloc (.cells c.toArray t (0, 0))) := (Below.refl _ _).alloc (Nat.le_refl _) _
  have cb := c1.trans (hb.mono c1.size)
  have hr : Run P (ev f) ⟨some d, .alloc t, ty, pos, aft, none⟩ w1 (.pointer (some ⟨w1.heap.size, 0, none⟩)) (w1.alloc (.cells c.toArray t (0, 0))) := r_alloc hi hc
  have hn := (h _ _ ((hs w1 c1).alloc _) (((Sep.init W).below_ c1).alloc _) cb).out _ (ha.put d (.pointer (some ⟨w1.heap.size, 0, none⟩)) (by simpa using hd)) cb
  rcases hr with hr | ⟨hr, hu⟩
  · rw [hr]; exact ⟨cb, hn⟩
  · rw [hr]; exact ⟨cb, by rw [← hu]; exact hn⟩
theorem q_store_whole {w0 : World} {t : TypeId} {x y : Operand} {b sz : Nat} {c vs : List Value} {T : TypeId} {z : Value} {by_ : Nat} {L : List HP} (hs : Sep w0 w (blk b c T :: L)) (hsW : Sep W w [blk b c T]) (ht : TI P t z sz by_) (hx : ev f x = .pointer (some ⟨b, 0, none⟩)) (hy : ev f y = .agg vs.toArray)
    (hn : vs.length = sz) (ho : c.length = sz) (h1 : ∀ v ∈ vs, v.oneCell' = true)
    (h : ∀ w', Sep w0 w' (blk b vs T :: L) → Below W.heap.size W w' → OkQ P n ops hvl qvl W K rest (k + 1) f w') (hk : hvl.contains k = true := by rfl) :
    OkQ P n ops hvl qvl W K (⟨none, .store t x y, ty, pos, aft, none⟩ :: rest) k f w := by
  refine ⟨fun a ha hB => ?_⟩
  rw [List.zipIdx_cons]
  intro w1 c1 e1
  unfold stepQ Heavy
  rw [if_pos (wanted_none rfl _)]
  simp only [hk, if_true]
  rw [ha.eval]
  have hs1 := hs.below_ e1
  have hsW1 := hsW.below_ e1
  have hb := (hs1.at_ 0).1
  have hr : Run P (ev f) ⟨none, .store t x y, ty, pos, aft, none⟩ w1 undef (w1.setRow b (c.take 0 ++ vs ++ c.drop (0 + sz)).toArray) := r_store_agg ht hx hy hb hn (by omega) h1
  rw [List.take_zero, List.nil_append, List.drop_eq_nil_of_le (by omega), List.append_nil] at hr
  have hs2 := hs1.setRow (l' := vs)
  have hsW2 := hsW1.setRow (l' := vs)
  have hn2 := (h _ hs2 hsW2.below).out a ha hsW2.below
  rcases hr with hr | ⟨hr, hu⟩
  · rw [hr]; exact ⟨hsW2.below, hn2⟩
  · rw [hr]; exact ⟨hsW2.below, hn2⟩
theorem c_floatQ {id : Nat} (hvl qvl : List Nat) (n0 : Nat) (hm : P.follows .mixedOrders = true) (hB : floatB l.toArray hvl n0 = true) (hQB : quasiB l.toArray hvl qvl = true)
    (h : Below w.heap.size w w.drew → OkQ P n l.toArray hvl qvl w (fun f' w' => OkL P n l.toArray Q (l.drop n0) f' w') (l.take n0) 0 f w.drew) : OkC P n (.region id l.toArray true) Q f w := by
  have hb : Below w.heap.size w w.drew := (Below.refl _ _).drew
  refine ⟨fun a ha => wp_region_floatQ (C := fun w' => Below w.heap.size w w') hvl qvl n0 hm hB hQB hb ?_⟩
  have h1 := (h hb).out a ha hb
  have mono : ∀ (l' : List (Oper × Nat)) (a : Act) (w1 : World) (Q1 Q2 : Act → World → Prop), (∀ a w, Q1 a w → Q2 a w) → walkQ P l.toArray (fun w' => Below w.heap.size w w') (fun i => hvl.contains i) (fun i => qvl.contains i) Q1 l' a w1 → walkQ P l.toArray (fun w' => Below w.heap.size w w') (fun i => hvl.contains i) (fun i => qvl.contains i) Q2 l' a w1 := by
    intro l'
    induction l' with
    | nil => intro a w1 Q1 Q2 hq h w' c e; exact hq _ _ (h w' c e)
    | cons p l' ih => intro a w1 Q1 Q2 hq h w' c e; exact stepQ_mono (h w' c e) fun a w _ h => ih a w Q1 Q2 hq h
  exact mono _ _ _ _ _ (fun a' w' ⟨f', hr, hq⟩ => hq.out a' hr) h1
end
end Go.Proofs.Ytiipibmliffghaa.Eng
