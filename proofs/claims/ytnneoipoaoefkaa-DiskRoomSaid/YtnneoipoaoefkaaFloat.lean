/- Regions that draw their order: operations that leave the world alone may be done at any time, the others keep their order. One walk of the text serves every order. -/
import Derived.Test.YtnneoipoaoefkaaStep
namespace Go.Proofs.Ytnneoipoaoefkaa.Eng
open Go Go.RowKit
set_option linter.unusedVariables false
set_option linter.unusedSimpArgs false
section
variable {P : Program} {ops : Array Oper} {C : World → Prop} {w : World} {a : Act}
/-- In every world of the class the operation leaves the world alone and yields v. -/
def Light (P : Program) (C : World → Prop) (o : Oper) (a : Act) (v : Value) : Prop := ∀ w, C w → Run P a.eval o w v w
def heavyUpon (P : Program) (K : Value → World → Prop) : Result Next → Prop
  | .ok (.value v) w' => K v w'
  | .ok .skip w' => K undef w'
  | .ok (.enter f args) w' => Calls P f args w' fun e w'' => ∃ v, e = .returned v ∧ K v w''
  | _ => False
def Heavy (P : Program) (o : Oper) (a : Act) (w : World) (K : Value → World → Prop) : Prop := heavyUpon P K ((execOp a.eval o).run P w)
def stepW (P : Program) (ops : Array Oper) (C : World → Prop) (h : Bool) (o : Oper) (a : Act) (w : World) (K : Act → World → Prop) : Prop :=
  if Region.wanted o (yielded ops a.tmps) then
    (if h then Heavy P o a w (fun v w' => C w' ∧ K (a.put o.dst v) w') else ∃ v, Light P C o a v ∧ K (a.put o.dst v) w)
  else K (a.put o.dst undef) w
theorem heavyUpon_mono {K K' : Value → World → Prop} {r : Result Next} (h : heavyUpon P K r) (hk : ∀ v w, K v w → K' v w) : heavyUpon P K' r := by
  cases r with
  | halt h' w' => exact h
  | ok n w' =>
    cases n <;> first | exact hk _ _ h | exact Calls.mono h (fun e w'' ⟨v, he, hv⟩ => ⟨v, he, hk _ _ hv⟩) | exact h
theorem heavyUpon_some {K : Value → World → Prop} {r : Result Next} (h : heavyUpon P K r) : ∃ v w', K v w' := by
  cases r with
  | halt h' w' => exact h.elim
  | ok n w' =>
    cases n <;> first
      | exact ⟨_, _, h⟩
      | (obtain ⟨e, w2, fr, ⟨v, _, hv⟩, _⟩ := h []; exact ⟨v, w2, hv⟩)
      | exact h.elim
theorem stepW_mono {h : Bool} {o : Oper} {K K' : Act → World → Prop} (hs : stepW P ops C h o a w K) (hC : C w) (hk : ∀ a w, C w → K a w → K' a w) : stepW P ops C h o a w K' := by
  unfold stepW at *
  split at hs
  · rename_i hw
    rw [if_pos hw]
    split at hs
    · rename_i hh; rw [if_pos hh]; exact heavyUpon_mono hs fun v w' hv => ⟨hv.1, hk _ _ hv.1 hv.2⟩
    · rename_i hh; rw [if_neg hh]; exact hs.imp fun v hv => ⟨hv.1, hk _ _ hC hv.2⟩
  · rename_i hw; rw [if_neg hw]; exact hk _ _ hC hs
theorem light_put {o : Oper} {d : Option Tmp} {u v : Value} (hsel : ∀ cs b, o.op ≠ .select cs b) (hd : ∀ t, d = some t → t ∉ o.looksAt ops) : Light P C o (a.put d u) v ↔ Light P C o a v := by
  unfold Light Run
  rw [execOp_put o hsel a d u hd]
theorem heavy_put {o : Oper} {d : Option Tmp} {u : Value} {K : Value → World → Prop} (hsel : ∀ cs b, o.op ≠ .select cs b) (hd : ∀ t, d = some t → t ∉ o.looksAt ops) : Heavy P o (a.put d u) w K ↔ Heavy P o a w K := by
  unfold Heavy
  rw [execOp_put o hsel a d u hd]
theorem light_one {o : Oper} {v v' : Value} (h : Light P C o a v) (h' : Light P C o a v') (hC : C w) : v = v' := by
  rcases h w hC with h1 | ⟨h1, rfl⟩ <;> rcases h' w hC with h2 | ⟨h2, rfl⟩ <;> rw [h1] at h2
  · injection h2 with h2; injection h2
  · injection h2 with h2; cases h2
  · injection h2 with h2; cases h2
/-- Two operations apart, not both heavy: the other order serves too. -/
theorem stepW_swap {hi hj : Bool} {oi oj : Oper} {K : Act → World → Prop} (hap : oi.apart ops oj = true) (hsi : ∀ cs b, oi.op ≠ .select cs b) (hsj : ∀ cs b, oj.op ≠ .select cs b) (hh : ¬ (hi = true ∧ hj = true)) (hC : C w)
    (h : stepW P ops C hi oi a w (fun a' w' => stepW P ops C hj oj a' w' K)) : stepW P ops C hj oj a w (fun a' w' => stepW P ops C hi oi a' w' K) := by
  obtain ⟨h1, h2, h3⟩ := Oper.apart_spec hap
  have wj : ∀ u, Region.wanted oj (yielded ops (a.put oi.dst u).tmps) = Region.wanted oj (yielded ops a.tmps) := fun u => wanted_put oj a oi.dst u h1
  have wi : ∀ u, Region.wanted oi (yielded ops (a.put oj.dst u).tmps) = Region.wanted oi (yielded ops a.tmps) := fun u => wanted_put oi a oj.dst u h3
  have pc : ∀ u v, (a.put oi.dst u).put oj.dst v = (a.put oj.dst v).put oi.dst u := fun u v => Act.put_comm a u v h2
  unfold stepW at h ⊢
  by_cases wI : Region.wanted oi (yielded ops a.tmps) = true
  · rw [if_pos wI] at h
    cases hi with
    | true =>
      have hj' : hj = false := by cases hj <;> simp_all
      subst hj'
      simp only [if_true] at h
      by_cases wJ : Region.wanted oj (yielded ops a.tmps) = true
      · rw [if_pos wJ]
        simp only [Bool.false_eq_true, if_false]
        obtain ⟨v0, w0, hC0, h0⟩ := heavyUpon_some h
        rw [wj, if_pos wJ] at h0
        simp only [Bool.false_eq_true, if_false] at h0
        obtain ⟨u, hl, _⟩ := h0
        rw [light_put hsj h1] at hl
        refine ⟨u, hl, ?_⟩
        rw [wi, if_pos wI]
        simp only [if_true]
        rw [heavy_put hsi h3]
        refine heavyUpon_mono h fun v w' ⟨hC', hv⟩ => ⟨hC', ?_⟩
        rw [wj, if_pos wJ] at hv
        simp only [Bool.false_eq_true, if_false] at hv
        obtain ⟨u', hl', hk⟩ := hv
        rw [light_put hsj h1] at hl'
        rw [light_one hl hl' hC, ← pc]
        exact hk
      · rw [if_neg wJ]
        dsimp only
        rw [wi, if_pos wI]
        simp only [if_true]
        rw [heavy_put hsi h3]
        refine heavyUpon_mono h fun v w' ⟨hC', hv⟩ => ⟨hC', ?_⟩
        rw [wj, if_neg wJ] at hv
        rw [← pc]
        exact hv
    | false =>
      simp only [Bool.false_eq_true, if_false] at h
      obtain ⟨v, hl, h⟩ := h
      rw [wj] at h
      by_cases wJ : Region.wanted oj (yielded ops a.tmps) = true
      · rw [if_pos wJ] at h ⊢
        cases hj with
        | true =>
          simp only [if_true] at h ⊢
          rw [heavy_put hsj h1] at h
          refine heavyUpon_mono h fun u w' ⟨hC', hu⟩ => ⟨hC', ?_⟩
          rw [wi, if_pos wI]
          simp only [Bool.false_eq_true, if_false]
          exact ⟨v, (light_put hsi h3).2 hl, by rw [← pc]; exact hu⟩
        | false =>
          simp only [Bool.false_eq_true, if_false] at h ⊢
          obtain ⟨u, hl2, hk⟩ := h
          refine ⟨u, (light_put hsj h1).1 hl2, ?_⟩
          rw [wi, if_pos wI]
          exact ⟨v, (light_put hsi h3).2 hl, by rw [← pc]; exact hk⟩
      · rw [if_neg wJ] at h ⊢
        dsimp only
        rw [wi, if_pos wI]
        simp only [Bool.false_eq_true, if_false]
        exact ⟨v, (light_put hsi h3).2 hl, by rw [← pc]; exact h⟩
  · rw [if_neg wI, wj] at h
    by_cases wJ : Region.wanted oj (yielded ops a.tmps) = true
    · rw [if_pos wJ] at h ⊢
      cases hj with
      | true =>
        simp only [if_true] at h ⊢
        rw [heavy_put hsj h1] at h
        refine heavyUpon_mono h fun u w' ⟨hC', hu⟩ => ⟨hC', ?_⟩
        rw [wi, if_neg wI, ← pc]; exact hu
      | false =>
        simp only [Bool.false_eq_true, if_false] at h ⊢
        obtain ⟨u, hl2, hk⟩ := h
        refine ⟨u, (light_put hsj h1).1 hl2, ?_⟩
        rw [wi, if_neg wI, ← pc]; exact hk
    · rw [if_neg wJ] at h ⊢
      dsimp only
      rw [wi, if_neg wI, ← pc]; exact h
def walkF (P : Program) (ops : Array Oper) (C : World → Prop) (hv : Nat → Bool) (Q : Act → World → Prop) : List (Oper × Nat) → Act → World → Prop
  | [], a, w => Q a w
  | (o, i) :: l, a, w => stepW P ops C (hv i) o a w (walkF P ops C hv Q l)
variable {hv : Nat → Bool} {Q : Act → World → Prop}
theorem walkF_pull {oj : Oper} {j : Nat} {post : List (Oper × Nat)} : ∀ (pre : List (Oper × Nat)) (a : Act) (w : World), C w →
    (∀ p ∈ pre, p.1.apart ops oj = true ∧ ¬ (hv p.2 = true ∧ hv j = true) ∧ (∀ cs b, p.1.op ≠ .select cs b)) → (∀ cs b, oj.op ≠ .select cs b) →
    walkF P ops C hv Q (pre ++ (oj, j) :: post) a w → stepW P ops C (hv j) oj a w (walkF P ops C hv Q (pre ++ post))
  | [], a, w, _, _, _, h => h
  | (oi, i) :: pre, a, w, hC, hp, hs, h => by
    have h1 := hp (oi, i) (List.mem_cons_self ..)
    refine stepW_swap h1.1 h1.2.2 hs h1.2.1 hC (stepW_mono h hC fun a' w' hC' h' => ?_)
    exact walkF_pull pre a' w' hC' (fun p hp' => hp p (List.mem_cons_of_mem _ hp')) hs h'
/-! what the region's text must fulfil -/
def direct (ops : Array Oper) (j i : Nat) : Bool := match ops[j]? with | some o => o.after.any fun e => Region.binds .any e && e.on == i | none => false
/-- Waits j for i? By an edge, or by way of the last heavy one that it waits for by an edge. -/
def waits (ops : Array Oper) (hvl : List Nat) : Nat → Nat → Nat → Bool
  | 0, j, i => direct ops j i
  | f + 1, j, i => direct ops j i || (match hvl.find? (fun d => d < j && direct ops j d) with | some d => waits ops hvl f d i | none => false)
/-- Waits j for i, by any way along the edges of at most so many steps? -/
def deep (ops : Array Oper) : Nat → Nat → Nat → Bool
  | 0, j, i => direct ops j i
  | f + 1, j, i => direct ops j i || (List.range j).any fun d => direct ops j d && deep ops f d i
def isSel : Op → Bool
  | .select .. => true
  | _ => false
/-- hvl: the heavy ones, the last one first; from place n0 on each waits for all ahead of it. -/
def floatB (ops : Array Oper) (hvl : List Nat) (n0 : Nat) : Bool :=
  (List.range ops.size).all fun j => match ops[j]? with
    | none => false
    | some oj => !isSel oj.op && (oj.after.all fun e => !Region.binds .any e || decide (e.on < j)) && (List.range j).all fun i =>
        if n0 ≤ j then deep ops 8 j i else
        waits ops hvl 8 j i || (match ops[i]? with | some oi => oi.apart ops oj && !(hvl.contains i && hvl.contains j) | none => false) || waits ops (List.range ops.size).reverse 64 j i
def Closed (ops : Array Oper) (listed : Array Bool) : Prop := listed.size = ops.size ∧ ∀ j, listed.getD j false = true → ∀ i, direct ops j i = true → listed.getD i false = true
theorem waits_listed {listed : Array Bool} (hc : Closed ops listed) {hvl : List Nat} {i : Nat} : ∀ (f j : Nat), (∀ i, direct ops j i = true → listed.getD i false = true) → waits ops hvl f j i = true → listed.getD i false = true
  | 0, j, hj, h => hj i h
  | f + 1, j, hj, h => by
    unfold waits at h
    rw [Bool.or_eq_true] at h
    rcases h with h | h
    · exact hj i h
    · split at h
      · rename_i d hd
        have h1 := List.find?_some hd
        simp only [Bool.and_eq_true, decide_eq_true_eq] at h1
        exact waits_listed hc f d (fun i' h' => hc.2 d (hj d h1.2) i' h') h
      · cases h
theorem deep_listed {listed : Array Bool} (hc : Closed ops listed) {i : Nat} : ∀ (f j : Nat), (∀ i, direct ops j i = true → listed.getD i false = true) → deep ops f j i = true → listed.getD i false = true
  | 0, j, hj, h => hj i h
  | f + 1, j, hj, h => by
    unfold deep at h
    rw [Bool.or_eq_true] at h
    rcases h with h | h
    · exact hj i h
    · obtain ⟨d, _, h2⟩ := List.any_eq_true.1 h
      rw [Bool.and_eq_true] at h2
      exact deep_listed hc f d (fun i' h' => hc.2 d (hj d h2.1) i' h') h2.2
theorem mem_ready' {listed : Array Bool} {i : Nat} (h : i ∈ Region.ready .any ops listed) : listed.getD i true = false ∧ i < ops.size ∧ ∀ d, direct ops i d = true → listed.getD d false = true := by
  obtain ⟨h1, o, ho, hall⟩ := mem_ready.1 h
  refine ⟨h1, (Array.getElem?_eq_some_iff.1 ho).1, fun d hd => ?_⟩
  unfold direct at hd
  rw [ho] at hd
  obtain ⟨e, he, hb⟩ := Array.any_eq_true'.1 hd
  simp only [Bool.and_eq_true, beq_iff_eq] at hb
  have := hall e he hb.1
  rwa [hb.2] at this
theorem Closed.set {listed : Array Bool} {i : Nat} (hc : Closed ops listed) (hi : ∀ d, direct ops i d = true → listed.getD d false = true) (hlt : i < ops.size) : Closed ops (listed.setIfInBounds i true) := by
  refine ⟨by simp [hc.1], fun j hj d hd => ?_⟩
  have gs : ∀ k, (listed.setIfInBounds i true).getD k false = if k = i then true else listed.getD k false := by
    intro k
    simp only [Array.getD_eq_getD_getElem?, Array.getElem?_setIfInBounds]
    by_cases h : i = k
    · subst h; simp [hc.1, hlt]
    · rw [if_neg h, if_neg (fun e => h e.symm)]
  rw [gs] at hj ⊢
  split
  · rfl
  · split at hj
    · rename_i h; subst h; exact hi d hd
    · exact hc.2 j hj d hd
/-- What is left, in the text's order. -/
structure Left (ops : Array Oper) (listed : Array Bool) (l : List (Oper × Nat)) : Prop where
  mem : ∀ p ∈ l, ops[p.2]? = some p.1 ∧ listed.getD p.2 true = false
  all : ∀ i, i < ops.size → listed.getD i true = false → ∃ p ∈ l, p.2 = i
  ord : l.Pairwise fun p q => p.2 < q.2
theorem getD_tf {listed : Array Bool} {i : Nat} (h : listed.getD i true = false) : listed.getD i false = false := by
  simp only [Array.getD_eq_getD_getElem?] at *
  cases hx : listed[i]? with
  | none => rfl
  | some b => rw [hx] at h; simpa using h
theorem Left.remove {listed : Array Bool} {pre post : List (Oper × Nat)} {o : Oper} {i : Nat} (h : Left ops listed (pre ++ (o, i) :: post)) : Left ops (listed.setIfInBounds i true) (pre ++ post) := by
  have hord := List.pairwise_append.1 h.ord
  have hpost := List.pairwise_cons.1 hord.2.1
  have hne : ∀ p ∈ pre ++ post, p.2 ≠ i := by
    intro p hp
    rcases List.mem_append.1 hp with hp | hp
    · have := hord.2.2 p hp (o, i) (List.mem_cons_self ..); simp only at this; omega
    · have := hpost.1 p hp; simp only at this; omega
  refine ⟨fun p hp => ?_, fun k hk hu => ?_, ?_⟩
  · have hp' : p ∈ pre ++ (o, i) :: post := by
      rcases List.mem_append.1 hp with hp | hp
      · exact List.mem_append_left _ hp
      · exact List.mem_append_right _ (List.mem_cons_of_mem _ hp)
    refine ⟨(h.mem p hp').1, ?_⟩
    have h2 := (h.mem p hp').2
    simp only [Array.getD_eq_getD_getElem?, Array.getElem?_setIfInBounds] at h2 ⊢
    rw [if_neg (fun e => hne p hp e.symm)]
    exact h2
  · have hu' : listed.getD k true = false := by
      simp only [Array.getD_eq_getD_getElem?, Array.getElem?_setIfInBounds] at hu ⊢
      split at hu
      · rename_i e
        split at hu
        · simp at hu
        · simp at hu
      · exact hu
    obtain ⟨p, hp, he⟩ := h.all k hk hu'
    have hne' : p ≠ (o, i) := by
      rintro rfl
      simp only at he
      subst he
      have hs : i < listed.size := by
        rcases Nat.lt_or_ge i listed.size with h1 | h1
        · exact h1
        · simp [Array.getElem?_eq_none h1] at hu'
      simp [hs] at hu
    rcases List.mem_append.1 hp with hp | hp
    · exact ⟨p, List.mem_append_left _ hp, he⟩
    · rcases List.mem_cons.1 hp with hp | hp
      · exact absurd hp hne'
      · exact ⟨p, List.mem_append_right _ hp, he⟩
  · exact List.pairwise_append.2 ⟨hord.1, hpost.2, fun p hp q hq => hord.2.2 p hp q (List.mem_cons_of_mem _ hq)⟩
theorem floatB_at {hvl : List Nat} {n0 j : Nat} {oj : Oper} (hB : floatB ops hvl n0 = true) (hj : ops[j]? = some oj) : isSel oj.op = false ∧ (∀ d, direct ops j d = true → d < j) ∧
    ∀ i, i < j → if n0 ≤ j then deep ops 8 j i = true else ((waits ops hvl 8 j i = true ∨ waits ops (List.range ops.size).reverse 64 j i = true) ∨ ∃ oi, ops[i]? = some oi ∧ oi.apart ops oj = true ∧ ¬ (hvl.contains i = true ∧ hvl.contains j = true)) := by
  have h := List.all_eq_true.1 hB j (List.mem_range.2 (Array.getElem?_eq_some_iff.1 hj).1)
  rw [hj] at h
  simp only [Bool.and_eq_true, Bool.not_eq_true'] at h
  obtain ⟨⟨h1, h2⟩, h3⟩ := h
  refine ⟨h1, fun d hd => ?_, fun i hi => ?_⟩
  · unfold direct at hd
    rw [hj] at hd
    obtain ⟨e, he, hb⟩ := Array.any_eq_true'.1 hd
    simp only [Bool.and_eq_true, beq_iff_eq] at hb
    have := Array.all_eq_true_iff_forall_mem.1 h2 e he
    rw [Bool.or_eq_true, Bool.not_eq_true', decide_eq_true_eq] at this
    rcases this with h' | h'
    · rw [h'] at hb; cases hb.1
    · rw [← hb.2]; exact h'
  · have h4 := List.all_eq_true.1 h3 i (List.mem_range.2 hi)
    split at h4
    · rename_i hn; rw [if_pos hn]; exact h4
    · rename_i hn
      rw [if_neg hn]
      rw [Bool.or_eq_true, Bool.or_eq_true] at h4
      rcases h4 with (h4 | h4) | h4
      · exact .inl (.inl h4)
      rotate_left
      · exact .inl (.inr h4)
      · right
        cases ho : ops[i]? with
        | none => rw [ho] at h4; cases h4
        | some oi =>
          rw [ho] at h4
          simp only [Bool.and_eq_true, Bool.not_eq_true', Bool.and_eq_false_iff] at h4
          refine ⟨oi, rfl, h4.1, fun ⟨h5, h6⟩ => ?_⟩
          rcases h4.2 with h7 | h7
          · rw [h5] at h7; cases h7
          · rw [h6] at h7; cases h7
theorem sel_no {o : Oper} (h : isSel o.op = false) : ∀ cs b, o.op ≠ .select cs b := by
  intro cs b e
  rw [e] at h
  cases h
variable {Q' : Exit → Act → World → Prop}
theorem wpOp_heavy {i : Nat} {o : Oper} {K K' : Act → World → Prop} {h : Bool} (ho : ops[i]? = some o) (hC : C w) (hs : stepW P ops C h o a w K) (hk : ∀ a w, C w → K a w → K' a w) : wpOp P ops Q' i K' a w := by
  unfold wpOp
  rw [ho]
  simp only
  unfold stepW at hs
  split at hs
  · rename_i hw
    rw [if_pos hw]
    left
    unfold Oper.wp
    split at hs
    · unfold Heavy at hs
      generalize (execOp a.eval o).run P w = r at hs ⊢
      cases r with
      | halt h' w' => exact hs.elim
      | ok n w' =>
        cases n <;> first
          | exact hk _ _ hs.1 hs.2
          | exact Calls.mono hs (by rintro e w'' ⟨v, rfl, hv⟩; exact hk _ _ hv.1 hv.2)
          | exact hs.elim
    · obtain ⟨v, hl, hv⟩ := hs
      rcases hl w hC with hr | ⟨hr, rfl⟩
      · rw [hr]; exact hk _ _ hC hv
      · rw [hr]; exact hk _ _ hC hv
  · rename_i hw; rw [if_neg hw]; exact hk _ _ hC hs
/-- The tail. -/
theorem wpAny_tail {hvl : List Nat} {n0 : Nat} (hB : floatB ops hvl n0 = true) : ∀ (l : List (Oper × Nat)) (listed : Array Bool) (a : Act) (w : World), Left ops listed l → (∀ p ∈ l, n0 ≤ p.2) → Closed ops listed →
    wpList P ops Q' (l.map (·.1)) a w → wpAny P .any ops Q' l.length listed a w
  | [], listed, a, w, hl, _, _, h => by
    refine ⟨List.eq_nil_iff_forall_not_mem.2 fun i hi => ?_, h⟩
    have := mem_ready' hi
    obtain ⟨p, hp, _⟩ := hl.all i this.2.1 this.1
    cases hp
  | (o, i) :: l, listed, a, w, hl, hn, hc, h => by
    have hmem := hl.mem (o, i) (List.mem_cons_self ..)
    have hfirst : i ∈ Region.ready .any ops listed := by
      refine mem_ready.2 ⟨hmem.2, o, hmem.1, fun e he hb => ?_⟩
      have hd : direct ops i e.on = true := by
        unfold direct; rw [hmem.1]; exact Array.any_eq_true'.2 ⟨e, he, by simp [hb]⟩
      have hlt := (floatB_at hB hmem.1).2.1 _ hd
      cases hx : listed.getD e.on true with
      | false =>
        obtain ⟨p, hp, he2⟩ := hl.all e.on (by have := (Array.getElem?_eq_some_iff.1 hmem.1).1; simp only at this; omega) hx
        rcases List.mem_cons.1 hp with rfl | hp
        · simp only at he2; omega
        · have := (List.pairwise_cons.1 hl.ord).1 p hp; simp only at this; omega
      | true =>
        have : e.on < listed.size := by rw [hc.1]; have := (Array.getElem?_eq_some_iff.1 hmem.1).1; simp only at this; omega
        simp only [Array.getD_eq_getD_getElem?, Array.getElem?_eq_getElem this] at hx ⊢
        simpa using hx
    refine ⟨fun h0 => (by rw [h0] at hfirst; cases hfirst), fun j hj => ?_⟩
    have hr := mem_ready' hj
    obtain ⟨p, hp, rfl⟩ := hl.all j hr.2.1 hr.1
    have hpi : p = (o, i) := by
      rcases List.mem_cons.1 hp with rfl | hp'
      · rfl
      · exfalso
        have hpm := hl.mem p hp
        have hlt := (List.pairwise_cons.1 hl.ord).1 p hp'
        have h1 := (floatB_at hB hpm.1).2.2 i hlt
        rw [if_pos (hn p hp)] at h1
        have h2 := deep_listed hc 8 p.2 hr.2.2 h1
        rw [getD_tf hmem.2] at h2
        cases h2
    subst hpi
    have hrem := Left.remove (pre := []) hl
    unfold wpOp
    rw [hmem.1]
    simp only
    have step : ∀ a w, wpList P ops Q' (l.map (·.1)) a w → wpAny P .any ops Q' l.length (listed.setIfInBounds i true) a w := fun a w h' =>
      wpAny_tail hB l _ a w hrem (fun p hp => hn p (List.mem_cons_of_mem _ hp)) (hc.set hr.2.2 hr.2.1) h'
    have h' : wpList P ops Q' (o :: l.map (·.1)) a w := h
    unfold wpList at h'
    split at h'
    · rename_i hw; rw [if_pos hw]; exact h'.imp (Oper.wp_mono step) id
    · rename_i hw; rw [if_neg hw]; exact step _ _ h'
theorem wpAny_float {hvl : List Nat} {n0 : Nat} (hB : floatB ops hvl n0 = true) (tl : List (Oper × Nat)) (htl : ∀ p ∈ tl, n0 ≤ p.2) : ∀ (m : Nat) (l : List (Oper × Nat)) (listed : Array Bool) (a : Act) (w : World), l.length = m → C w → Left ops listed (l ++ tl) → (∀ p ∈ l, p.2 < n0) → Closed ops listed →
    walkF P ops C (fun i => hvl.contains i) (fun a w => wpList P ops Q' (tl.map (·.1)) a w) l a w → wpAny P .any ops Q' (l ++ tl).length listed a w := by
  intro m
  induction m with
  | zero =>
    intro l listed a w hm hC hl hn hc h
    obtain rfl : l = [] := List.eq_nil_of_length_eq_zero hm
    exact wpAny_tail hB tl listed a w hl htl hc h
  | succ m ih =>
    intro l listed a w hm hC hl hn hc h
    have hlen : (l ++ tl).length = (m + tl.length) + 1 := by rw [List.length_append, hm]; omega
    rw [hlen]
    refine ⟨fun h0 => ?_, fun j hj => ?_⟩
    · exfalso
      -- the first one is ready
      cases l with
      | nil => cases hm
      | cons p l =>
        have hmem := hl.mem p (by simp)
        have hfirst : p.2 ∈ Region.ready .any ops listed := by
          refine mem_ready.2 ⟨hmem.2, p.1, hmem.1, fun e he hb => ?_⟩
          have hd : direct ops p.2 e.on = true := by
            unfold direct; rw [hmem.1]; exact Array.any_eq_true'.2 ⟨e, he, by simp [hb]⟩
          have hlt := (floatB_at hB hmem.1).2.1 _ hd
          have hps : p.2 < ops.size := (Array.getElem?_eq_some_iff.1 hmem.1).1
          cases hx : listed.getD e.on true with
          | false =>
            obtain ⟨q, hq, he2⟩ := hl.all e.on (by omega) hx
            rcases List.mem_cons.1 (show q ∈ p :: (l ++ tl) from hq) with rfl | hq
            · omega
            · have := (List.pairwise_cons.1 (show (p :: (l ++ tl)).Pairwise _ from hl.ord)).1 q hq; omega
          | true =>
            have : e.on < listed.size := by rw [hc.1]; omega
            simp only [Array.getD_eq_getD_getElem?, Array.getElem?_eq_getElem this] at hx ⊢
            simpa using hx
        rw [h0] at hfirst
        cases hfirst
    · have hr := mem_ready' hj
      obtain ⟨p, hp, rfl⟩ := hl.all j hr.2.1 hr.1
      have hpm := hl.mem p hp
      have hpl : p ∈ l := by
        rcases List.mem_append.1 hp with hp' | hp'
        · exact hp'
        · exfalso
          cases l with
          | nil => cases hm
          | cons q l =>
            have hq := hl.mem q (by simp)
            have hlt := hn q (List.mem_cons_self ..)
            have h1 := (floatB_at hB hpm.1).2.2 q.2 (by have := htl p hp'; omega)
            rw [if_pos (htl p hp')] at h1
            have h2 := deep_listed hc 8 p.2 hr.2.2 h1
            rw [getD_tf hq.2] at h2
            cases h2
      obtain ⟨pre, post, rfl⟩ := List.append_of_mem hpl
      have hl' : Left ops listed (pre ++ (p.1, p.2) :: (post ++ tl)) := by simpa using hl
      have hwalk : walkF P ops C (fun i => hvl.contains i) (fun a w => wpList P ops Q' (tl.map (·.1)) a w) (pre ++ (p.1, p.2) :: post) a w := by simpa using h
      have hpull := walkF_pull pre a w hC (fun q hq => ?_) (sel_no (floatB_at hB hpm.1).1) hwalk
      · refine wpOp_heavy hpm.1 hC hpull fun a' w' hC' h' => ?_
        have := ih (pre ++ post) (listed.setIfInBounds p.2 true) a' w' (by simp at hm ⊢; omega) hC' (by have := Left.remove hl'; simpa using this) (fun q hq => hn q (by
          rcases List.mem_append.1 hq with h1 | h1
          · exact List.mem_append_left _ h1
          · exact List.mem_append_right _ (List.mem_cons_of_mem _ h1))) (hc.set hr.2.2 hr.2.1) h'
        have e : (pre ++ post ++ tl).length = m + tl.length := by simp at hm ⊢; omega
        rwa [e] at this
      · have hq' := hl'.mem q (List.mem_append_left _ hq)
        have hlt : q.2 < p.2 := (List.pairwise_append.1 hl'.ord).2.2 q hq (p.1, p.2) (List.mem_cons_self ..)
        have h1 := (floatB_at hB hpm.1).2.2 q.2 hlt
        rw [if_neg (by have := hn p hpl; omega)] at h1
        have hsq := sel_no (floatB_at hB hq'.1).1
        rcases h1 with h1 | ⟨oi, ho, h2, h3⟩
        · exfalso
          have := h1.elim (fun h1 => waits_listed hc 8 p.2 hr.2.2 h1) (fun h1 => waits_listed hc 64 p.2 hr.2.2 h1)
          rw [getD_tf hq'.2] at this
          cases this
        · have : oi = q.1 := Option.some.inj (ho.symm.trans hq'.1)
          subst this
          exact ⟨h2, h3, hsq⟩
theorem wp_region_float {id : Nat} {l : List Oper} (hvl : List Nat) (n0 : Nat) (hm : P.follows .mixedOrders = true) (hB : floatB l.toArray hvl n0 = true) (hC : C w.drew)
    (h : walkF P l.toArray C (fun i => hvl.contains i) (fun a w => wpList P l.toArray Q' (l.drop n0) a w) (l.take n0).zipIdx a w.drew) : (Code.region id l.toArray true).wp P Q' a w := by
  refine wp_region_any hm ?_
  have hz : l.zipIdx = (l.take n0).zipIdx ++ (l.drop n0).zipIdx (l.take n0).length := by
    conv => lhs; rw [← List.take_append_drop n0 l]
    rw [List.zipIdx_append]; simp
  have hlen : ((l.take n0).zipIdx ++ (l.drop n0).zipIdx (l.take n0).length).length = l.toArray.size := by rw [← hz]; simp
  have := wpAny_float (P := P) (C := C) (Q' := Q') hB ((l.drop n0).zipIdx (l.take n0).length) (fun p hp => ?_) (l.take n0).zipIdx.length (l.take n0).zipIdx (Array.replicate l.toArray.size false) a w.drew rfl hC ?_ ?_ ?_ (by
    have e : ((l.drop n0).zipIdx (l.take n0).length).map (·.1) = l.drop n0 := by simp
    rw [e]; exact h)
  · rw [hlen] at this; exact this
  · have h1 := List.mem_zipIdx hp
    have h2 : (l.take n0).length = min n0 l.length := List.length_take
    rcases Nat.le_total n0 l.length with h3 | h3
    · omega
    · have : l.drop n0 = [] := List.drop_eq_nil_of_le h3
      rw [this] at hp; cases hp
  · rw [← hz]
    refine ⟨fun p hp => ?_, fun i hi _ => ?_, ?_⟩
    · have h1 := List.mem_zipIdx hp
      refine ⟨?_, ?_⟩
      · have h2 : l[p.2]? = some p.1 := by
          have := h1.2.2
          rw [List.getElem?_eq_getElem (by omega)]
          simp at this ⊢
          exact this.symm
        simpa using h2
      · have h2 : p.2 < l.toArray.size := by simp; omega
        simp only [Array.getD_eq_getD_getElem?, Array.getElem?_replicate]
        rw [if_pos h2]; rfl
    · have hi' : i < l.length := by simpa using hi
      exact ⟨(l[i], i), by rw [List.mem_zipIdx_iff_getElem?]; simp [hi'], rfl⟩
    · have : ∀ (l : List Oper) (k : Nat), (l.zipIdx k).Pairwise fun p q => p.2 < q.2 := by
        intro l
        induction l with
        | nil => intro k; exact .nil
        | cons o l ih => intro k; rw [List.zipIdx_cons]; exact List.pairwise_cons.2 ⟨fun p hp => by have := (List.mem_zipIdx hp).1; simp only; omega, ih _⟩
      exact this l 0
  · intro p hp
    have h1 := List.mem_zipIdx hp
    have h2 : (l.take n0).length = min n0 l.length := List.length_take
    omega
  · refine ⟨by simp, fun j hj => ?_⟩
    simp only [Array.getD_eq_getD_getElem?, Array.getElem?_replicate] at hj
    split at hj <;> simp at hj
end
/-! the same, frames as functions; the class: what lies below a world is as it was -/
section
variable {P : Program} {n : Nat} {f : Env} {W w w' : World} {Q : EPost} {K : Env → World → Prop} {ops : Array Oper} {rest l : List Oper} {op : Op} {ty : TypeId} {pos : String} {aft : Array Edge} {d k : Nat} {v : Value} {hvl : List Nat}
structure OkF (P : Program) (n : Nat) (ops : Array Oper) (hvl : List Nat) (W : World) (K : Env → World → Prop) (l : List Oper) (k : Nat) (f : Env) (w : World) : Prop where
  mk :: (out : ∀ a, Rep n a f → Below W.heap.size W w → walkF P ops (fun w => Below W.heap.size W w) (fun i => hvl.contains i) (fun a w => ∃ f, Rep n a f ∧ K f w) (l.zipIdx k) a w)
theorem f_nil (h : K f w) : OkF P n ops hvl W K [] k f w := ⟨fun a ha _ => ⟨f, ha, h⟩⟩
theorem f_light {o : Oper} (hw : ∀ a, Rep n a f → Region.wanted o (yielded ops a.tmps) = true) (hk : hvl.contains k = false) (hr : ∀ w', Below W.heap.size W w' → Run P (ev f) o w' v w')
    (h : ∀ a, Rep n a f → Rep n (a.put o.dst v) f ∨ True → ∀ a', a' = a.put o.dst v → Below W.heap.size W w → walkF P ops (fun w => Below W.heap.size W w) (fun i => hvl.contains i) (fun a w => ∃ f, Rep n a f ∧ K f w) (rest.zipIdx (k + 1)) a' w) : OkF P n ops hvl W K (o :: rest) k f w := by
  refine ⟨fun a ha hB => ?_⟩
  rw [List.zipIdx_cons]
  unfold walkF stepW
  rw [if_pos (hw a ha)]
  simp only [hk, Bool.false_eq_true, if_false]
  refine ⟨v, fun w' hC => ?_, h a ha (.inr trivial) _ rfl hB⟩
  rw [ha.eval]
  exact hr w' hC
theorem f_v (hr : ∀ w', Below W.heap.size W w' → Run P (ev f) ⟨some d, op, ty, pos, aft, none⟩ w' v w') (h : OkF P n ops hvl W K rest (k + 1) (upd f d v) w) (hd : Nat.blt d n = true := by rfl) (hk : hvl.contains k = false := by rfl) :
    OkF P n ops hvl W K (⟨some d, op, ty, pos, aft, none⟩ :: rest) k f w :=
  f_light (fun a _ => wanted_none rfl _) hk hr fun a ha _ a' e hB => by subst e; exact h.out _ (ha.put d v (by simpa using hd)) hB
theorem f_vg {j dj : Nat} {b t : Bool} {oj : Oper} (hr : ∀ w', Below W.heap.size W w' → Run P (ev f) ⟨some d, op, ty, pos, aft, some (j, b)⟩ w' v w') (hv : f dj = .bool t) (ht : t = b) (h : OkF P n ops hvl W K rest (k + 1) (upd f d v) w)
    (hj : ops[j]? = some oj := by rfl) (hdj : oj.dst = some dj := by rfl) (hd : Nat.blt d n = true := by rfl) (hdn : Nat.blt dj n = true := by rfl) (hk : hvl.contains k = false := by rfl) : OkF P n ops hvl W K (⟨some d, op, ty, pos, aft, some (j, b)⟩ :: rest) k f w :=
  f_light (fun a ha => wanted_yes rfl hj hdj (by simpa using hdn) ha (ht ▸ hv)) hk hr fun a ha _ a' e hB => by subst e; exact h.out _ (ha.put d v (by simpa using hd)) hB
theorem f_skip {o : Oper} {j dj : Nat} {b : Bool} {oj : Oper} (hv : f dj = .bool (!b) ∨ f dj = undef)
    (h : OkF P n ops hvl W K rest (k + 1) (upd f d undef) w) (hg : o.guard = some (j, b) := by rfl) (hj : ops[j]? = some oj := by rfl) (hdj : oj.dst = some dj := by rfl) (hod : o.dst = some d := by rfl) (hd : Nat.blt d n = true := by rfl) : OkF P n ops hvl W K (o :: rest) k f w := by
  refine ⟨fun a ha hB => ?_⟩
  rw [List.zipIdx_cons]
  unfold walkF stepW
  rw [wanted_no hg hj hdj ha hv, hod]
  exact h.out _ (ha.put d undef (by simpa using hd)) hB
theorem f_no {o : Oper} {j dj : Nat} {b t : Bool} {oj : Oper} (hv : f dj = .bool t) (ht : t = !b)
    (h : OkF P n ops hvl W K rest (k + 1) (upd f d undef) w) (hg : o.guard = some (j, b) := by rfl) (hj : ops[j]? = some oj := by rfl) (hdj : oj.dst = some dj := by rfl) (hod : o.dst = some d := by rfl) (hd : Nat.blt d n = true := by rfl) : OkF P n ops hvl W K (o :: rest) k f w :=
  f_skip (.inl (ht ▸ hv)) h hg hj hdj hod hd
theorem f_hv {o : Oper} (hw : ∀ a, Rep n a f → Region.wanted o (yielded ops a.tmps) = true) (hk : hvl.contains k = true) (hod : o.dst = some d) (hd : Nat.blt d n = true)
    (hr : heavyUpon P (fun v w' => Below w.heap.size w w' ∧ OkF P n ops hvl W K rest (k + 1) (upd f d v) w') ((execOp (ev f) o).run P w)) : OkF P n ops hvl W K (o :: rest) k f w := by
  refine ⟨fun a ha hB => ?_⟩
  rw [List.zipIdx_cons]
  unfold walkF stepW Heavy
  rw [if_pos (hw a ha)]
  simp only [hk, if_true]
  rw [ha.eval, hod]
  refine heavyUpon_mono hr fun v w' ⟨h1, h2⟩ => ?_
  have hB' : Below W.heap.size W w' := hB.trans (h1.mono hB.size)
  exact ⟨hB', h2.out _ (ha.put d v (by simpa using hd)) hB'⟩
theorem f_call {fn : FuncId} {args : Array Value} (hr : (execOp (ev f) ⟨some d, op, ty, pos, aft, none⟩).run P w = .ok (.enter fn args) w)
    (hc : Calls P fn args w fun e w' => ∃ v, e = .returned v ∧ Below w.heap.size w w' ∧ OkF P n ops hvl W K rest (k + 1) (upd f d v) w') (hd : Nat.blt d n = true := by rfl) (hk : hvl.contains k = true := by rfl) : OkF P n ops hvl W K (⟨some d, op, ty, pos, aft, none⟩ :: rest) k f w :=
  f_hv (fun a _ => wanted_none rfl _) hk rfl hd (by rw [hr]; exact hc)
theorem f_callg {fn : FuncId} {args : Array Value} {j dj : Nat} {b t : Bool} {oj : Oper} (hr : (execOp (ev f) ⟨some d, op, ty, pos, aft, some (j, b)⟩).run P w = .ok (.enter fn args) w) (hv : f dj = .bool t) (ht : t = b)
    (hc : Calls P fn args w fun e w' => ∃ v, e = .returned v ∧ Below w.heap.size w w' ∧ OkF P n ops hvl W K rest (k + 1) (upd f d v) w')
    (hj : ops[j]? = some oj := by rfl) (hdj : oj.dst = some dj := by rfl) (hd : Nat.blt d n = true := by rfl) (hdn : Nat.blt dj n = true := by rfl) (hk : hvl.contains k = true := by rfl) : OkF P n ops hvl W K (⟨some d, op, ty, pos, aft, some (j, b)⟩ :: rest) k f w :=
  f_hv (fun a ha => wanted_yes rfl hj hdj (by simpa using hdn) ha (ht ▸ hv)) hk rfl hd (by rw [hr]; exact hc)
/-- An operation that makes memory. -/
theorem f_new (hr : Run P (ev f) ⟨some d, op, ty, pos, aft, none⟩ w v w') (hb : Below w.heap.size w w') (h : OkF P n ops hvl W K rest (k + 1) (upd f d v) w') (hd : Nat.blt d n = true := by rfl) (hk : hvl.contains k = true := by rfl) :
    OkF P n ops hvl W K (⟨some d, op, ty, pos, aft, none⟩ :: rest) k f w :=
  f_hv (fun a _ => wanted_none rfl _) hk rfl hd (by rcases hr with hr | ⟨hr, rfl⟩ <;> (rw [hr]; exact ⟨hb, h⟩))
theorem f_newg {j dj : Nat} {b t : Bool} {oj : Oper} (hr : Run P (ev f) ⟨some d, op, ty, pos, aft, some (j, b)⟩ w v w') (hb : Below w.heap.size w w') (hv : f dj = .bool t) (ht : t = b) (h : OkF P n ops hvl W K rest (k + 1) (upd f d v) w')
    (hj : ops[j]? = some oj := by rfl) (hdj : oj.dst = some dj := by rfl) (hd : Nat.blt d n = true := by rfl) (hdn : Nat.blt dj n = true := by rfl) (hk : hvl.contains k = true := by rfl) :
    OkF P n ops hvl W K (⟨some d, op, ty, pos, aft, some (j, b)⟩ :: rest) k f w :=
  f_hv (fun a ha => wanted_yes rfl hj hdj (by simpa using hdn) ha (ht ▸ hv)) hk rfl hd (by rcases hr with hr | ⟨hr, rfl⟩ <;> (rw [hr]; exact ⟨hb, h⟩))
/-- A slice literal among what floats. -/
theorem f_lit1 {w0 : World} {t e : TypeId} {z : Value} {by_ len : Nat} {L : List HP} {parts : Array (Nat × Operand)} (vs : List Value) (hs : Sep w0 w L) (ht : P.underlying t = some (.slice e)) (hi : TI P e z 1 by_)
    (hp : (parts.toList.map fun (p : Nat × Operand) => (p.1, ev f p.2)) = (vs.zipIdx 0).map fun x => (x.2, x.1)) (h1 : ∀ v ∈ vs, v.oneCell' = true) (hlen : vs.length = len) (h0 : 0 < len) (hsm : len ≤ 16777216)
    (h : ∀ b w', Sep w0 w' (blk b vs e :: L) → Below w.heap.size w w' → w.heap.size ≤ b → OkF P n ops hvl W K rest (k + 1) (upd f d (.slice (some ⟨b, 0, none⟩) len len)) w') (hd : Nat.blt d n = true := by rfl) (hk : hvl.contains k = true := by rfl) :
    OkF P n ops hvl W K (⟨some d, .buildSlice t len parts, ty, pos, aft, none⟩ :: rest) k f w := by
  obtain ⟨b, w', hr, h1, h2, h3⟩ := run_lit1 (P := P) (f := f) (ty := ty) (pos := pos) (aft := aft) (dst := some d) (g := none) vs hs ht hi hp h1 hlen h0 hsm
  exact f_new hr h2 (h b w' h1 h2 h3) hd hk
theorem f_lit1g {j dj : Nat} {bb tt : Bool} {oj : Oper} {w0 : World} {t e : TypeId} {z : Value} {by_ len : Nat} {L : List HP} {parts : Array (Nat × Operand)} (vs : List Value) (hs : Sep w0 w L) (ht : P.underlying t = some (.slice e)) (hi : TI P e z 1 by_)
    (hp : (parts.toList.map fun (p : Nat × Operand) => (p.1, ev f p.2)) = (vs.zipIdx 0).map fun x => (x.2, x.1)) (h1 : ∀ v ∈ vs, v.oneCell' = true) (hlen : vs.length = len) (h0 : 0 < len) (hsm : len ≤ 16777216)
    (hv : f dj = .bool tt) (ht' : tt = bb) (h : ∀ b w', Sep w0 w' (blk b vs e :: L) → Below w.heap.size w w' → w.heap.size ≤ b → OkF P n ops hvl W K rest (k + 1) (upd f d (.slice (some ⟨b, 0, none⟩) len len)) w')
    (hj : ops[j]? = some oj := by rfl) (hdj : oj.dst = some dj := by rfl) (hd : Nat.blt d n = true := by rfl) (hdn : Nat.blt dj n = true := by rfl) (hk : hvl.contains k = true := by rfl) :
    OkF P n ops hvl W K (⟨some d, .buildSlice t len parts, ty, pos, aft, some (j, bb)⟩ :: rest) k f w := by
  obtain ⟨b, w', hr, h1, h2, h3⟩ := run_lit1 (P := P) (f := f) (ty := ty) (pos := pos) (aft := aft) (dst := some d) (g := some (j, bb)) vs hs ht hi hp h1 hlen h0 hsm
  exact f_newg hr h2 hv ht' (h b w' h1 h2 h3) hj hdj hd hdn hk
theorem c_float {id : Nat} (hvl : List Nat) (n0 : Nat) (hm : P.follows .mixedOrders = true) (hB : floatB l.toArray hvl n0 = true)
    (h : Below w.heap.size w w.drew → OkF P n l.toArray hvl w (fun f' w' => OkL P n l.toArray Q (l.drop n0) f' w') (l.take n0) 0 f w.drew) : OkC P n (.region id l.toArray true) Q f w := by
  have hb : Below w.heap.size w w.drew := (Below.refl _ _).drew
  refine ⟨fun a ha => wp_region_float (C := fun w' => Below w.heap.size w w') hvl n0 hm hB hb ?_⟩
  have h1 := (h hb).out a ha hb
  have mono : ∀ (l' : List (Oper × Nat)) (a : Act) (w1 : World) (Q1 Q2 : Act → World → Prop), Below w.heap.size w w1 → (∀ a w, Q1 a w → Q2 a w) → walkF P l.toArray (fun w' => Below w.heap.size w w') (fun i => hvl.contains i) Q1 l' a w1 → walkF P l.toArray (fun w' => Below w.heap.size w w') (fun i => hvl.contains i) Q2 l' a w1 := by
    intro l'
    induction l' with
    | nil => intro a w1 Q1 Q2 _ hq h; exact hq _ _ h
    | cons p l' ih => intro a w1 Q1 Q2 hC hq h; exact stepW_mono h hC fun a w hC' h => ih a w Q1 Q2 hC' hq h
  exact mono _ _ _ _ _ hb (fun a' w' ⟨f', hr, hq⟩ => hq.out a' hr) h1
end
end Go.Proofs.Ytnneoipoaoefkaa.Eng
