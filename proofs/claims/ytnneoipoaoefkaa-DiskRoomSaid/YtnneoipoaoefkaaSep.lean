/- What a call owns: heaplets, and lists of them apart from each other. -/
import Derived.Test.YtnneoipoaoefkaaOps
import Derived.Laws.Rows
import Derived.Laws.OwnMore
import Derived.Maps.AppendAt
import Derived.Deep.Draws
import Derived.Deep.MidRow
import Derived.Deep.OwnRows
import Derived.Lib.AppendStr
namespace Go.Proofs.Ytnneoipoaoefkaa.Eng
open Go Go.RowKit
set_option linter.unusedVariables false
set_option linter.unusedSimpArgs false

abbrev Hp := Nat → Option Obj
def Disj (a b : Hp) : Prop := ∀ k, a k = none ∨ b k = none
def join (a b : Hp) : Hp := fun k => match a k with | some o => some o | none => b k
abbrev HP := Hp → Prop
def stars : List HP → HP
  | [] => fun h => ∀ k, h k = none
  | A :: L => fun h => ∃ h1 h2, Disj h1 h2 ∧ h = join h1 h2 ∧ A h1 ∧ stars L h2
def single (g : Nat) (o : Obj) : Hp := fun k => if k = g then some o else none
/-- One block. -/
def obj (g : Nat) (o : Obj) : HP := fun h => h = single g o
abbrev blk (g : Nat) (l : List Value) (T : TypeId) : HP := obj g (.cells l.toArray T (0, 0))
def ex {α : Type} (F : α → HP) : HP := fun h => ∃ x, F x h
def pur (p : Prop) (A : HP) : HP := fun h => p ∧ A h
def nothing : HP := fun h => ∀ k, h k = none
theorem Disj.symm {a b : Hp} (h : Disj a b) : Disj b a := fun k => (h k).symm
theorem join_comm {a b : Hp} (h : Disj a b) : join a b = join b a := by
  funext k
  unfold join
  rcases h k with h | h
  · rw [h]; cases b k <;> rfl
  · rw [h]; cases a k <;> rfl
theorem join_assoc (a b c : Hp) : join (join a b) c = join a (join b c) := by
  funext k
  unfold join
  cases a k <;> rfl
theorem join_none {a b : Hp} {k : Nat} (h : join a b k = none) : a k = none ∧ b k = none := by
  unfold join at h
  cases ha : a k with
  | none => rw [ha] at h; exact ⟨rfl, h⟩
  | some o => rw [ha] at h; cases h
theorem disj_join {a b c : Hp} (h1 : Disj a b) (h2 : Disj a c) : Disj a (join b c) := by
  intro k
  rcases h1 k with h | h
  · exact .inl h
  · rcases h2 k with h' | h'
    · exact .inl h'
    · right; unfold join; rw [h]; exact h'
theorem disj_of_join {a b c : Hp} (h : Disj a (join b c)) : Disj a b ∧ Disj a c := by
  constructor <;> intro k <;> rcases h k with h | h
  · exact .inl h
  · exact .inr (join_none h).1
  · exact .inl h
  · exact .inr (join_none h).2
theorem join_left {a b : Hp} {k : Nat} {o : Obj} (h : a k = some o) : join a b k = some o := by unfold join; rw [h]
theorem join_right {a b : Hp} (hd : Disj a b) {k : Nat} {o : Obj} (h : b k = some o) : join a b k = some o := by rw [join_comm hd]; exact join_left h
theorem join_emp {a b : Hp} (h : ∀ k, b k = none) : join a b = a := by
  funext k
  unfold join
  cases a k with
  | none => exact h k
  | some o => rfl
theorem stars_swap {A B : HP} {L : List HP} {h : Hp} (hs : stars (A :: B :: L) h) : stars (B :: A :: L) h := by
  obtain ⟨h1, h2, hd, rfl, hA, h3, h4, hd2, rfl, hB, hL⟩ := hs
  obtain ⟨hd3, hd4⟩ := disj_of_join hd
  exact ⟨h3, join h1 h4, disj_join hd3.symm hd2, by rw [← join_assoc, join_comm hd3, join_assoc], hB, h1, h4, hd4, rfl, hA, hL⟩
theorem stars_perm {L L' : List HP} (p : L.Perm L') : ∀ {h : Hp}, stars L h → stars L' h := by
  induction p with
  | nil => exact fun h => h
  | cons A _ ih => rintro h ⟨h1, h2, hd, e, hA, hL⟩; exact ⟨h1, h2, hd, e, hA, ih hL⟩
  | swap A B L => exact fun h => stars_swap h
  | trans _ _ ih1 ih2 => exact fun h => ih2 (ih1 h)
/-- The i-th to the head. -/
def pull {α : Type} : Nat → List α → List α
  | 0, l => l
  | _ + 1, [] => []
  | i + 1, x :: l => match pull i l with
    | y :: r => y :: x :: r
    | [] => [x]
theorem pull_perm {α : Type} (i : Nat) : ∀ l : List α, l.Perm (pull i l) := by
  induction i with
  | zero => intro l; exact List.Perm.refl _
  | succ i ih =>
    intro l
    cases l with
    | nil => exact List.Perm.refl _
    | cons x l =>
      have h := ih l
      show (x :: l).Perm (match pull i l with | y :: r => y :: x :: r | [] => [x])
      cases hp : pull i l with
      | nil => rw [hp] at h; rw [List.Perm.eq_nil h]
      | cons y r => rw [hp] at h; exact (List.Perm.cons x h).trans (List.Perm.swap y x r)
/-- Behind w0 the world is w; what is listed is the call's own. -/
structure Sep (w0 w : World) (L : List HP) : Prop where
  mk :: (below : Below w0.heap.size w0 w) (own : ∃ h, stars L h ∧ ∀ k o, h k = some o → w.heap[k]? = some o ∧ w0.heap.size ≤ k)
variable {w0 w w' w1 : World} {A B : HP} {L M : List HP}
theorem Sep.init (w : World) : Sep w w [] := ⟨Below.refl _ _, fun _ => none, fun _ => rfl, fun _ _ h => by cases h⟩
theorem Sep.perm (hs : Sep w0 w L) (p : L.Perm M) : Sep w0 w M := let ⟨hb, h, hL, hk⟩ := hs; ⟨hb, h, stars_perm p hL, hk⟩
theorem Sep.pull (hs : Sep w0 w L) (i : Nat) : Sep w0 w (pull i L) := hs.perm (pull_perm i L)
theorem Sep.size (hs : Sep w0 w L) : w0.heap.size ≤ w.heap.size := hs.below.size
theorem heap_lt {g : Nat} {o : Obj} (h : w.heap[g]? = some o) : g < w.heap.size := (Array.getElem?_eq_some_iff.1 h).1
theorem Sep.drop (hs : Sep w0 w (A :: L)) : Sep w0 w L := by
  obtain ⟨hb, h, ⟨h1, h2, hd, rfl, hA, hL⟩, hk⟩ := hs
  exact ⟨hb, h2, hL, fun k o e => hk k o (join_right hd e)⟩
theorem Sep.imp (hs : Sep w0 w (A :: L)) (f : ∀ h, A h → B h) : Sep w0 w (B :: L) := by
  obtain ⟨hb, h, ⟨h1, h2, hd, rfl, hA, hL⟩, hk⟩ := hs
  exact ⟨hb, _, ⟨h1, h2, hd, rfl, f _ hA, hL⟩, hk⟩
theorem Sep.get {g : Nat} {o : Obj} (hs : Sep w0 w (obj g o :: L)) : w.heap[g]? = some o ∧ w0.heap.size ≤ g := by
  obtain ⟨hb, h, ⟨h1, h2, hd, rfl, hA, hL⟩, hk⟩ := hs
  exact hk g o (join_left (by rw [hA]; simp [single]))
theorem stars_at {L : List HP} : ∀ {i : Nat} {g : Nat} {o : Obj} {h : Hp}, L[i]? = some (obj g o) → stars L h → h g = some o := by
  induction L with
  | nil => intro i g o h hi; simp at hi
  | cons A L ih =>
    rintro i g o h hi ⟨h1, h2, hd, rfl, hA, hL⟩
    cases i with
    | zero =>
      simp only [List.getElem?_cons_zero, Option.some.injEq] at hi
      subst hi
      exact join_left (by rw [hA]; simp [single])
    | succ i => exact join_right hd (ih (by simpa using hi) hL)
theorem Sep.at_ (hs : Sep w0 w L) (i : Nat) {g : Nat} {o : Obj} (hi : L[i]? = some (obj g o) := by rfl) : w.heap[g]? = some o ∧ w0.heap.size ≤ g := by
  obtain ⟨hb, h, hL, hk⟩ := hs
  exact hk g o (stars_at hi hL)
/-- The general step: the head's heaplet becomes another one, new blocks let in; all else is as it was. -/
theorem Sep.change (hs : Sep w0 w (A :: L)) (hb' : w'.os = w.os ∧ w'.tape = w.tape ∧ w'.output = w.output ∧ w.heap.size ≤ w'.heap.size)
    (hc : ∀ h, A h → (∀ k o, h k = some o → w.heap[k]? = some o ∧ w0.heap.size ≤ k) → ∃ h', B h' ∧ (∀ k o, h' k = some o → w'.heap[k]? = some o ∧ (h k ≠ none ∨ w.heap.size ≤ k)) ∧ ∀ k, k < w.heap.size → h k = none → w'.heap[k]? = w.heap[k]?) :
    Sep w0 w' (B :: L) := by
  obtain ⟨hb, h, ⟨h1, h2, hd, rfl, hA, hL⟩, hk⟩ := hs
  have hk1 : ∀ k o, h1 k = some o → w.heap[k]? = some o ∧ w0.heap.size ≤ k := fun k o e => hk k o (join_left e)
  have hk2 : ∀ k o, h2 k = some o → w.heap[k]? = some o ∧ w0.heap.size ≤ k := fun k o e => hk k o (join_right hd e)
  obtain ⟨h', hB, hn, hf⟩ := hc h1 hA hk1
  refine ⟨hb.trans ⟨hb'.1, hb'.2.1, hb'.2.2.1, hb'.2.2.2, fun k hkl => ?_⟩, join h' h2, ⟨h', h2, ?_, rfl, hB, hL⟩, ?_⟩
  · refine hf k (Nat.lt_of_lt_of_le hkl hb.size) ?_
    cases e : h1 k with
    | none => rfl
    | some o => have := (hk1 k o e).2; omega
  · intro k
    cases e : h' k with
    | none => exact .inl rfl
    | some o =>
      right
      cases e2 : h2 k with
      | none => rfl
      | some o2 =>
        have h3 := hk2 k o2 e2
        rcases (hn k o e).2 with h4 | h4
        · rcases hd k with h5 | h5
          · exact absurd h5 h4
          · rw [h5] at e2; cases e2
        · have := heap_lt h3.1; omega
  · intro k o e
    unfold join at e
    cases e1 : h' k with
    | some o1 =>
      rw [e1] at e
      injection e with e
      subst e
      have h3 := hn k o1 e1
      refine ⟨h3.1, ?_⟩
      rcases h3.2 with h4 | h4
      · cases e2 : h1 k with
        | none => exact absurd e2 h4
        | some o2 => exact (hk1 k o2 e2).2
      · have := hb.size; omega
    | none =>
      rw [e1] at e
      have e' : h2 k = some o := e
      have h3 := hk2 k o e'
      refine ⟨?_, h3.2⟩
      rw [hf k (heap_lt h3.1) ?_]
      · exact h3.1
      · rcases hd k with h4 | h4
        · exact h4
        · rw [e'] at h4; cases h4
theorem Sep.nothing (hs : Sep w0 w L) : Sep w0 w (Eng.nothing :: L) := by
  obtain ⟨hb, h, hL, hk⟩ := hs
  refine ⟨hb, h, ⟨fun _ => none, h, fun _ => .inl rfl, ?_, fun _ => rfl, hL⟩, hk⟩
  funext k; rfl
theorem Sep.alloc (hs : Sep w0 w L) (o : Obj) : Sep w0 (w.alloc o) (obj w.heap.size o :: L) := by
  refine hs.nothing.change ⟨rfl, rfl, rfl, by simp⟩ fun h hA _ => ⟨single w.heap.size o, rfl, fun k o' e => ?_, fun k hk _ => heap_alloc_old w o hk⟩
  unfold single at e
  split at e
  · rename_i hk; subst hk; injection e with e; subst e; exact ⟨heap_alloc_new w o, .inr (Nat.le_refl _)⟩
  · cases e
theorem Sep.drew (hs : Sep w0 w L) : Sep w0 w.drew L := let ⟨hb, h⟩ := hs; ⟨hb.drew, h⟩
theorem Sep.drewN (hs : Sep w0 w L) (n : Nat) : Sep w0 (w.drewN n) L := let ⟨hb, h, hL, hk⟩ := hs; ⟨⟨hb.os, hb.tape, hb.output, hb.size, hb.block⟩, h, hL, hk⟩
theorem Sep.setObj {g : Nat} {o o' : Obj} (hs : Sep w0 w (obj g o :: L)) (h1 : w'.os = w.os ∧ w'.tape = w.tape ∧ w'.output = w.output ∧ w'.heap.size = w.heap.size) (h2 : w'.heap[g]? = some o') (h3 : ∀ k, k ≠ g → w'.heap[k]? = w.heap[k]?) : Sep w0 w' (obj g o' :: L) := by
  refine hs.change ⟨h1.1, h1.2.1, h1.2.2.1, Nat.le_of_eq h1.2.2.2.symm⟩ fun h hA hk => ⟨single g o', rfl, fun k o2 e => ?_, fun k hkl hn => h3 k ?_⟩
  · unfold single at e
    split at e
    · rename_i hk'; subst hk'; injection e with e; subst e; exact ⟨h2, .inl (by rw [hA]; simp [single])⟩
    · cases e
  · intro e; subst e; rw [hA] at hn; simp [single] at hn
theorem Sep.setCell {g : Nat} {l : List Value} {T : TypeId} (hs : Sep w0 w (blk g l T :: L)) (i : Nat) (v : Value) : Sep w0 (w.setCell ⟨g, i, none⟩ v) (blk g (l.set i v) T :: L) := by
  have hg := hs.get.1
  refine hs.setObj ⟨rfl, rfl, rfl, by simp [World.setCell]⟩ ?_ fun k hk => by simp only [World.setCell, Array.getElem?_modify]; rw [if_neg (fun e => hk e.symm)]
  simp [World.setCell, Array.getElem?_modify, hg]
theorem Sep.setRow {g : Nat} {l l' : List Value} {T : TypeId} (hs : Sep w0 w (blk g l T :: L)) : Sep w0 (w.setRow g l'.toArray) (blk g l' T :: L) := by
  have hg := hs.get.1
  refine hs.setObj ⟨rfl, rfl, rfl, by simp [World.setRow]⟩ ?_ fun k hk => by simp only [World.setRow, Array.getElem?_modify]; rw [if_neg (fun e => hk e.symm)]
  simp [World.setRow, Array.getElem?_modify, hg]
theorem Sep.ex {α : Type} {F : α → HP} (hs : Sep w0 w (Eng.ex F :: L)) : ∃ x, Sep w0 w (F x :: L) := by
  obtain ⟨hb, h, ⟨h1, h2, hd, rfl, ⟨x, hA⟩, hL⟩, hk⟩ := hs
  exact ⟨x, hb, _, ⟨h1, h2, hd, rfl, hA, hL⟩, hk⟩
theorem Sep.inEx {α : Type} {F : α → HP} (x : α) (hs : Sep w0 w (F x :: L)) : Sep w0 w (Eng.ex F :: L) := hs.imp fun _ h => ⟨x, h⟩
theorem Sep.pur {p : Prop} (hs : Sep w0 w (Eng.pur p A :: L)) : p ∧ Sep w0 w (A :: L) := by
  obtain ⟨hb, h, ⟨h1, h2, hd, rfl, ⟨hp, hA⟩, hL⟩, hk⟩ := hs
  exact ⟨hp, hb, _, ⟨h1, h2, hd, rfl, hA, hL⟩, hk⟩
theorem Sep.inPur {p : Prop} (hp : p) (hs : Sep w0 w (A :: L)) : Sep w0 w (Eng.pur p A :: L) := hs.imp fun _ h => ⟨hp, h⟩
theorem stars_append {L M : List HP} : ∀ {h : Hp}, stars (L ++ M) h ↔ ∃ h1 h2, Disj h1 h2 ∧ h = join h1 h2 ∧ stars L h1 ∧ stars M h2 := by
  induction L with
  | nil =>
    intro h
    constructor
    · intro hM; exact ⟨fun _ => none, h, fun _ => .inl rfl, by funext k; rfl, fun _ => rfl, hM⟩
    · rintro ⟨h1, h2, hd, rfl, he, hM⟩
      rw [join_comm hd, join_emp he]; exact hM
  | cons A L ih =>
    intro h
    constructor
    · rintro ⟨h1, h2, hd, rfl, hA, hLM⟩
      obtain ⟨h3, h4, hd2, rfl, hL, hM⟩ := ih.1 hLM
      obtain ⟨d1, d2⟩ := disj_of_join hd
      exact ⟨join h1 h3, h4, (disj_join d2.symm hd2.symm).symm, (join_assoc _ _ _).symm, ⟨h1, h3, d1, rfl, hA, hL⟩, hM⟩
    · rintro ⟨h1, h2, hd, rfl, ⟨h3, h4, hd2, rfl, hA, hL⟩, hM⟩
      obtain ⟨d1, d2⟩ := disj_of_join hd.symm
      exact ⟨h3, join h4 h2, disj_join hd2 d1.symm, join_assoc _ _ _, hA, ih.2 ⟨h4, h2, d2.symm, rfl, hL, hM⟩⟩
/-- Several as one. -/
theorem Sep.fold (hs : Sep w0 w (M ++ L)) : Sep w0 w (stars M :: L) := by
  obtain ⟨hb, h, hL, hk⟩ := hs
  obtain ⟨h1, h2, hd, rfl, h3, h4⟩ := stars_append.1 hL
  exact ⟨hb, _, ⟨h1, h2, hd, rfl, h3, h4⟩, hk⟩
theorem Sep.unfold (hs : Sep w0 w (stars M :: L)) : Sep w0 w (M ++ L) := by
  obtain ⟨hb, h, ⟨h1, h2, hd, rfl, h3, h4⟩, hk⟩ := hs
  exact ⟨hb, _, stars_append.2 ⟨h1, h2, hd, rfl, h3, h4⟩, hk⟩
/-- A call that was told from its own beginning. -/
theorem Sep.trans (hs : Sep w0 w L) (ht : Sep w w' M) : Sep w0 w' (M ++ L) := by
  obtain ⟨hb, h, hL, hk⟩ := hs
  obtain ⟨hb', h', hM, hk'⟩ := ht
  refine ⟨hb.trans (hb'.mono hb.size), join h' h, stars_append.2 ⟨h', h, ?_, rfl, hM, hL⟩, ?_⟩
  · intro k
    cases e : h' k with
    | none => exact .inl rfl
    | some o =>
      right
      cases e2 : h k with
      | none => rfl
      | some o2 => have := heap_lt (hk k o2 e2).1; have := (hk' k o e).2; omega
  · intro k o e
    unfold join at e
    cases e1 : h' k with
    | some o1 => rw [e1] at e; injection e with e; subst e; exact ⟨(hk' k o1 e1).1, Nat.le_trans hb.size (hk' k o1 e1).2⟩
    | none =>
      rw [e1] at e
      have h3 := hk k o e
      exact ⟨(hb'.block k (heap_lt h3.1)).trans h3.1, h3.2⟩
/-- .. that owns nothing in the end. -/
theorem Sep.below_ (hs : Sep w0 w L) (hb : Below w.heap.size w w') : Sep w0 w' L := by
  have := hs.trans ⟨hb, fun _ => none, fun _ => rfl, fun _ _ h => by cases h⟩ (M := [])
  exact this
theorem Sep.toBelow (hs : Sep w0 w L) : Below w0.heap.size w0 w := hs.below
theorem Sep.nil (hs : Sep w0 w L) : Sep w0 w [] := ⟨hs.below, fun _ => none, fun _ => rfl, fun _ _ h => by cases h⟩
/-- Blocks that are listed twice are two. -/
theorem Sep.ne {g g' : Nat} {o o' : Obj} (hs : Sep w0 w (obj g o :: obj g' o' :: L)) : g ≠ g' := by
  rintro rfl
  obtain ⟨hb, h, ⟨h1, h2, hd, rfl, hA, h3, h4, hd2, rfl, hB, hL⟩, hk⟩ := hs
  rcases hd g with e | e
  · rw [hA] at e; simp [single] at e
  · have e := (join_none e).1
    rw [hB] at e; simp [single] at e
end Go.Proofs.Ytnneoipoaoefkaa.Eng
