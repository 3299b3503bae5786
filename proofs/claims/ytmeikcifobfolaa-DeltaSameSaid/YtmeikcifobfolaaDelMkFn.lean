/- What Make does, plain: pieces that make the target, and how long they are. -/
import Derived.Test.YtmeikcifobfolaaDelFn
import Derived.Test.YtmeikcifobfolaaMap
namespace Go.Proofs.Ytmeikcifobfolaa.Del
open Go Go.Proofs.Ytmeikcifobfolaa.Eng Go.Proofs.Ytmeikcifobfolaa.Six
set_option linter.unusedVariables false
theorem enc_short (m x k : Nat) (h : x < 64 * 64 ^ k) : (enc m x).length ≤ k + 1 := by
  have := high_len k (x / 64) (by omega)
  unfold enc; rw [List.length_append]; simp only [List.length_cons, List.length_nil]; omega
def ins (t : List UInt8) : Pc := ⟨false, 0, t, 0⟩
def cpy (i n : Nat) : Pc := ⟨true, i, [], n⟩
theorem ins_bytes (t : List UInt8) : pbytes (ins t) = enc 64 (2 * t.length) ++ t := rfl
theorem cpy_bytes (i n : Nat) : pbytes (cpy i n) = enc 64 (2 * n + 1) ++ enc 64 i := rfl
theorem ins_cost {t : List UInt8} (h : t.length ≤ 4096) : (pbytes (ins t)).length ≤ t.length + 3 := by
  have := enc_short 64 (2 * t.length) 2 (by omega)
  rw [ins_bytes, List.length_append]; omega
theorem cpy_cost {i n : Nat} (hi : i < 4096) (hn : n ≤ 4096) : (pbytes (cpy i n)).length ≤ 5 := by
  have h1 := enc_short 64 (2 * n + 1) 2 (by omega)
  have h2 := enc_short 64 i 1 (by omega)
  rw [cpy_bytes, List.length_append]; omega
def insL (t : List UInt8) : List Pc := if t = [] then [] else [ins t]
theorem insL_bytes (t : List UInt8) : (insL t).flatMap pbytes = if t = [] then [] else enc 64 (2 * t.length) ++ t := by
  unfold insL; split <;> simp [ins_bytes]
theorem insL_made (bs t : List UInt8) : (insL t).flatMap (pmade bs) = t := by
  unfold insL; split
  · rename_i h; rw [h]; rfl
  · simp [pmade, ins]
theorem insL_good (bs : List UInt8) {t : List UInt8} (h : t.length ≤ 4096) : ∀ p ∈ insL t, pgood bs p := by
  unfold insL; split
  · intro p hp; cases hp
  · rename_i hne
    intro p hp
    rw [List.mem_singleton.1 hp]
    have := List.length_pos_iff.2 hne
    show 1 ≤ t.length ∧ t.length ≤ _
    omega
theorem insL_cost {t : List UInt8} (h : t.length ≤ 4096) : ((insL t).flatMap pbytes).length ≤ t.length + 3 := by
  unfold insL; split
  · simp
  · have := ins_cost h; simpa using this
structure MkInv (bs ts : List UInt8) (a bg : Nat) (ps : List Pc) : Prop where
  hb : bg ≤ a
  ha : a ≤ ts.length
  good : ∀ p ∈ ps, pgood bs p
  made : ps.flatMap (pmade bs) = ts.take bg
  cost : (ps.flatMap pbytes).length ≤ bg
  same : bs = ts → 8 ≤ ts.length → (a = 0 ∧ ps = []) ∨ (a = ts.length ∧ bg = ts.length ∧ (ps.flatMap pbytes).length ≤ 4)
theorem mk0 (bs ts : List UInt8) : MkInv bs ts 0 0 [] := ⟨by omega, by omega, by simp, by simp, by simp, fun _ _ => .inl ⟨rfl, rfl⟩⟩
theorem mk_miss {bs ts : List UInt8} {a bg : Nat} {ps : List Pc} (h : MkInv bs ts a bg ps) (hl : a < ts.length) (hs : bs = ts → 8 ≤ ts.length → a ≠ 0) : MkInv bs ts (a + 1) bg ps :=
  ⟨by have := h.hb; omega, by omega, h.good, h.made, h.cost, fun h1 h2 => by
    rcases h.same h1 h2 with h3 | h3
    · exact absurd h3.1 (hs h1 h2)
    · omega⟩
theorem mid_len (ts : List UInt8) {bg a : Nat} (h : bg ≤ a) (ha : a ≤ ts.length) : ((ts.drop bg).take (a - bg)).length = a - bg := by rw [List.length_take, List.length_drop]; omega
theorem mk_hit {bs ts : List UInt8} {a bg i n : Nat} {ps : List Pc} (hbs : bs.length ≤ 4096) (hts : ts.length ≤ 4096) (h : MkInv bs ts a bg ps) (hn : 8 ≤ n) (h1 : a + n ≤ ts.length) (h2 : i + n ≤ bs.length) (he : (ts.drop a).take n = (bs.drop i).take n)
    (hs : bs = ts → a = 0 → i = 0 ∧ n = ts.length) : MkInv bs ts (a + n) (a + n) (ps ++ (insL ((ts.drop bg).take (a - bg)) ++ [cpy i n])) := by
  have hml := mid_len ts h.hb h.ha
  have hmc := insL_cost (t := (ts.drop bg).take (a - bg)) (by omega)
  have hcc := cpy_cost (i := i) (n := n) (by omega) (by omega)
  refine ⟨by omega, h1, fun p hp => ?_, ?_, ?_, fun e1 e2 => .inr ?_⟩
  · rcases List.mem_append.1 hp with hp | hp
    · exact h.good p hp
    · rcases List.mem_append.1 hp with hp | hp
      · exact insL_good bs (by omega) p hp
      · rw [List.mem_singleton.1 hp]; show i + n ≤ _ ∧ 1 ≤ n; omega
  · rw [List.flatMap_append, List.flatMap_append, h.made, insL_made]
    have e : [cpy i n].flatMap (pmade bs) = (bs.drop i).take n := by simp [pmade, cpy]
    rw [e, ← he, ← List.append_assoc]
    have e2 : ts.take bg ++ (ts.drop bg).take (a - bg) = ts.take a := by rw [← List.take_add]; congr 1; have := h.hb; omega
    rw [e2, ← List.take_add]
  · rw [List.flatMap_append, List.flatMap_append, List.length_append, List.length_append]
    have e : [cpy i n].flatMap pbytes = pbytes (cpy i n) := by simp
    have := h.cost
    have := h.hb
    rw [e]; omega
  · rcases h.same e1 e2 with ⟨h3, h4⟩ | ⟨h3, _⟩
    · obtain ⟨h5, h6⟩ := hs e1 h3
      have hbg : bg = 0 := by have := h.hb; omega
      subst h3 h4 hbg h5
      refine ⟨by omega, by omega, ?_⟩
      have e : (insL ((ts.drop 0).take (0 - 0))) = [] := by simp [insL]
      rw [e]
      have h7 := enc_short 64 (2 * n + 1) 2 (by omega)
      have h8 := enc_short 64 0 0 (by omega)
      simp only [List.nil_append, List.flatMap_cons, List.flatMap_nil, List.append_nil, cpy_bytes, List.length_append]
      omega
    · omega
theorem mk_end {bs ts : List UInt8} {bg : Nat} {ps : List Pc} (hts : ts.length ≤ 4096) (h : MkInv bs ts ts.length bg ps) :
    (∀ p ∈ ps ++ insL ((ts.drop bg).take (ts.length - bg)), pgood bs p) ∧ (ps ++ insL ((ts.drop bg).take (ts.length - bg))).flatMap (pmade bs) = ts ∧
    (patch ts.length (ps ++ insL ((ts.drop bg).take (ts.length - bg)))).length ≤ ts.length + 8 ∧ (bs = ts → 8 ≤ ts.length → (patch ts.length (ps ++ insL ((ts.drop bg).take (ts.length - bg)))).length ≤ 8) := by
  have hml := mid_len ts h.hb h.ha
  have hmc := insL_cost (t := (ts.drop bg).take (ts.length - bg)) (by omega)
  have h1 := enc_short 64 ts.length 2 (by omega)
  refine ⟨fun p hp => ?_, ?_, ?_, fun e1 e2 => ?_⟩
  · rcases List.mem_append.1 hp with hp | hp
    · exact h.good p hp
    · exact insL_good bs (by omega) p hp
  · rw [List.flatMap_append, h.made, insL_made, ← List.take_add, List.take_of_length_le (by have := h.hb; omega)]
  · unfold patch
    rw [List.length_append, List.flatMap_append, List.length_append]
    have := h.cost
    have := h.hb
    omega
  · rcases h.same e1 e2 with ⟨h3, _⟩ | ⟨_, h4, h5⟩
    · omega
    · have e : insL ((ts.drop bg).take (ts.length - bg)) = [] := by rw [h4]; simp [insL]
      rw [e, List.append_nil]
      unfold patch
      rw [List.length_append]; omega
/-! what the map of places holds, from p on -/
def gram (bs : List UInt8) (i : Nat) : Value := sV (ofL ((bs.drop i).take 8))
structure Places (bs : List UInt8) (p : Nat) (F : MapF) : Prop where
  is : ∀ k v, F k = some v → ∃ i : Nat, v = iV (i : Int) ∧ i + 8 ≤ bs.length ∧ k = gram bs i
  has : ∀ j, p ≤ j → j + 8 ≤ bs.length → ∃ i : Nat, F (gram bs j) = some (iV (i : Int)) ∧ i ≤ j
theorem places0 {bs : List UInt8} {p : Nat} (h : bs.length < p + 8) : Places bs p (fun _ => none) := ⟨fun _ _ h => (by cases h), fun j h1 h2 => by omega⟩
theorem places_put {bs : List UInt8} {p : Nat} {F : MapF} (h : Places bs (p + 1) F) (hp : p + 8 ≤ bs.length) : Places bs p (mput F (gram bs p) (iV (p : Int))) := by
  constructor
  · intro k v hk
    by_cases e : k = gram bs p
    · subst e
      rw [mput_same] at hk
      injection hk with hk
      exact ⟨p, hk.symm, hp, rfl⟩
    · rw [mput_other _ _ _ e] at hk
      exact h.is k v hk
  · intro j hj hl
    by_cases e : gram bs j = gram bs p
    · exact ⟨p, by rw [e, mput_same], hj⟩
    · rw [mput_other _ _ _ e]
      have hne : j ≠ p := fun h' => e (by rw [h'])
      obtain ⟨i, h1, h2⟩ := h.has j (by omega) hl
      exact ⟨i, h1, h2⟩
theorem gram_inj {bs ts : List UInt8} {i a : Nat} (h : gram ts a = gram bs i) : (ts.drop a).take 8 = (bs.drop i).take 8 := by
  unfold gram at h
  injection h with h
  have := congrArg toL h
  simpa [toL_ofL] using this
theorem take_more {ts bs : List UInt8} {a i n : Nat} (h : (ts.drop a).take n = (bs.drop i).take n) (h1 : a + n < ts.length) (h2 : i + n < bs.length) (he : ts[a + n] = bs[i + n]) : (ts.drop a).take (n + 1) = (bs.drop i).take (n + 1) := by
  rw [List.take_add_one, List.take_add_one, h, List.getElem?_drop, List.getElem?_drop, List.getElem?_eq_getElem h1, List.getElem?_eq_getElem h2, he]
end Go.Proofs.Ytmeikcifobfolaa.Del
