/- Entries by rising keys: plain, and the walk of Rising. -/
import Derived.Test.YtfjnjnkmkbbjoaaBlkLaws
import Derived.Test.YtfjnjnkmkbbjoaaRowPut
namespace Go.Proofs.Ytfjnjnkmkbbjoaa.Blk
open Go Go.RowKit Go.Proofs.Ytfjnjnkmkbbjoaa.Eng Go.Proofs.Ytfjnjnkmkbbjoaa.Six Go.Proofs.Ytfjnjnkmkbbjoaa.CrcFn
set_option linter.unusedVariables false
set_option maxRecDepth 100000
theorem less_trans : ∀ a b c : List UInt8, Op.bytesLess a b = true → Op.bytesLess b c = true → Op.bytesLess a c = true := by
  intro a
  induction a with
  | nil => intro b c h1 h2; cases b with
    | nil => simp [Op.bytesLess] at h1
    | cons y b => cases c with
      | nil => simp [Op.bytesLess] at h2
      | cons z c => simp [Op.bytesLess]
  | cons x a ih =>
    intro b c h1 h2
    cases b with
    | nil => simp [Op.bytesLess] at h1
    | cons y b =>
      cases c with
      | nil => simp [Op.bytesLess] at h2
      | cons z c =>
        simp only [Op.bytesLess] at h1 h2 ⊢
        by_cases hxy : x = y
        · subst hxy
          by_cases hxz : x = z
          · subst hxz
            simp at h1 h2 ⊢
            exact ih _ _ h1 h2
          · simp [hxz] at h2 ⊢
            exact h2
        · simp [hxy] at h1
          by_cases hyz : y = z
          · subst hyz
            simp [hxy]
            exact h1
          · simp [hyz] at h2
            have h3 : x < z := UInt8.lt_trans h1 h2
            have h4 : ¬ x = z := fun e => by subst e; exact absurd h3 (UInt8.lt_irrefl _)
            simp [h4]
            exact h3
def klt (a b : List UInt8) : Bool := sLt (ofL a) (ofL b)
theorem klt_eq (a b : List UInt8) : klt a b = Op.bytesLess a b := by unfold klt sLt; rw [ByteArray.toList_eq, ByteArray.toList_eq]
theorem klt_trans {a b c : List UInt8} (h1 : klt a b = true) (h2 : klt b c = true) : klt a c = true := by rw [klt_eq] at *; exact less_trans _ _ _ h1 h2
theorem klt_irrefl (a : List UInt8) : klt a a = false := by rw [klt_eq]; exact less_irrefl a
theorem klt_tri {a b : List UInt8} (h1 : klt a b = false) (h2 : a ≠ b) : klt b a = true := by
  have h := sLt_tri a b
  unfold klt at *
  rw [h1] at h
  have e : decide (ofL b = ofL a) = false := decide_eq_false (fun h => h2 (by have h3 := congrArg toL h; simpa [Eng.toL_ofL] using h3.symm))
  rw [e, Bool.or_false, Bool.not_false] at h
  exact h.symm
def sorted (l : List Ent) : Prop := l.Pairwise fun a b => klt a.key b.key = true
def good (x : Ent) : Prop := x.key.length ≤ 60000 ∧ x.val.length ≤ 60000 ∧ (x.gone = true → x.val = [])
def norm (x : Ent) : Ent := if x.gone = true then ⟨x.key, [], x.gone⟩ else x
theorem norm_key (x : Ent) : (norm x).key = x.key := by unfold norm; split <;> rfl
theorem norm_good {x : Ent} (h1 : x.key.length ≤ 60000) (h2 : x.val.length ≤ 60000) : good (norm x) := by
  unfold norm good
  split
  · exact ⟨h1, by simp, fun _ => rfl⟩
  · rename_i h; exact ⟨h1, h2, fun h' => absurd h' h⟩
def insAt (out : List Ent) (j : Nat) (x : Ent) : List Ent := out.take j ++ x :: out.drop j
theorem sorted_set {out : List Ent} {j : Nat} {x y : Ent} (h : sorted out) (hj : out[j]? = some y) (he : y.key = x.key) : sorted (out.set j x) := by
  obtain ⟨hl, rfl⟩ := List.getElem?_eq_some_iff.1 hj
  unfold sorted at *
  rw [List.set_eq_take_append_cons_drop, if_pos hl]
  have e : out = out.take j ++ out[j] :: out.drop (j + 1) := by rw [← List.drop_eq_getElem_cons hl, List.take_append_drop]
  rw [e] at h
  have h' := List.pairwise_append.1 h
  have h'' := List.pairwise_cons.1 h'.2.1
  refine List.pairwise_append.2 ⟨h'.1, List.pairwise_cons.2 ⟨fun z hz => ?_, ?_⟩, fun a ha b hb => ?_⟩
  · rw [← he]; exact h''.1 z hz
  · exact h''.2
  · rcases List.mem_cons.1 hb with rfl | hb
    · rw [← he]; exact h'.2.2 a ha _ (List.mem_cons_self ..)
    · exact h'.2.2 a ha b (List.mem_cons_of_mem _ hb)
theorem sorted_ins {out : List Ent} {j : Nat} {x : Ent} (h : sorted out) (hl : ∀ i, i < j → ∀ y, out[i]? = some y → klt y.key x.key = true) (hr : ∀ y, out[j]? = some y → klt x.key y.key = true) : sorted (insAt out j x) := by
  unfold sorted insAt at *
  have e : out = out.take j ++ out.drop j := (List.take_append_drop j out).symm
  have h' := h
  rw [e] at h'
  have h1 := List.pairwise_append.1 h'
  have hd : ∀ z ∈ out.drop j, klt x.key z.key = true := by
    intro z hz
    cases hdr : out.drop j with
    | nil => rw [hdr] at hz; cases hz
    | cons y r =>
      have hy : out[j]? = some y := by
        have : (out.drop j)[0]? = some y := by rw [hdr]; rfl
        rwa [List.getElem?_drop, Nat.add_zero] at this
      rw [hdr] at hz
      rcases List.mem_cons.1 hz with rfl | hz
      · exact hr _ hy
      · have h2 := h1.2.1
        rw [hdr] at h2
        exact klt_trans (hr _ hy) ((List.pairwise_cons.1 h2).1 z hz)
  refine List.pairwise_append.2 ⟨h1.1, List.pairwise_cons.2 ⟨hd, h1.2.1⟩, fun a ha b hb => ?_⟩
  have hax : klt a.key x.key = true := by
    obtain ⟨i, hi⟩ := List.mem_iff_getElem?.1 ha
    rw [List.getElem?_take] at hi
    split at hi
    · rename_i hij; exact hl i hij a hi
    · cases hi
  rcases List.mem_cons.1 hb with rfl | hb
  · exact hax
  · exact klt_trans hax (hd b hb)
theorem chk_sorted : ∀ (l : List Ent) (p : Option (List UInt8)), sorted l → (∀ x ∈ l, good x) → (∀ q x, p = some q → l.head? = some x → klt q x.key = true) → chk p l = 0
  | [], p, _, _, _ => rfl
  | x :: l, p, hs, hg, hp => by
    have hx := hg x (List.mem_cons_self ..)
    obtain ⟨g1, g2, g3⟩ := hx
    have hs' := List.pairwise_cons.1 hs
    rw [chk, if_neg (by omega), if_neg]
    · refine chk_sorted l _ hs'.2 (fun y hy => hg y (List.mem_cons_of_mem _ hy)) (fun q y hq hy => ?_)
      injection hq with hq
      subst hq
      exact hs'.1 y (List.mem_of_mem_head? hy)
    · have hf : fit p x.key = false := by
        cases p with
        | none => rfl
        | some q =>
          have := hp q x rfl rfl
          unfold klt at this
          show (!sLt (ofL q) (ofL x.key)) = false
          rw [this]; rfl
      rw [hf, gone_val.2 g3]
      decide
theorem check_sorted {l : List Ent} (hn : l.length ≤ 65536) (hs : sorted l) (hg : ∀ x ∈ l, good x) : check l = 0 := by
  unfold check
  rw [if_neg (by omega)]
  exact chk_sorted l none hs hg (fun q x h _ => by cases h)
theorem rowE_ad {w0 w : World} {v : Value} {ts : List Ent} {L : List HP} (hs : Eng.Sep w0 w (rowE v ts :: L)) (hn : 0 < ts.length) : ∃ ad c, v = .slice (some ad) ts.length c ∧ ts.length ≤ c := by
  obtain ⟨A, c, rfl, hc⟩ := hs.rowForm
  obtain ⟨ad, rfl, _⟩ := hs.rd.ad hn
  exact ⟨ad, c, rfl, hc⟩
theorem rowE_set {w0 w : World} {ad : Addr} {n c k : Nat} {ts : List Ent} {x : Ent} {L : List HP} (hn : ts.length = n) (hk : k < n) (hs : Eng.Sep w0 w (RowC 44 3 (.slice (some ad) n c) n ((ts.flatMap entC).take (k * 3) ++ entC x ++ (ts.flatMap entC).drop (k * 3 + 3)) :: L)) :
    Eng.Sep w0 w (rowE (.slice (some ad) n c) (ts.set k x) :: L) := by
  rw [flat_set (gc := entC) (sz := 3) (fun _ _ => rfl) x (by omega)] at hs
  unfold rowE
  rw [List.length_set, hn]
  exact hs
theorem take_set {out : List Ent} {k : Nat} {z y : Ent} (h : k ≤ out.length) : (out.take k ++ z :: out.drop k).set k y = out.take k ++ y :: out.drop k := by
  have hl : (out.take k).length = k := by rw [List.length_take]; omega
  rw [List.set_append_right _ _ (by omega), hl, Nat.sub_self]; rfl
theorem take_shift {out : List Ent} {k : Nat} {y : Ent} (hy : out[k]? = some y) : out.take (k + 1) ++ y :: out.drop (k + 1) = out.take k ++ y :: out.drop k := by
  obtain ⟨hl, rfl⟩ := List.getElem?_eq_some_iff.1 hy
  rw [List.take_add_one, List.getElem?_eq_getElem hl, List.append_assoc, List.drop_eq_getElem_cons hl]
  rfl
end Go.Proofs.Ytfjnjnkmkbbjoaa.Blk
