/- Filters, plain: what is put is found; orders play no part; how many bits are 1; bytes and back. -/
import Derived.Test.YtbimboibllboeaaDoorBlmPack
import Derived.Test.YtbimboibllboeaaDoorSixFn
namespace Go.Proofs.YtbimboibllboeaaDoor.Blm
open Go Go.RowKit Go.Proofs.YtbimboibllboeaaDoor.Eng Go.Proofs.YtbimboibllboeaaDoor.Sha Go.Proofs.YtbimboibllboeaaDoor.Six
set_option linter.unusedVariables false
set_option maxRecDepth 100000
theorem bit_or (c : UInt8) {k j : Nat} (hk : k < 8) (hj : j < 8) : bit8 (c ||| (1 <<< UInt8.ofNat k)) j = (bit8 c j || decide (j = k)) := by
  have h : ∀ n < 256, ∀ k < 8, ∀ j < 8, bit8 (UInt8.ofNat n ||| (1 <<< UInt8.ofNat k)) j = (bit8 (UInt8.ofNat n) j || decide (j = k)) := by decide +kernel
  have := h c.toNat c.toNat_lt k hk j hj
  rwa [UInt8.ofNat_toNat] at this
def remade (f : Nat → Bool) : UInt8 := (List.range 8).foldl (fun c k => if f k = true then c ||| (1 <<< UInt8.ofNat k) else c) 0
theorem remade_eq (c : UInt8) : remade (bit8 c) = c := by
  have h : ∀ n < 256, remade (bit8 (UInt8.ofNat n)) = UInt8.ofNat n := by decide +kernel
  have := h c.toNat c.toNat_lt
  rwa [UInt8.ofNat_toNat] at this
theorem remade_congr {f g : Nat → Bool} (h : ∀ k < 8, f k = g k) : remade f = remade g := by
  unfold remade
  rw [show List.range 8 = [0, 1, 2, 3, 4, 5, 6, 7] from rfl]
  simp only [List.foldl_cons, List.foldl_nil]
  rw [h 0 (by decide), h 1 (by decide), h 2 (by decide), h 3 (by decide), h 4 (by decide), h 5 (by decide), h 6 (by decide), h 7 (by decide)]
theorem byte_ext {c d : UInt8} (h : ∀ k < 8, bit8 c k = bit8 d k) : c = d := by
  rw [← remade_eq c, ← remade_eq d]; exact remade_congr h
theorem pop_or (c : UInt8) {k : Nat} (hk : k < 8) : pop8 c ≤ pop8 (c ||| (1 <<< UInt8.ofNat k)) ∧ pop8 (c ||| (1 <<< UInt8.ofNat k)) ≤ pop8 c + 1 := by
  have h : ∀ n < 256, ∀ k < 8, pop8 (UInt8.ofNat n) ≤ pop8 (UInt8.ofNat n ||| (1 <<< UInt8.ofNat k)) ∧ pop8 (UInt8.ofNat n ||| (1 <<< UInt8.ofNat k)) ≤ pop8 (UInt8.ofNat n) + 1 := by decide +kernel
  have := h c.toNat c.toNat_lt k hk
  rwa [UInt8.ofNat_toNat] at this
theorem tst_put {b : List UInt8} {n m : Nat} (hn : n < 8 * b.length) (hm : m < 8 * b.length) : tstB (putB b n) m = (tstB b m || decide (m = n)) := by
  unfold tstB putB
  by_cases h : m / 8 = n / 8
  · rw [List.getD_eq_getElem?_getD, h, List.getElem?_set_self (by omega)]
    show bit8 (b.getD (n / 8) 0 ||| _) _ = _
    rw [bit_or _ (by omega) (by omega)]
    congr 1
    exact decide_eq_decide.2 (by omega)
  · rw [List.getD_eq_getElem?_getD, List.getElem?_set_ne (fun e => h e.symm), ← List.getD_eq_getElem?_getD]
    rw [show decide (m = n) = false from decide_eq_false (fun e => h (by rw [e])), Bool.or_false]
theorem tst_all {m z : Nat} (hm : m < 8 * z) : ∀ (ns : List Nat) (b : List UInt8), b.length = z → (∀ n ∈ ns, n < 8 * z) → tstB (putAll b ns) m = (tstB b m || decide (m ∈ ns))
  | [], b, hb, _ => by simp [putAll]
  | n :: ns, b, hb, h => by
    show tstB (putAll (putB b n) ns) m = _
    rw [tst_all hm ns (putB b n) (by rw [putB_len]; exact hb) (fun x hx => h x (List.mem_cons_of_mem _ hx)), tst_put (by rw [hb]; exact h n (List.mem_cons_self ..)) (by rw [hb]; exact hm), Bool.or_assoc]
    congr 1
    by_cases e : m = n
    · simp [e]
    · simp [e]
theorem places_lt {key : List UInt8} {z h n : Nat} (hz : 0 < z) (hn : n ∈ places key z h) : n < 8 * z := by
  unfold places at hn
  obtain ⟨i, _, rfl⟩ := List.mem_map.1 hn
  exact place_lt key hz i
theorem tst_zero (z m : Nat) : tstB (List.replicate z 0) m = false := by
  have h0 : (List.replicate z (0 : UInt8)).getD (m / 8) 0 = 0 := by
    rw [List.getD_eq_getElem?_getD, List.getElem?_replicate]; split <;> rfl
  unfold tstB
  rw [h0]
  have h : ∀ k < 8, bit8 0 k = false := by decide +kernel
  exact h _ (by omega)
theorem tst_make {h z m : Nat} (hz : 0 < z) (hm : m < 8 * z) : ∀ (keys : List (List UInt8)) (b : List UInt8), b.length = z → tstB (keys.foldl (fun b key => putAll b (places key z h)) b) m = (tstB b m || decide (∃ key ∈ keys, m ∈ places key z h))
  | [], b, hb => by simp
  | k :: ks, b, hb => by
    rw [List.foldl_cons, tst_make hz hm ks _ (by rw [putAll_len]; exact hb), tst_all hm _ b hb (fun n hn => places_lt hz hn), Bool.or_assoc]
    congr 1
    rw [Bool.eq_iff_iff]
    simp
theorem tst_makeB {h z m : Nat} (hz : 0 < z) (hm : m < 8 * z) (keys : List (List UInt8)) : tstB (makeB h z keys) m = decide (∃ key ∈ keys, m ∈ places key z h) := by
  unfold makeB
  rw [tst_make hz hm keys _ (by simp), tst_zero, Bool.false_or]
/-- A key is never missed. -/
theorem never {h z : Nat} (hz : 0 < z) {keys : List (List UInt8)} {key : List UInt8} (hk : key ∈ keys) : hasB h (makeB h z keys) key = true := by
  unfold hasB
  rw [makeB_len, List.all_eq_true]
  intro n hn
  rw [tst_makeB hz (places_lt hz hn)]
  exact decide_eq_true ⟨key, hk, hn⟩
theorem bytes_ext {b d : List UInt8} (hl : b.length = d.length) (h : ∀ m < 8 * b.length, tstB b m = tstB d m) : b = d := by
  apply List.ext_getElem hl
  intro i h1 h2
  refine byte_ext fun k hk => ?_
  have := h (8 * i + k) (by omega)
  unfold tstB at this
  rw [show (8 * i + k) / 8 = i by omega, show (8 * i + k) % 8 = k by omega, List.getD_eq_getElem?_getD, List.getElem?_eq_getElem h1, List.getD_eq_getElem?_getD, List.getElem?_eq_getElem h2] at this
  exact this
/-- The order of keys plays no part. -/
theorem make_same {h z : Nat} (hz : 0 < z) {ks ls : List (List UInt8)} (hm : ∀ x, x ∈ ks ↔ x ∈ ls) : makeB h z ks = makeB h z ls := by
  refine bytes_ext (by rw [makeB_len, makeB_len]) fun m hml => ?_
  rw [makeB_len] at hml
  rw [tst_makeB hz hml, tst_makeB hz hml]
  refine decide_eq_decide.2 ⟨fun ⟨k, h1, h2⟩ => ⟨k, (hm k).1 h1, h2⟩, fun ⟨k, h1, h2⟩ => ⟨k, (hm k).2 h1, h2⟩⟩
theorem ones_set : ∀ (b : List UInt8) (i : Nat) (c v : UInt8), b[i]? = some c → onesB (b.set i v) + pop8 c = onesB b + pop8 v
  | [], i, c, v, h => by simp at h
  | x :: b, 0, c, v, h => by
    have : x = c := by simpa using h
    subst this
    simp only [List.set_cons_zero, onesB, List.map_cons, List.sum_cons]; omega
  | x :: b, i + 1, c, v, h => by
    have ih := ones_set b i c v (by simpa using h)
    simp only [List.set_cons_succ, onesB, List.map_cons, List.sum_cons] at ih ⊢; omega
theorem ones_put {b : List UInt8} {n : Nat} (hn : n < 8 * b.length) : onesB b ≤ onesB (putB b n) ∧ onesB (putB b n) ≤ onesB b + 1 := by
  have hi : b[n / 8]? = some (b.getD (n / 8) 0) := by
    rw [List.getD_eq_getElem?_getD, List.getElem?_eq_getElem (by omega)]; rfl
  have h := ones_set b (n / 8) _ (b.getD (n / 8) 0 ||| (1 <<< UInt8.ofNat (n % 8))) hi
  have hp := pop_or (b.getD (n / 8) 0) (show n % 8 < 8 by omega)
  unfold putB
  omega
theorem ones_all {z : Nat} : ∀ (ns : List Nat) (b : List UInt8), b.length = z → (∀ n ∈ ns, n < 8 * z) → onesB b ≤ onesB (putAll b ns) ∧ onesB (putAll b ns) ≤ onesB b + ns.length
  | [], b, hb, _ => by simp [putAll]
  | n :: ns, b, hb, h => by
    have ih := ones_all ns (putB b n) (by rw [putB_len]; exact hb) (fun x hx => h x (List.mem_cons_of_mem _ hx))
    have h1 := ones_put (b := b) (n := n) (by rw [hb]; exact h n (List.mem_cons_self ..))
    show onesB b ≤ onesB (putAll (putB b n) ns) ∧ onesB (putAll (putB b n) ns) ≤ _
    rw [List.length_cons]; omega
theorem ones_zero (z : Nat) : onesB (List.replicate z 0) = 0 := by
  unfold onesB
  rw [List.map_replicate, pop_zero]; simp
theorem ones_make {h z : Nat} (hz : 0 < z) : ∀ (keys : List (List UInt8)) (b : List UInt8), b.length = z → onesB (keys.foldl (fun b key => putAll b (places key z h)) b) ≤ onesB b + h * keys.length
  | [], b, hb => by simp
  | k :: ks, b, hb => by
    have ih := ones_make (h := h) hz ks (putAll b (places k z h)) (by rw [putAll_len]; exact hb)
    have h1 := ones_all (places k z h) b hb (fun n hn => places_lt hz hn)
    rw [place_len] at h1
    rw [List.foldl_cons, List.length_cons, Nat.mul_succ]; omega
theorem ones_makeB {h z : Nat} (hz : 0 < z) (keys : List (List UInt8)) : onesB (makeB h z keys) ≤ h * keys.length := by
  have := ones_make (h := h) hz keys (List.replicate z 0) (by simp)
  rw [ones_zero] at this
  unfold makeB
  omega
/-- With more keys more bits are 1. -/
theorem ones_more {h z : Nat} (hz : 0 < z) (k : List UInt8) (ks : List (List UInt8)) : onesB (makeB h z ks) ≤ onesB (makeB h z (k :: ks)) := by
  have e : makeB h z (k :: ks) = makeB h z (ks ++ [k]) := make_same hz fun x => by simp [or_comm]
  have e2 : makeB h z (ks ++ [k]) = putAll (makeB h z ks) (places k z h) := by unfold makeB; rw [List.foldl_append]; rfl
  rw [e, e2]
  exact (ones_all (places k z h) _ (makeB_len _ _ _) (fun n hn => places_lt hz hn)).1
theorem words_up {per n m : Nat} (h : n ≤ m) : wordsN per n ≤ wordsN per m := by
  have := Nat.mul_le_mul_right per h
  unfold wordsN; omega
/-- What is packed opens as it was. -/
theorem open_pack {h : Nat} {b : List UInt8} (h1 : 1 ≤ h) (h2 : h ≤ 8) (hb : b.length ≤ 1099511627776) (hb8 : b.length % 8 = 0) (hb0 : b.length ≠ 0) : openE (packF h b) = 0 ∧ openH (packF h b) = h ∧ openB (packF h b) = b := by
  have hc : count (packF h b) = ((h : Int), (enc 64 h).length, 0) := by
    unfold packF
    have hn := num_enc false h (by omega) (encT b)
    simp only [Bool.false_eq_true, if_false] at hn
    unfold count; rw [hn]; simp
  have hd : (packF h b).drop (enc 64 h).length = encT b := by unfold packF; rw [List.drop_left]
  have ht : text (encT b) = (b, (encT b).length, 0) := by
    have := text_encT b [] (by omega)
    rwa [List.append_nil] at this
  unfold openE openH openB
  rw [hc]
  dsimp only
  rw [hd, ht]
  dsimp only
  rw [if_neg (fun h => h rfl), if_neg (by omega), if_neg (fun h => h rfl), if_neg (by omega), if_neg (by rw [List.drop_length]; exact fun h => h rfl)]
  exact ⟨rfl, Int.toNat_natCast h, rfl⟩
end Go.Proofs.YtbimboibllboeaaDoor.Blm
