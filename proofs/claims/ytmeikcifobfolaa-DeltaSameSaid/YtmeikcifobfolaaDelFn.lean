/- Patches, plain. -/
import Derived.Test.YtmeikcifobfolaaSixFn
namespace Go.Proofs.Ytmeikcifobfolaa.Del
open Go Go.Proofs.Ytmeikcifobfolaa.Six
set_option linter.unusedVariables false
/-- The next piece: its bytes, how many bytes of the patch it took, the error. -/
def dnext (b l : List UInt8) (most : Int) : List UInt8 × Nat × Int :=
  if (count l).2.2 ≠ 0 then ([], 0, (count l).2.2) else
  if (count l).1 < 2 ∨ most < (count l).1 / 2 then ([], 0, 3) else
  if (count l).1 % 2 = 0 then ((raw (l.drop (count l).2.1) ((count l).1 / 2)).1, (count l).2.1 + (raw (l.drop (count l).2.1) ((count l).1 / 2)).2.1, (raw (l.drop (count l).2.1) ((count l).1 / 2)).2.2) else
  if (count (l.drop (count l).2.1)).2.2 ≠ 0 then ([], 0, (count (l.drop (count l).2.1)).2.2) else
  if (b.length : Int) < (count (l.drop (count l).2.1)).1 ∨ (b.length : Int) - (count (l.drop (count l).2.1)).1 < (count l).1 / 2 then ([], 0, 3) else
  ((b.drop (count (l.drop (count l).2.1)).1.toNat).take ((count l).1 / 2).toNat, (count l).2.1 + (count (l.drop (count l).2.1)).2.1, 0)
def dloop (b : List UInt8) (size : Nat) : Nat → List UInt8 → List UInt8 → List UInt8 × Int
  | 0, out, l => ([], 2)
  | m + 1, out, l =>
    if out.length < size then
      (if (dnext b l ((size : Int) - out.length)).2.2 ≠ 0 then ([], (dnext b l ((size : Int) - out.length)).2.2)
       else dloop b size m (out ++ (dnext b l ((size : Int) - out.length)).1) (l.drop (dnext b l ((size : Int) - out.length)).2.1))
    else if l.length = 0 then (out, 0) else ([], 5)
def apply (b p : List UInt8) : List UInt8 × Int :=
  if (count p).2.2 ≠ 0 then ([], (count p).2.2) else
  if 4096 < (count p).1 then ([], 6) else dloop b (count p).1.toNat (p.length + 1) [] (p.drop (count p).2.1)
structure Pc where
  copy : Bool
  at_ : Nat
  text : List UInt8
  len : Nat
def pbytes (p : Pc) : List UInt8 := if p.copy then enc 64 (2 * p.len + 1) ++ enc 64 p.at_ else enc 64 (2 * p.text.length) ++ p.text
def pmade (b : List UInt8) (p : Pc) : List UInt8 := if p.copy then (b.drop p.at_).take p.len else p.text
def pgood (b : List UInt8) (p : Pc) : Prop := if p.copy then p.at_ + p.len ≤ b.length ∧ 1 ≤ p.len else 1 ≤ p.text.length ∧ p.text.length ≤ 1152921504606846976
theorem pbytes_pos (p : Pc) : 1 ≤ (pbytes p).length := by
  unfold pbytes
  split
  · have := enc_pos 64 (2 * p.len + 1); rw [List.length_append]; omega
  · have := enc_pos 64 (2 * p.text.length); rw [List.length_append]; omega
theorem pmade_pos {b : List UInt8} {p : Pc} (h : pgood b p) : 1 ≤ (pmade b p).length := by
  unfold pgood at h; unfold pmade
  split
  · rename_i hc; rw [if_pos hc] at h; rw [List.length_take, List.length_drop]; omega
  · rename_i hc; rw [if_neg hc] at h; exact h.1
theorem dnext_piece {b : List UInt8} (hb : b.length ≤ 1152921504606846976) {p : Pc} (h : pgood b p) {most : Int} (hm : ((pmade b p).length : Int) ≤ most) (r : List UInt8) :
    dnext b (pbytes p ++ r) most = (pmade b p, (pbytes p).length, 0) := by
  unfold pgood at h
  unfold pmade at hm ⊢
  unfold pbytes
  by_cases hc : p.copy = true
  · rw [if_pos hc] at h hm ⊢
    rw [if_pos hc]
    have hml : ((b.drop p.at_).take p.len).length = p.len := by rw [List.length_take, List.length_drop]; omega
    rw [hml] at hm
    have h1 := count_enc (2 * p.len + 1) (by omega) (enc 64 p.at_ ++ r)
    have h2 := count_enc p.at_ (by omega) r
    have hd : (enc 64 (2 * p.len + 1) ++ (enc 64 p.at_ ++ r)).drop (enc 64 (2 * p.len + 1)).length = enc 64 p.at_ ++ r := List.drop_left
    unfold dnext
    rw [List.append_assoc, h1]
    dsimp only
    rw [hd, h2]
    dsimp only
    rw [if_neg (by simp), if_neg (by omega), if_neg (by omega), if_neg (by simp), if_neg (by omega)]
    rw [List.length_append, Int.toNat_natCast, show (((2 * p.len + 1 : Nat) : Int) / 2).toNat = p.len by omega]
  · rw [if_neg hc] at h hm ⊢
    rw [if_neg hc]
    have h1 := count_enc (2 * p.text.length) (by omega) (p.text ++ r)
    have hd : (enc 64 (2 * p.text.length) ++ (p.text ++ r)).drop (enc 64 (2 * p.text.length)).length = p.text ++ r := List.drop_left
    have e2 : ((2 * p.text.length : Nat) : Int) / 2 = (p.text.length : Int) := by omega
    have h3 : raw (p.text ++ r) (p.text.length : Int) = (p.text, p.text.length, 0) := by
      unfold raw
      rw [if_neg (by omega), if_neg (by rw [List.length_append]; omega), Int.toNat_natCast, List.take_left]
    unfold dnext
    rw [List.append_assoc, h1]
    dsimp only
    rw [hd, e2, h3]
    dsimp only
    rw [if_neg (by simp), if_neg (by omega), if_pos (by omega), List.length_append]
theorem dloop_pieces {b : List UInt8} (hb : b.length ≤ 1152921504606846976) {size : Nat} : ∀ (ps : List Pc) (m : Nat) (out r : List UInt8), (∀ p ∈ ps, pgood b p) → out.length + (ps.flatMap (pmade b)).length ≤ size →
    dloop b size (m + ps.length) out (ps.flatMap pbytes ++ r) = dloop b size m (out ++ ps.flatMap (pmade b)) r
  | [], m, out, r, _, _ => by simp
  | p :: ps, m, out, r, hg, hs => by
    have hp := hg p (List.mem_cons_self ..)
    have h1 := pmade_pos hp
    rw [List.flatMap_cons, List.length_append] at hs
    rw [List.length_cons, ← Nat.add_assoc, dloop, if_pos (by omega), List.flatMap_cons, List.append_assoc]
    rw [dnext_piece hb hp (by omega)]
    dsimp only
    rw [if_neg (by simp), List.drop_left, dloop_pieces hb ps m _ r (fun q hq => hg q (List.mem_cons_of_mem _ hq)) (by rw [List.length_append]; omega), List.flatMap_cons, List.append_assoc]
theorem flat_ge (ps : List Pc) : ps.length ≤ (ps.flatMap pbytes).length := by
  induction ps with
  | nil => simp
  | cons p ps ih => have := pbytes_pos p; rw [List.flatMap_cons, List.length_append, List.length_cons]; omega
def patch (n : Nat) (ps : List Pc) : List UInt8 := enc 64 n ++ ps.flatMap pbytes
theorem apply_patch {b : List UInt8} (hb : b.length ≤ 1152921504606846976) {ps : List Pc} (hg : ∀ p ∈ ps, pgood b p) {n : Nat} (hn : n ≤ 4096) (hs : (ps.flatMap (pmade b)).length ≤ n) (r : List UInt8) :
    ∃ m, apply b (patch n ps ++ r) = dloop b n (m + 1) (ps.flatMap (pmade b)) r := by
  have h1 := count_enc n (by omega) (ps.flatMap pbytes ++ r)
  have hfl := flat_ge ps
  have hep := enc_pos 64 n
  unfold apply patch
  rw [List.append_assoc, h1]
  dsimp only
  rw [if_neg (by simp), if_neg (by omega), List.drop_left, Int.toNat_natCast]
  refine ⟨(enc 64 n ++ (ps.flatMap pbytes ++ r)).length - ps.length, ?_⟩
  have h2 := dloop_pieces hb ps ((enc 64 n ++ (ps.flatMap pbytes ++ r)).length - ps.length + 1) [] r hg (by simpa using hs)
  rw [List.nil_append] at h2
  rw [← h2]
  congr 1
  rw [List.length_append, List.length_append]
  omega
theorem patch_whole {b : List UInt8} (hb : b.length ≤ 1152921504606846976) {ps : List Pc} (hg : ∀ p ∈ ps, pgood b p) (hn : (ps.flatMap (pmade b)).length ≤ 4096) :
    apply b (patch (ps.flatMap (pmade b)).length ps) = (ps.flatMap (pmade b), 0) := by
  obtain ⟨m, h⟩ := apply_patch hb hg hn (Nat.le_refl _) []
  rw [List.append_nil] at h
  rw [h, dloop, if_neg (by omega)]
  exact if_pos rfl
theorem patch_tail {b : List UInt8} (hb : b.length ≤ 1152921504606846976) {ps : List Pc} (hg : ∀ p ∈ ps, pgood b p) (hn : (ps.flatMap (pmade b)).length ≤ 4096) :
    apply b (patch (ps.flatMap (pmade b)).length ps ++ [64]) = ([], 5) := by
  obtain ⟨m, h⟩ := apply_patch hb hg hn (Nat.le_refl _) [64]
  rw [h, dloop, if_neg (by omega), if_neg (by simp)]
theorem patch_short {b : List UInt8} (hb : b.length ≤ 1152921504606846976) {ps : List Pc} (hg : ∀ p ∈ ps, pgood b p) (hn : (ps.flatMap (pmade b)).length ≤ 4096) :
    apply b (patch ((ps.flatMap (pmade b)).length + 1) ps) = ([], if (ps.flatMap (pmade b)).length = 4096 then 6 else 2) := by
  by_cases h4 : (ps.flatMap (pmade b)).length = 4096
  · rw [if_pos h4]
    have h1 := count_enc ((ps.flatMap (pmade b)).length + 1) (by omega) (ps.flatMap pbytes)
    unfold apply patch
    rw [h1]
    dsimp only
    rw [if_neg (by simp), if_pos (by omega)]
  · rw [if_neg h4]
    obtain ⟨m, h⟩ := apply_patch hb hg (n := (ps.flatMap (pmade b)).length + 1) (by omega) (Nat.le_succ _) []
    rw [List.append_nil] at h
    have hc : count [] = (0, 0, 2) := by decide +kernel
    rw [h, dloop, if_pos (by omega)]
    unfold dnext
    rw [hc]
    simp
end Go.Proofs.Ytmeikcifobfolaa.Del
