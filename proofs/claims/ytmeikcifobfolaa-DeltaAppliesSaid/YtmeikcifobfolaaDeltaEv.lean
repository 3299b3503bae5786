/- A patch makes of a base what the reference says, piece by piece. -/
import Derived.Test.YtmeikcifobfolaaSixEv
namespace Go.Proofs.Ytmeikcifobfolaa.DeltaEv
open Go Go.RowKit Go.Proofs.YtmeikcifobfolaaW.PrintWords Go.Proofs.Ytmeikcifobfolaa.PBase Go.Proofs.Ytmeikcifobfolaa.Base Go.Proofs.Ytmeikcifobfolaa.SixFn Go.Proofs.Ytmeikcifobfolaa.SixEv

def ints (l : List UInt8) : List Int := l.map fun b => (b.toNat : Int)
theorem strOf_ints (l : List UInt8) : strOfNums (ints l) = ofL l := by
  rw [strOfNums_eq]
  congr 1
  simp [ints, List.map_map, Function.comp_def]
theorem ints_length (l : List UInt8) : (ints l).length = l.length := by simp [ints]
theorem bytesOf_ofL (l : List UInt8) : bytesOf (ofL l) = ints l := rfl
theorem ints_append (a b : List UInt8) : ints (a ++ b) = ints a ++ ints b := by simp [ints]
theorem ints_take (l : List UInt8) (n : Nat) : (ints l).take n = ints (l.take n) := by simp [ints, List.map_take]
theorem ints_drop (l : List UInt8) (n : Nat) : (ints l).drop n = ints (l.drop n) := by simp [ints, List.map_drop]
/-- One piece: what it is, the error, what is left. -/
def next (rest base : List UInt8) (most : Int) : List UInt8 × Int × List UInt8 :=
  if (count rest).2.2 = 0 then
    (if (count rest).1 < 2 ∨ most < (count rest).1 / 2 then ([], 3, rest.drop (count rest).2.1)
     else if (count rest).1 % 2 = 0 then
      ((raw (rest.drop (count rest).2.1) ((count rest).1 / 2)).1, (raw (rest.drop (count rest).2.1) ((count rest).1 / 2)).2.2, (rest.drop (count rest).2.1).drop (raw (rest.drop (count rest).2.1) ((count rest).1 / 2)).2.1)
     else if (count (rest.drop (count rest).2.1)).2.2 = 0 then
      (if (base.length : Int) < (count (rest.drop (count rest).2.1)).1 ∨ (base.length : Int) - (count (rest.drop (count rest).2.1)).1 < (count rest).1 / 2 then ([], 3, (rest.drop (count rest).2.1).drop (count (rest.drop (count rest).2.1)).2.1)
       else ((base.drop (count (rest.drop (count rest).2.1)).1.toNat).take ((count rest).1 / 2).toNat, 0, (rest.drop (count rest).2.1).drop (count (rest.drop (count rest).2.1)).2.1))
     else ([], (count (rest.drop (count rest).2.1)).2.2, (rest.drop (count rest).2.1).drop (count (rest.drop (count rest).2.1)).2.1))
  else ([], (count rest).2.2, rest.drop (count rest).2.1)
theorem count_bound (l : List UInt8) : (count l).1 ≤ 9223372036854775807 := by
  unfold count
  have := num_bound l 0 0
  split
  · split <;> simp <;> omega
  · simp
theorem size_le_of (l : List UInt8) (h : l.length ≤ 140737488355328) : (ofL l).size ≤ 9223372036854775806 := by rw [size_ofL]; omega
theorem ev_next (rest base : List UInt8) (most : Int) (hr : rest.length ≤ 140737488355328) (hb : base.length ≤ 140737488355328) :
    Ev (fun k => delta_next.f k (ofL rest) (ints base) most) (ofL (next rest base most).1, (next rest base most).2.1, ofL (next rest base most).2.2) := by
  unfold delta_next.f next
  refine Ev.bind (ev_Count (ofL rest) (size_le_of rest hr)) ?_
  simp only [toL_ofL]
  have hcn := count_nonneg rest
  have hcb := count_bound rest
  by_cases h : (count rest).2.2 = 0
  · simp only [h, if_true]
    have htd : wrap64 (Int.tdiv (count rest).1 2) = (count rest).1 / 2 := by
      rw [Int.tdiv_eq_ediv_of_nonneg hcn, wrap64_small (by omega) (by omega)]
    have htm : Int.tmod (count rest).1 2 = (count rest).1 % 2 := Int.tmod_eq_emod_of_nonneg hcn
    by_cases h2 : (count rest).1 < 2 ∨ most < (count rest).1 / 2
    · rw [if_pos h2]
      refine Ev.congr (f := fun k => delta_next.j0 k (ints base) (count rest).1 true (ofL (rest.drop (count rest).2.1))) (fun k => ?_) (Ev.step (f := fun _ => some (⟨#[]⟩, 3, ofL (rest.drop (count rest).2.1))) (fun k => ?_) (Ev.now _))
      · by_cases h3 : (count rest).1 < 2
        · rw [if_pos h3]
        · rw [if_neg h3, htd]
          have : decide ((count rest).1 / 2 > most) = true := decide_eq_true (by omega)
          rw [this]
      · simp only [delta_next.j0, if_true]
    · rw [if_neg h2]
      have hf : decide ((count rest).1 / 2 > most) = false := decide_eq_false (by omega)
      refine Ev.congr (f := fun k => delta_next.j0 k (ints base) (count rest).1 false (ofL (rest.drop (count rest).2.1))) (fun k => by rw [if_neg (by omega), htd, hf]) ?_
      by_cases h4 : (count rest).1 % 2 = 0
      · rw [if_pos h4]
        refine Ev.step (f := fun _ => some (ofL (raw (rest.drop (count rest).2.1) ((count rest).1 / 2)).1, (raw (rest.drop (count rest).2.1) ((count rest).1 / 2)).2.2, ofL ((rest.drop (count rest).2.1).drop (raw (rest.drop (count rest).2.1) ((count rest).1 / 2)).2.1))) (fun k => ?_) (Ev.now _)
        simp only [delta_next.j0, Bool.false_eq_true, if_false, htd, htm]
        rw [if_pos h4, raw_eq]
        rfl
      · rw [if_neg h4]
        have hdl : (rest.drop (count rest).2.1).length ≤ 140737488355328 := by rw [List.length_drop]; omega
        have hcn2 := count_nonneg (rest.drop (count rest).2.1)
        have hcb2 := count_bound (rest.drop (count rest).2.1)
        have hc2 := ev_Count (ofL (rest.drop (count rest).2.1)) (size_le_of _ hdl)
        simp only [toL_ofL] at hc2
        generalize rest.drop (count rest).2.1 = r2 at hcn2 hcb2 hc2 ⊢
        refine Ev.step (f := fun k => (six_Reader_Count.f k (ofL r2)).bind fun bt113 => (if bt113.2.1 = 0 then (if bt113.1 > ((ints base).length : Int) then (some ((⟨#[]⟩ : ByteArray), 3, bt113.2.2)) else (if (count rest).1 / 2 > (wrap64 (((ints base).length : Int) - bt113.1)) then (some ((⟨#[]⟩ : ByteArray), 3, bt113.2.2)) else (if 0 ≤ bt113.1 then (if bt113.1 ≤ (wrap64 (bt113.1 + (count rest).1 / 2)) then (if (wrap64 (bt113.1 + (count rest).1 / 2)) ≤ ((ints base).length : Int) then (some (strOfNums (((ints base).take ((wrap64 (bt113.1 + (count rest).1 / 2)) : Int).toNat).drop (bt113.1 : Int).toNat), 0, bt113.2.2)) else (none)) else (none)) else (none)))) else (some ((⟨#[]⟩ : ByteArray), bt113.2.1, bt113.2.2)))) (fun k => ?_) (Ev.bind hc2 (Ev.congr (fun k => ?_) (Ev.now _)))
        · simp only [delta_next.j0, Bool.false_eq_true, if_false, htd, htm]
          rw [if_neg h4]
        · dsimp only
          by_cases h5 : (count r2).2.2 = 0
          · rw [if_pos h5, if_pos h5, ints_length]
            by_cases h6 : (base.length : Int) < (count r2).1
            · rw [if_pos h6, if_pos (.inl h6)]
            · rw [if_neg h6, wrap64_small (by omega) (by omega)]
              by_cases h7 : (base.length : Int) - (count r2).1 < (count rest).1 / 2
              · rw [if_pos h7, if_pos (.inr h7)]
              · rw [if_neg h7, wrap64_small (by omega) (by omega), if_pos hcn2, if_pos (by omega), if_pos (by omega), if_neg (by omega)]
                rw [ints_take, ints_drop, strOf_ints]
                congr 3
                rw [List.drop_take]
                congr 1
                omega
          · rw [if_neg h5, if_neg h5]
  · simp only [h, if_false]
    exact Ev.congr (fun _ => rfl) (Ev.now _)
theorem count_step {l : List UInt8} (h : (count l).2.2 = 0) : 1 ≤ (count l).2.1 := by
  unfold count at h ⊢
  split at h
  · rename_i a
    rw [if_pos a]
    have := num_size l 0 0 a
    split at h
    · simp at h
    · rename_i b
      rw [if_neg b]
      show 1 ≤ (num 0 0 l).size
      omega
  · rename_i a
    exact absurd h a
theorem drop_ofL (P : List UInt8) (n : Nat) : (ofL P).extract n (ofL P).size = ofL (P.drop n) := extract_drop (ofL P) n
theorem count_ref (P : List UInt8) (hP : P.length ≤ 140737488355328) (i : Nat) : Ev (fun k => siloref01_ReadCount.f k (ofL (P.drop i))) ((count (P.drop i)).1, ((count (P.drop i)).2.1 : Int), (count (P.drop i)).2.2) :=
  ev_ReadCount (ofL (P.drop i)) (size_le_of _ (by rw [List.length_drop]; omega))
/-- The program's loop where a piece fails. -/
theorem prog_fail (base out rest : List UInt8) (size : Int) (hs : size ≤ 4096) (hr : rest.length ≤ 140737488355328) (hb : base.length ≤ 140737488355328) (ho : (out.length : Int) < size) (h : (next rest base (size - out.length)).2.1 ≠ 0) :
    Ev (fun k => delta_Apply.l0 k (ints base) size (ints out) (ofL rest)) (ints [], (next rest base (size - out.length)).2.1) := by
  have h1 := ev_next rest base (size - out.length) hr hb
  refine Ev.step (f := fun k => (delta_next.f k (ofL rest) (ints base) (size - out.length)).bind fun bt125 => (if bt125.2.1 = 0 then (if (ints out).length + bt125.1.size < 140737488355328 then (delta_Apply.l0 k (ints base) size ((ints out) ++ bytesOf bt125.1) bt125.2.2) else (none)) else (some (([] : List Int), bt125.2.1)))) (fun k => ?_) (Ev.bind h1 (Ev.congr (fun _ => ?_) (Ev.now _)))
  · simp only [delta_Apply.l0, ints_length]
    rw [if_pos ho, wrap64_small (by omega) (by omega)]
  · dsimp only
    rw [if_neg h]
    rfl
theorem prog_ok (base out rest piece rest2 : List UInt8) (size : Int) (hs : size ≤ 4096) (hr : rest.length ≤ 140737488355328) (hb : base.length ≤ 140737488355328) (ho : (out.length : Int) < size) (hp : piece.length ≤ 4096)
    (h : next rest base (size - out.length) = (piece, 0, rest2)) {r : List Int × Int} (hk : Ev (fun k => delta_Apply.l0 k (ints base) size (ints (out ++ piece)) (ofL rest2)) r) :
    Ev (fun k => delta_Apply.l0 k (ints base) size (ints out) (ofL rest)) r := by
  have h1 := ev_next rest base (size - out.length) hr hb
  rw [h] at h1
  refine Ev.step (f := fun k => (delta_next.f k (ofL rest) (ints base) (size - out.length)).bind fun bt125 => (if bt125.2.1 = 0 then (if (ints out).length + bt125.1.size < 140737488355328 then (delta_Apply.l0 k (ints base) size ((ints out) ++ bytesOf bt125.1) bt125.2.2) else (none)) else (some (([] : List Int), bt125.2.1)))) (fun k => ?_) (Ev.bind h1 (Ev.congr (fun _ => ?_) hk))
  · simp only [delta_Apply.l0, ints_length]
    rw [if_pos ho, wrap64_small (by omega) (by omega)]
  · have e : (ofL piece).size = piece.length := size_ofL piece
    simp only [if_true]
    rw [if_pos (by rw [ints_length, e]; omega), bytesOf_ofL, ints_append]
end Go.Proofs.Ytmeikcifobfolaa.DeltaEv
