/- DeltaApplies, over lists: the program's answer is the reference's, and what is done to the answer leaves the base as it was. -/
import Derived.Test.YtmeikcifobfolaaPDeltaAppliesx
import Derived.Test.YtmeikcifobfolaaDeltaBoth
namespace Go.Proofs.Ytmeikcifobfolaa.Pure
open Go Go.RowKit Go.Proofs.YtmeikcifobfolaaW.PrintWords Go.Proofs.YtmeikcifobfolaaW.PrintLast Go.Proofs.Ytmeikcifobfolaa.PBase Go.Proofs.Ytmeikcifobfolaa.PDeltaApplies Go.Proofs.Ytmeikcifobfolaa.Base Go.Proofs.Ytmeikcifobfolaa.SixFn Go.Proofs.Ytmeikcifobfolaa.SixEv Go.Proofs.Ytmeikcifobfolaa.DeltaEv

theorem applies (base P : List UInt8) (hb : base.length ≤ 140737488351232) (hP : P.length ≤ 140737488351232) :
    ∃ r e, Ev (fun k => delta_Apply.f k (ints base) (ofL P)) (ints r, e) ∧ Ev (fun k => siloref19_Apply.f k (ofL base) (ofL P)) (ofL r, e) ∧ (e ≠ 0 → r = []) ∧ r.length ≤ 4096 := by
  have hs : (ofL P).size ≤ 9223372036854775806 := by rw [size_ofL P]; omega
  have h1 := ev_Count (ofL P) hs
  have h2 := ev_ReadCount (ofL P) hs
  simp only [toL_ofL] at h1 h2
  have hcn := count_nonneg P
  have hcz := count_size P
  unfold delta_Apply.f siloref19_Apply.f six_Over.f
  simp only [Option.bind_some]
  by_cases he : (count P).2.2 = 0
  · by_cases hn : (count P).1 > 4096
    · refine ⟨[], 6, Ev.bind h1 (Ev.congr (fun k => ?_) (Ev.now _)), Ev.bind h2 (Ev.congr (fun k => ?_) (Ev.now _)), fun _ => rfl, by simp⟩
      · dsimp only
        rw [if_pos he, if_pos hn]
        rfl
      · dsimp only
        rw [if_pos he, if_pos hn]
    · obtain ⟨r, e, q1, q2, q3, q4⟩ := both base P (count P).1 (by omega) hb hP (P.length + 1) (count P).2.1 [] (by omega) hcz (by simp)
      refine ⟨r, e, Ev.bind h1 (Ev.congr (fun k => ?_) q1), Ev.bind h2 (Ev.congr (fun k => ?_) q2), q3, q4⟩
      · dsimp only
        rw [if_pos he, if_neg hn, if_pos hcn, if_pos (by omega)]
        rfl
      · dsimp only
        rw [if_pos he, if_neg hn]
  · refine ⟨[], (count P).2.2, Ev.bind h1 (Ev.congr (fun k => ?_) (Ev.now _)), Ev.bind h2 (Ev.congr (fun k => ?_) (Ev.now _)), fun _ => rfl, by simp⟩
    · dsimp only
      rw [if_neg he]
      rfl
    · dsimp only
      rw [if_neg he]
theorem spoil (x0 : List Int) (d : Nat) : ∀ (l : List Int) (j : Nat), l.length ≤ 4096 → j ≤ l.length → l.length < j + d → Ev (fun k => silolaw19_DeltaApplies.l0 k x0 x0 l (j : Int)) true := by
  induction d with
  | zero => intro l j _ _ h; omega
  | succ d ih =>
    intro l j hl hj hd
    by_cases h : j < l.length
    · refine Ev.step (f := fun k => silolaw19_DeltaApplies.l0 k x0 x0 (l.set j (((rd l (j : Int)) + 1) % 256)) ((j + 1 : Nat) : Int)) (fun k => ?_) (ih _ (j + 1) (by rw [List.length_set]; omega) (by rw [List.length_set]; omega) (by rw [List.length_set]; omega))
      simp only [silolaw19_DeltaApplies.l0]
      rw [if_pos (by omega), if_pos (by omega), wrap64_small (by omega) (by omega), Int.toNat_natCast]
      rfl
    · refine Ev.step (f := fun _ => some true) (fun k => ?_) (Ev.now _)
      simp only [silolaw19_DeltaApplies.l0]
      rw [if_neg (by omega)]
      simp
theorem ofWf (l : List Int) (h : ∀ x ∈ l, (Lit.int .u8 x).wf = true) : ∃ bl, l = ints bl := by
  refine ⟨l.map fun n => UInt8.ofNat n.toNat, ?_⟩
  unfold ints
  rw [List.map_map]
  symm
  conv => rhs; rw [← List.map_id l]
  apply List.map_congr_left
  intro x hx
  have hw : 0 ≤ x ∧ x < 256 := by
    have hu := h x hx
    have : IntKind.u8.min ≤ x ∧ x ≤ IntKind.u8.max := by simpa [Lit.wf] using hu
    have h1 : IntKind.u8.min = 0 := by decide
    have h2 : IntKind.u8.max = 255 := by decide
    omega
  show ((UInt8.ofNat x.toNat).toNat : Int) = x
  rw [UInt8.toNat_ofNat']
  omega
theorem j1 (x0 r : List Int) (hr : r.length ≤ 4096) : Ev (fun k => silolaw19_DeltaApplies.j1 k x0 x0 r false) true := by
  refine Ev.step (f := fun k => silolaw19_DeltaApplies.l0 k x0 x0 r ((0 : Nat) : Int)) (fun k => ?_) (spoil x0 (r.length + 1) r 0 hr (by omega) (by omega))
  simp only [silolaw19_DeltaApplies.j1, Bool.false_eq_true, if_false]
  rfl
theorem DeltaApplies (l0 : List Int) (a1 : ByteArray) (_ : l0.length ≤ maxLen) (hl : l0.length * 1 ≤ 140737488351232) (hw : ∀ x ∈ l0, (Lit.int .u8 x).wf = true) (ha : a1.size ≤ 140737488351232) : ∃ k, silolaw19_DeltaApplies.f k l0 a1 = some true := by
  obtain ⟨base, rfl⟩ := ofWf l0 hw
  obtain ⟨P, rfl⟩ : ∃ P, a1 = ofL P := ⟨toL a1, rfl⟩
  rw [ints_length] at hl
  have hPs : (ofL P).size = P.length := size_ofL P
  rw [hPs] at ha
  apply Ev.rounds
  have hT : ∀ k, silolaw19_DeltaApplies.j0 (k + 1) (ints base) (ofL P) true = some true := by
    intro k
    simp only [silolaw19_DeltaApplies.j0, if_true]
    rfl
  have hTT : Ev (fun k => silolaw19_DeltaApplies.j0 k (ints base) (ofL P) true) true := Ev.step (f := fun _ => some true) hT (Ev.now _)
  unfold silolaw19_DeltaApplies.f silolaw19_awake.f
  simp only [Option.bind_some, if_true]
  by_cases h1 : ((ints base).length : Int) > 9000
  · exact Ev.congr (fun k => if_pos h1) hTT
  · by_cases h2 : ((ofL P).size : Int) > 9000
    · exact Ev.congr (fun k => by rw [if_neg h1, show decide (((ofL P).size : Int) > 9000) = true from decide_eq_true h2]) hTT
    · obtain ⟨r, e, q1, q2, q3, q4⟩ := applies base P (by omega) ha
      have hrl : (ints r).length ≤ 4096 := by rw [ints_length]; exact q4
      refine Ev.congr (f := fun k => silolaw19_DeltaApplies.j0 k (ints base) (ofL P) false) (fun k => by rw [if_neg h1, show decide (((ofL P).size : Int) > 9000) = false from decide_eq_false h2]) ?_
      refine Ev.step (f := fun k => (delta_Apply.f k (ints base) (ofL P)).bind fun bt153 => ((siloref19_Apply.f k (ofL base) (ofL P)).bind fun bt157 => (if (strOfNums bt153.1).toList = bt157.1.toList then (if bt153.2 = bt157.2 then (if bt153.2 = 0 then (silolaw19_DeltaApplies.j1 k (ints base) (ints base) bt153.1 false) else (silolaw19_DeltaApplies.j1 k (ints base) (ints base) bt153.1 ((bt153.1.length : Int) != 0))) else (silolaw19_DeltaApplies.j1 k (ints base) (ints base) bt153.1 true)) else (silolaw19_DeltaApplies.j1 k (ints base) (ints base) bt153.1 true)))) (fun k => ?_) (Ev.bind q1 (Ev.bind q2 ?_))
      · simp only [silolaw19_DeltaApplies.j0, Bool.false_eq_true, if_false, Option.bind_some, List.nil_append, List.length_nil, strOf_ints]
        rw [if_pos (by rw [ints_length]; omega)]
      · refine Ev.congr (f := fun k => silolaw19_DeltaApplies.j1 k (ints base) (ints base) (ints r) false) (fun k => ?_) (j1 _ _ hrl)
        dsimp only
        rw [strOf_ints, if_pos rfl, if_pos rfl]
        by_cases he : e = 0
        · rw [if_pos he]
        · rw [if_neg he, q3 he]
          rfl
end Go.Proofs.Ytmeikcifobfolaa.Pure
