/- SixReads, over lists: a reader over any bytes, by any calls, answers what the reference says, and stands where it says; no condition beyond the sizes that every input has. -/
import Derived.Test.YtfbmgiflckdalaaPSixReadsx1
import Derived.Test.YtfbmgiflckdalaaSixEv
namespace Go.Proofs.Ytfbmgiflckdalaa.Pure
open Go Go.RowKit Go.Proofs.Ytfbmgiflckdalaa.PSix Go.Proofs.Ytfbmgiflckdalaa.PSixReads Go.Proofs.YtfbmgiflckdalaaW.PrintWords Go.Proofs.YtfbmgiflckdalaaW.PrintLast Go.Proofs.Ytfbmgiflckdalaa.Base Go.Proofs.Ytfbmgiflckdalaa.SixFn Go.Proofs.Ytfbmgiflckdalaa.SixEv

theorem went_j0 (s : ByteArray) (v : Int) (z : Nat) (e : Int) (x : ByteArray) (hz : z ≤ s.size) :
    Ev (fun k => silolaw01_went.j0 k s v v (z : Int) e x x e (ofL ((toL s).drop z))) (true, ofL ((toL s).drop z)) := by
  refine Ev.step (f := fun _ => some (true, ofL ((toL s).drop z))) (fun k => ?_) (Ev.now _)
  simp only [silolaw01_went.j0, if_true]
  unfold six_Reader_Rest.f
  simp only [Option.bind_some]
  rw [if_pos (by omega), if_pos (by omega), Int.toNat_natCast, extract_drop]
  simp
/-- A call: the answer may be, and what is left is an end of what there was. -/
theorem went (s : ByteArray) (hs : s.size ≤ 9223372036854775806) (kind n : Int) : ∃ z, z ≤ s.size ∧ Ev (fun k => silolaw01_went.f k s kind n) (true, ofL ((toL s).drop z)) := by
  have hsz := size_eq s
  unfold silolaw01_went.f six_Reader_Rest.f
  simp only [Option.bind_some]
  by_cases h0 : Int.tmod kind 4 = 0
  · have hz := count_size (toL s)
    refine ⟨(count (toL s)).2.1, by omega, Ev.congr (fun k => if_pos h0) (Ev.bind (ev_Count s hs) (Ev.bind (ev_ReadCount s hs) ?_))⟩
    exact went_j0 s _ _ _ _ (by omega)
  · by_cases h1 : Int.tmod kind 4 = 1
    · have hz := whole_size (toL s)
      refine ⟨(whole (toL s)).2.1, by omega, Ev.congr (fun k => by rw [if_neg h0, if_pos h1]) (Ev.bind (ev_Whole s hs) (Ev.bind (ev_ReadWhole s hs) ?_))⟩
      exact went_j0 s _ _ _ _ (by omega)
    · by_cases h2 : Int.tmod kind 4 = 2
      · have hz := text_size (toL s)
        refine ⟨(text (toL s)).2.1, by omega, Ev.congr (fun k => by rw [if_neg h0, if_neg h1, if_pos h2]) (Ev.bind (ev_Text s hs) (Ev.bind (ev_ReadText s hs) ?_))⟩
        exact went_j0 s _ _ _ _ (by omega)
      · have hz := raw_size (toL s) n
        refine ⟨(raw (toL s) n).2.1, by omega, Ev.congr (f := fun k => silolaw01_went.j0 k s 0 0 ((raw (toL s) n).2.1 : Int) (raw (toL s) n).2.2 (ofL (raw (toL s) n).1) (ofL (raw (toL s) n).1) (raw (toL s) n).2.2 (ofL ((toL s).drop (raw (toL s) n).2.1))) (fun k => ?_) (went_j0 s _ _ _ _ (by omega))⟩
        rw [if_neg h0, if_neg h1, if_neg h2, raw_eq, ref_raw_eq]
        rfl
theorem reads_end (ks : List Int) (n : Int) (j : Nat) (s : ByteArray) : Ev (fun k => silolaw01_SixReads.j2 k ks n (j : Int) false s) true := by
  refine Ev.step (f := fun _ => some true) (fun k => ?_) (Ev.now _)
  simp only [silolaw01_SixReads.j2, Bool.false_eq_true, if_false]
  unfold six_Reader_Rest.f
  rw [end_eq]
  simp only [Option.bind_some, toList_eq]
  by_cases h : toL s = []
  · have e : (toL s == ([] : List UInt8)) = true := beq_iff_eq.2 h
    simp only [if_pos h, e]
    rfl
  · have e : (toL s == ([] : List UInt8)) = false := beq_eq_false_iff_ne.2 h
    simp only [if_neg h, e]
    rfl
theorem reads_l0 (ks : List Int) (n : Int) (d : Nat) : ∀ (j : Nat) (s : ByteArray), j + d = ks.length → s.size ≤ 9223372036854775806 →
    Ev (fun k => silolaw01_SixReads.l0 k ks n (j : Int) s) true := by
  induction d with
  | zero =>
    intro j s hj hs
    exact Ev.step (f := fun k => silolaw01_SixReads.j2 k ks n (j : Int) false s) (fun k => by simp only [silolaw01_SixReads.l0]; rw [if_neg (by omega)]) (reads_end ks n j s)
  | succ d ih =>
    intro j s hj hs
    by_cases h3 : (j : Int) < 300
    · have e : decide ((j : Int) < 300) = true := decide_eq_true h3
      refine Ev.step (f := fun k => silolaw01_SixReads.j2 k ks n (j : Int) true s) (fun k => by simp only [silolaw01_SixReads.l0]; rw [if_pos (by omega), e]) ?_
      obtain ⟨z, hz, hw⟩ := went s hs (wrap64 (rd ks j)) n
      refine Ev.step (f := fun k => (silolaw01_went.f k s (wrap64 (rd ks j)) n).bind fun b => if b.1 = true then silolaw01_SixReads.l0 k ks n ((j + 1 : Nat) : Int) b.2 else some false) (fun k => ?_) (Ev.bind hw ?_)
      · simp only [silolaw01_SixReads.j2, if_true]
        rw [if_pos (by omega), if_pos (by omega), wrap64_small (x := (j : Int) + 1) (by omega) (by omega)]
        rfl
      · simp only [if_true]
        refine ih (j + 1) _ (by omega) ?_
        rw [size_ofL, List.length_drop, ← size_eq]
        omega
    · have e : decide ((j : Int) < 300) = false := decide_eq_false h3
      exact Ev.step (f := fun k => silolaw01_SixReads.j2 k ks n (j : Int) false s) (fun k => by simp only [silolaw01_SixReads.l0]; rw [if_pos (by omega), e]) (reads_end ks n j s)
theorem SixReads : silolaw01_SixReads.Pure := by
  intro s ks n hs hl hl2 hw hn
  apply Ev.rounds
  unfold silolaw01_SixReads.f silolaw01_awake.f six_Over.f six_Reader_Rest.f
  simp only [Option.bind_some, if_true]
  refine Ev.step (f := fun k => silolaw01_SixReads.l0 k ks n ((0 : Nat) : Int) s) (fun k => ?_) (reads_l0 ks n ks.length 0 s (by omega) (by omega))
  simp only [silolaw01_SixReads.j0]
  rw [if_neg (by simp)]
  rfl
end Go.Proofs.Ytfbmgiflckdalaa.Pure
