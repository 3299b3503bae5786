/- The walks of Open's closure and of TakeList over entries. -/
import Derived.Test.YtfjnjnkmkbbjoaaBlkEntry
namespace Go.Proofs.Ytfjnjnkmkbbjoaa.Blk
open Go Go.RowKit Go.Proofs.Ytfjnjnkmkbbjoaa.Eng Go.Proofs.Ytfjnjnkmkbbjoaa.Six
set_option linter.unusedVariables false
set_option maxRecDepth 100000
/-- Behind the entries xs: the next one, its bytes, the error. -/
def notUp (xs : List Ent) (k : List UInt8) : Bool := !decide (xs = []) && (sLt (ofL k) (ofL (lastK xs)) || decide (ofL k = ofL (lastK xs)))
def stepE (xs : List Ent) (l : List UInt8) : Ent × Nat × Int :=
  if (entry (lastK xs) l).2.2 = 0 ∧ notUp xs (entry (lastK xs) l).1.key = true then ((entry (lastK xs) l).1, (entry (lastK xs) l).2.1, 3) else entry (lastK xs) l
def takeE : Nat → List Ent → Nat → List UInt8 → List Ent × Nat × Int
  | 0, xs, k, _ => (xs, k, 0)
  | m + 1, xs, k, l => if l = [] then ([], 0, 2) else if (stepE xs l).2.2 = 0 then takeE m (xs ++ [(stepE xs l).1]) (k + (stepE xs l).2.1) (l.drop (stepE xs l).2.1) else ([], 0, (stepE xs l).2.2)
theorem stepE_zero {xs : List Ent} {l : List UInt8} (h : (stepE xs l).2.2 = 0) : stepE xs l = entry (lastK xs) l ∧ (entry (lastK xs) l).2.2 = 0 ∧ notUp xs (entry (lastK xs) l).1.key = false := by
  unfold stepE at *
  split at h
  · cases h
  · rename_i h1
    rw [if_neg h1]
    refine ⟨rfl, h, ?_⟩
    cases hb : notUp xs (entry (lastK xs) l).1.key
    · rfl
    · exact absurd ⟨h, hb⟩ h1
theorem stepE_e (xs : List Ent) (l : List UInt8) : (stepE xs l).1 = (entry (lastK xs) l).1 ∧ (stepE xs l).2.1 = (entry (lastK xs) l).2.1 := by
  unfold stepE; split <;> exact ⟨rfl, rfl⟩
theorem stepE_pos {xs : List Ent} {l : List UInt8} (h : (stepE xs l).2.2 = 0) : 1 ≤ (stepE xs l).2.1 ∧ (stepE xs l).2.1 ≤ l.length ∧ (stepE xs l).1.key.length ≤ 65536 := by
  obtain ⟨h1, h2, h3⟩ := stepE_zero h
  rw [h1]
  obtain ⟨e1, e2, e3, _⟩ := entry_canon h2
  refine ⟨?_, e1, e3⟩
  have hp := enc_pos 64 (shareN (lastK xs) (entry (lastK xs) l).1.key)
  have hlen := congrArg List.length e2
  rw [List.length_take] at hlen
  unfold packE at hlen
  rw [List.length_append] at hlen
  omega
set_option maxHeartbeats 4000000 in
theorem take1_c (s : ByteArray) (hz : s.size ≤ 1099511627776) (xs : List Ent) (hla : (lastK xs).length ≤ 65536) (b bl bf : Nat) (w0 w : World) (R : List HP) (hs : Eng.Sep w0 w (rdr b s :: blk bl [sV (ofL (lastK xs))] 9 :: blk bf [bV (decide (xs = []))] 4 :: R)) :
    Calls Try.prog 36 #[at_ b, at_ bl, at_ bf] w fun e w' => e = .returned (.tuple #[.agg (entC (stepE xs (toL s)).1).toArray, iV (stepE xs (toL s)).2.2]) ∧ ∃ s', ((stepE xs (toL s)).2.2 = 0 → s' = cut s (stepE xs (toL s)).2.1) ∧ Eng.Sep w0 w' (rdr b s' :: blk bl [sV (ofL (stepE xs (toL s)).1.key)] 9 :: blk bf [bV false] 4 :: R) := by
  have hse := stepE_e xs (toL s)
  have hst : (stepE xs (toL s)).2.2 = if (entry (lastK xs) (toL s)).2.2 = 0 ∧ notUp xs (entry (lastK xs) (toL s)).1.key = true then 3 else (entry (lastK xs) (toL s)).2.2 := by unfold stepE; split <;> rfl
  refine enter (P := Try.prog) Try.func36 rfl rfl ?_
  refine c_rseq ?_
  refine l_alloc hs I44 ?_
  intro b4 w4 hs hB4 hlt4
  refine l_v (by first | exact (r_assign (v := iV _) rfl) | exact (r_assign rfl)) ?_
  refine l_nil (nrm_then ?_)
  refine c_rseq ?_
  refine l_v (r_move (v := .pointer _) rfl) ?_
  refine l_v (by first | exact (r_load_at (i := 0) hs rfl Try.underlying9 rfl rfl) | exact (r_load_at (i := 1) hs rfl Try.underlying9 rfl rfl) | exact (r_load_at (i := 2) hs rfl Try.underlying9 rfl rfl) | exact (r_load_at (i := 3) hs rfl Try.underlying9 rfl rfl) | exact (r_load_at (i := 4) hs rfl Try.underlying9 rfl rfl) | exact (r_load_at (i := 5) hs rfl Try.underlying9 rfl rfl) | exact (r_load_at (i := 6) hs rfl Try.underlying9 rfl rfl)) ?_
  refine l_call (r_call Try.func37 rfl rfl) ?_
  refine Calls.mono (entry_c s hz (lastK xs) hla b w0 _ _ (hs.pull 1)) ?_
  rintro e w_ ⟨rfl, s', hs', hs⟩
  refine ⟨_, rfl, ?_⟩
  generalize stepE xs (toL s) = T at *
  generalize entry (lastK xs) (toL s) = E at *
  obtain ⟨x, n, e⟩ := E
  obtain ⟨hx1, hx2⟩ := hse
  rw [hx1, hx2, hst]
  dsimp only at hs' ⊢
  clear hst hx1 hx2
  have hone := ent_one x
  have hel : (entC x).length = 3 := rfl
  refine l_v (r_move rfl) ?_
  refine l_v (r_extract rfl rfl) ?_
  refine l_v (r_extract rfl rfl) ?_
  refine l_alloc hs I44 ?_
  intro b6 w6 hs hB6 hlt6
  first | refine l_store_whole (i := 0) hs rfl I44 rfl rfl (by first | assumption | (simp; done)) (by first | assumption | (simp; done)) (by first | assumption | simp [Value.oneCell']) ?_ | refine l_store_whole (i := 1) hs rfl I44 rfl rfl (by first | assumption | (simp; done)) (by first | assumption | (simp; done)) (by first | assumption | simp [Value.oneCell']) ?_ | refine l_store_whole (i := 2) hs rfl I44 rfl rfl (by first | assumption | (simp; done)) (by first | assumption | (simp; done)) (by first | assumption | simp [Value.oneCell']) ?_ | refine l_store_whole (i := 3) hs rfl I44 rfl rfl (by first | assumption | (simp; done)) (by first | assumption | (simp; done)) (by first | assumption | simp [Value.oneCell']) ?_ | refine l_store_whole (i := 4) hs rfl I44 rfl rfl (by first | assumption | (simp; done)) (by first | assumption | (simp; done)) (by first | assumption | simp [Value.oneCell']) ?_ | refine l_store_whole (i := 5) hs rfl I44 rfl rfl (by first | assumption | (simp; done)) (by first | assumption | (simp; done)) (by first | assumption | simp [Value.oneCell']) ?_ | refine l_store_whole (i := 6) hs rfl I44 rfl rfl (by first | assumption | (simp; done)) (by first | assumption | (simp; done)) (by first | assumption | simp [Value.oneCell']) ?_
  intro w_ hs
  refine l_v (by first | exact (r_assign (v := iV _) rfl) | exact (r_assign rfl)) ?_
  refine l_nil (nrm_then ?_)
  refine c_seq ?_
  refine c_seq ?_
  have hs : Eng.Sep w0 w_ (blk b6 (entC x) 44 :: rdr b s' :: blk b4 (entC entZ) 44 :: blk bl [sV (ofL (lastK xs))] 9 :: blk bf [bV (decide (xs = []))] 4 :: R) := hs
  refine c_mid [1, 2, 4, 5, 6, 7] (fun f' w' => w' = w_ ∧ f' 25 = bV (decide (e = 0) && notUp xs x.key)) ?_ ?_
  · refine c_region ?_
    refine l_v (by first | exact (r_move (v := iV _) rfl) | exact (r_move rfl)) ?_
    refine l_v (r_eqli rfl rfl) ?_
    by_cases he : e = 0
    · have f1 : decide (e = 0) = true := decide_eq_true he
      rcases Bool.eq_false_or_eq_true (!decide (xs = [])) with hq | hq
      · refine l_v (by first | exact (r_move (v := bV _) rfl) | exact (r_move rfl)) ?_
        refine l_vg (by first | exact (r_load_at (i := 0) hs rfl Try.underlying4 rfl rfl) | exact (r_load_at (i := 1) hs rfl Try.underlying4 rfl rfl) | exact (r_load_at (i := 2) hs rfl Try.underlying4 rfl rfl) | exact (r_load_at (i := 3) hs rfl Try.underlying4 rfl rfl) | exact (r_load_at (i := 4) hs rfl Try.underlying4 rfl rfl) | exact (r_load_at (i := 5) hs rfl Try.underlying4 rfl rfl) | exact (r_load_at (i := 6) hs rfl Try.underlying4 rfl rfl)) rfl (f1) ?_
        refine l_vg (r_not rfl) rfl (f1) ?_
        refine l_vg (by first | exact (r_move (v := bV _) rfl) | exact (r_move rfl)) rfl (f1) ?_
        refine l_vg (by first | exact (r_fieldAddr0 (off := 0) (T := 9) (by kernel_rfl) rfl) | exact (r_fieldAddr (off := 0) (T := 9) (by kernel_rfl) rfl)) rfl (hq) ?_
        refine l_vg (by first | exact (r_load_at (i := 0) hs rfl Try.underlying9 rfl rfl) | exact (r_load_at (i := 1) hs rfl Try.underlying9 rfl rfl) | exact (r_load_at (i := 2) hs rfl Try.underlying9 rfl rfl) | exact (r_load_at (i := 3) hs rfl Try.underlying9 rfl rfl) | exact (r_load_at (i := 4) hs rfl Try.underlying9 rfl rfl) | exact (r_load_at (i := 5) hs rfl Try.underlying9 rfl rfl) | exact (r_load_at (i := 6) hs rfl Try.underlying9 rfl rfl)) rfl (hq) ?_
        refine l_vg (by first | exact (r_load_at (i := 0) hs rfl Try.underlying9 rfl rfl) | exact (r_load_at (i := 1) hs rfl Try.underlying9 rfl rfl) | exact (r_load_at (i := 2) hs rfl Try.underlying9 rfl rfl) | exact (r_load_at (i := 3) hs rfl Try.underlying9 rfl rfl) | exact (r_load_at (i := 4) hs rfl Try.underlying9 rfl rfl) | exact (r_load_at (i := 5) hs rfl Try.underlying9 rfl rfl) | exact (r_load_at (i := 6) hs rfl Try.underlying9 rfl rfl)) rfl (hq) ?_
        refine l_vg (r_leqs rfl rfl) rfl (hq) ?_
        refine l_vg (r_pick_t rfl hq rfl) rfl (f1) ?_
        refine l_v (r_pick_t rfl f1 rfl) ?_
        refine l_nil (nrm_then ?_)
        refine And.intro (by refine ⟨?_, ?_, ?_, ?_, ?_, ?_, trivial⟩ <;> ((conv => lhs; whnf); (try conv => rhs; whnf))) ?_
        exact ⟨rfl, congrArg bV (by unfold notUp; rw [f1, hq, Bool.true_and, Bool.true_and])⟩
      · skip
        refine l_v (by first | exact (r_move (v := bV _) rfl) | exact (r_move rfl)) ?_
        refine l_vg (by first | exact (r_load_at (i := 0) hs rfl Try.underlying4 rfl rfl) | exact (r_load_at (i := 1) hs rfl Try.underlying4 rfl rfl) | exact (r_load_at (i := 2) hs rfl Try.underlying4 rfl rfl) | exact (r_load_at (i := 3) hs rfl Try.underlying4 rfl rfl) | exact (r_load_at (i := 4) hs rfl Try.underlying4 rfl rfl) | exact (r_load_at (i := 5) hs rfl Try.underlying4 rfl rfl) | exact (r_load_at (i := 6) hs rfl Try.underlying4 rfl rfl)) rfl (f1) ?_
        refine l_vg (r_not rfl) rfl (f1) ?_
        refine l_vg (by first | exact (r_move (v := bV _) rfl) | exact (r_move rfl)) rfl (f1) ?_
        refine l_no rfl (hq) ?_
        refine l_no rfl (hq) ?_
        refine l_no rfl (hq) ?_
        refine l_no rfl (hq) ?_
        refine l_vg (r_pick_f rfl hq rfl) rfl (f1) ?_
        refine l_v (r_pick_t rfl f1 rfl) ?_
        refine l_nil (nrm_then ?_)
        refine And.intro (by refine ⟨?_, ?_, ?_, ?_, ?_, ?_, trivial⟩ <;> ((conv => lhs; whnf); (try conv => rhs; whnf))) ?_
        exact ⟨rfl, congrArg bV (by unfold notUp; rw [f1, hq, Bool.true_and, Bool.false_and])⟩
    · have f1 : decide (e = 0) = false := decide_eq_false he
      refine l_v (by first | exact (r_move (v := bV _) rfl) | exact (r_move rfl)) ?_
      refine l_no rfl (f1) ?_
      refine l_no rfl (f1) ?_
      refine l_no rfl (f1) ?_
      refine l_skip (.inr rfl) ?_
      refine l_skip (.inr rfl) ?_
      refine l_skip (.inr rfl) ?_
      refine l_skip (.inr rfl) ?_
      refine l_no rfl (f1) ?_
      refine l_v (r_pick_f rfl f1 rfl) ?_
      refine l_nil (nrm_then ?_)
      refine And.intro (by refine ⟨?_, ?_, ?_, ?_, ?_, ?_, trivial⟩ <;> ((conv => lhs; whnf); (try conv => rhs; whnf))) ?_
      exact ⟨rfl, congrArg bV (by rw [f1, Bool.false_and])⟩
  · rintro g w_ ⟨rfl, h25⟩
    show OkC _ _ _ _ _ _
    refine OkC.env ?_ (fixH (L := [(25, _)]) ⟨h25, trivial⟩)
    clear h25
    rcases Bool.eq_false_or_eq_true (decide (e = 0) && notUp xs x.key) with hq | hq
    · obtain ⟨he, hu⟩ : e = 0 ∧ notUp xs x.key = true := by rw [Bool.and_eq_true] at hq; exact ⟨of_decide_eq_true hq.1, hq.2⟩
      rw [if_pos ⟨he, hu⟩]
      refine c_true rfl (hq) ?_
      refine c_region ?_
      refine l_v (by first | exact (r_assign (v := iV _) rfl) | exact (r_assign rfl)) ?_
      refine l_nil (nrm_then ?_)
      refine c_rseq ?_
      refine l_v (by first | exact (r_fieldAddr0 (off := 0) (T := 9) (by kernel_rfl) rfl) | exact (r_fieldAddr (off := 0) (T := 9) (by kernel_rfl) rfl)) ?_
      refine l_v (by first | exact (r_load_at (i := 0) hs rfl Try.underlying9 rfl rfl) | exact (r_load_at (i := 1) hs rfl Try.underlying9 rfl rfl) | exact (r_load_at (i := 2) hs rfl Try.underlying9 rfl rfl) | exact (r_load_at (i := 3) hs rfl Try.underlying9 rfl rfl) | exact (r_load_at (i := 4) hs rfl Try.underlying9 rfl rfl) | exact (r_load_at (i := 5) hs rfl Try.underlying9 rfl rfl) | exact (r_load_at (i := 6) hs rfl Try.underlying9 rfl rfl)) ?_
      first | refine l_store (i := 0) (v := sV _) hs rfl I9 rfl rfl (by first | (simp; done) | (simp; omega) | omega) ?_ | refine l_store (i := 1) (v := sV _) hs rfl I9 rfl rfl (by first | (simp; done) | (simp; omega) | omega) ?_ | refine l_store (i := 2) (v := sV _) hs rfl I9 rfl rfl (by first | (simp; done) | (simp; omega) | omega) ?_ | refine l_store (i := 3) (v := sV _) hs rfl I9 rfl rfl (by first | (simp; done) | (simp; omega) | omega) ?_ | refine l_store (i := 4) (v := sV _) hs rfl I9 rfl rfl (by first | (simp; done) | (simp; omega) | omega) ?_ | refine l_store (i := 5) (v := sV _) hs rfl I9 rfl rfl (by first | (simp; done) | (simp; omega) | omega) ?_ | refine l_store (i := 6) (v := sV _) hs rfl I9 rfl rfl (by first | (simp; done) | (simp; omega) | omega) ?_
      intro w_ hs
      first | refine l_store (i := 0) (v := bV _) hs rfl I4 rfl rfl (by first | (simp; done) | (simp; omega) | omega) ?_ | refine l_store (i := 1) (v := bV _) hs rfl I4 rfl rfl (by first | (simp; done) | (simp; omega) | omega) ?_ | refine l_store (i := 2) (v := bV _) hs rfl I4 rfl rfl (by first | (simp; done) | (simp; omega) | omega) ?_ | refine l_store (i := 3) (v := bV _) hs rfl I4 rfl rfl (by first | (simp; done) | (simp; omega) | omega) ?_ | refine l_store (i := 4) (v := bV _) hs rfl I4 rfl rfl (by first | (simp; done) | (simp; omega) | omega) ?_ | refine l_store (i := 5) (v := bV _) hs rfl I4 rfl rfl (by first | (simp; done) | (simp; omega) | omega) ?_ | refine l_store (i := 6) (v := bV _) hs rfl I4 rfl rfl (by first | (simp; done) | (simp; omega) | omega) ?_
      intro w_ hs
      refine l_nil (nrm_then ?_)
      refine c_rseq ?_
      refine l_v (r_load_whole (i := 0) hs rfl Try.underlying44 I44 rfl rfl) ?_
      refine l_v (by first | exact (r_move (v := iV _) rfl) | exact (r_move rfl)) ?_
      first | refine l_store_whole (i := 0) hs rfl I44 rfl rfl (by first | assumption | (simp; done)) (by first | assumption | (simp; done)) (by first | assumption | simp [Value.oneCell']) ?_ | refine l_store_whole (i := 1) hs rfl I44 rfl rfl (by first | assumption | (simp; done)) (by first | assumption | (simp; done)) (by first | assumption | simp [Value.oneCell']) ?_ | refine l_store_whole (i := 2) hs rfl I44 rfl rfl (by first | assumption | (simp; done)) (by first | assumption | (simp; done)) (by first | assumption | simp [Value.oneCell']) ?_ | refine l_store_whole (i := 3) hs rfl I44 rfl rfl (by first | assumption | (simp; done)) (by first | assumption | (simp; done)) (by first | assumption | simp [Value.oneCell']) ?_ | refine l_store_whole (i := 4) hs rfl I44 rfl rfl (by first | assumption | (simp; done)) (by first | assumption | (simp; done)) (by first | assumption | simp [Value.oneCell']) ?_ | refine l_store_whole (i := 5) hs rfl I44 rfl rfl (by first | assumption | (simp; done)) (by first | assumption | (simp; done)) (by first | assumption | simp [Value.oneCell']) ?_ | refine l_store_whole (i := 6) hs rfl I44 rfl rfl (by first | assumption | (simp; done)) (by first | assumption | (simp; done)) (by first | assumption | simp [Value.oneCell']) ?_
      intro w_ hs
      refine l_v (by first | exact (r_assign (v := iV _) rfl) | exact (r_assign rfl)) ?_
      refine l_nil (nrm_then ?_)
      refine c_ret ?_
      show Fin _ _ _ _ _
      refine fin2c rfl rfl (run_loadVar_agg Try.underlying44 rfl I44 hel (cells_whole (hs.at_ 2).1)) ?_
      exact ⟨rfl, s', (fun h => by cases h), hs.drop.pull 1 |>.drop⟩
    · have hne : ¬ (e = 0 ∧ notUp xs x.key = true) := fun h => by rw [decide_eq_true h.1, h.2] at hq; cases hq
      rw [if_neg hne]
      refine c_false rfl (hq) ?_
      refine c_skip (nrm_then ?_)
      refine c_rseq ?_
      refine l_v (by first | exact (r_fieldAddr0 (off := 0) (T := 9) (by kernel_rfl) rfl) | exact (r_fieldAddr (off := 0) (T := 9) (by kernel_rfl) rfl)) ?_
      refine l_v (by first | exact (r_load_at (i := 0) hs rfl Try.underlying9 rfl rfl) | exact (r_load_at (i := 1) hs rfl Try.underlying9 rfl rfl) | exact (r_load_at (i := 2) hs rfl Try.underlying9 rfl rfl) | exact (r_load_at (i := 3) hs rfl Try.underlying9 rfl rfl) | exact (r_load_at (i := 4) hs rfl Try.underlying9 rfl rfl) | exact (r_load_at (i := 5) hs rfl Try.underlying9 rfl rfl) | exact (r_load_at (i := 6) hs rfl Try.underlying9 rfl rfl)) ?_
      first | refine l_store (i := 0) (v := sV _) hs rfl I9 rfl rfl (by first | (simp; done) | (simp; omega) | omega) ?_ | refine l_store (i := 1) (v := sV _) hs rfl I9 rfl rfl (by first | (simp; done) | (simp; omega) | omega) ?_ | refine l_store (i := 2) (v := sV _) hs rfl I9 rfl rfl (by first | (simp; done) | (simp; omega) | omega) ?_ | refine l_store (i := 3) (v := sV _) hs rfl I9 rfl rfl (by first | (simp; done) | (simp; omega) | omega) ?_ | refine l_store (i := 4) (v := sV _) hs rfl I9 rfl rfl (by first | (simp; done) | (simp; omega) | omega) ?_ | refine l_store (i := 5) (v := sV _) hs rfl I9 rfl rfl (by first | (simp; done) | (simp; omega) | omega) ?_ | refine l_store (i := 6) (v := sV _) hs rfl I9 rfl rfl (by first | (simp; done) | (simp; omega) | omega) ?_
      intro w_ hs
      first | refine l_store (i := 0) (v := bV _) hs rfl I4 rfl rfl (by first | (simp; done) | (simp; omega) | omega) ?_ | refine l_store (i := 1) (v := bV _) hs rfl I4 rfl rfl (by first | (simp; done) | (simp; omega) | omega) ?_ | refine l_store (i := 2) (v := bV _) hs rfl I4 rfl rfl (by first | (simp; done) | (simp; omega) | omega) ?_ | refine l_store (i := 3) (v := bV _) hs rfl I4 rfl rfl (by first | (simp; done) | (simp; omega) | omega) ?_ | refine l_store (i := 4) (v := bV _) hs rfl I4 rfl rfl (by first | (simp; done) | (simp; omega) | omega) ?_ | refine l_store (i := 5) (v := bV _) hs rfl I4 rfl rfl (by first | (simp; done) | (simp; omega) | omega) ?_ | refine l_store (i := 6) (v := bV _) hs rfl I4 rfl rfl (by first | (simp; done) | (simp; omega) | omega) ?_
      intro w_ hs
      refine l_nil (nrm_then ?_)
      refine c_rseq ?_
      refine l_v (r_load_whole (i := 0) hs rfl Try.underlying44 I44 rfl rfl) ?_
      refine l_v (by first | exact (r_move (v := iV _) rfl) | exact (r_move rfl)) ?_
      first | refine l_store_whole (i := 0) hs rfl I44 rfl rfl (by first | assumption | (simp; done)) (by first | assumption | (simp; done)) (by first | assumption | simp [Value.oneCell']) ?_ | refine l_store_whole (i := 1) hs rfl I44 rfl rfl (by first | assumption | (simp; done)) (by first | assumption | (simp; done)) (by first | assumption | simp [Value.oneCell']) ?_ | refine l_store_whole (i := 2) hs rfl I44 rfl rfl (by first | assumption | (simp; done)) (by first | assumption | (simp; done)) (by first | assumption | simp [Value.oneCell']) ?_ | refine l_store_whole (i := 3) hs rfl I44 rfl rfl (by first | assumption | (simp; done)) (by first | assumption | (simp; done)) (by first | assumption | simp [Value.oneCell']) ?_ | refine l_store_whole (i := 4) hs rfl I44 rfl rfl (by first | assumption | (simp; done)) (by first | assumption | (simp; done)) (by first | assumption | simp [Value.oneCell']) ?_ | refine l_store_whole (i := 5) hs rfl I44 rfl rfl (by first | assumption | (simp; done)) (by first | assumption | (simp; done)) (by first | assumption | simp [Value.oneCell']) ?_ | refine l_store_whole (i := 6) hs rfl I44 rfl rfl (by first | assumption | (simp; done)) (by first | assumption | (simp; done)) (by first | assumption | simp [Value.oneCell']) ?_
      intro w_ hs
      refine l_v (by first | exact (r_assign (v := iV _) rfl) | exact (r_assign rfl)) ?_
      refine l_nil (nrm_then ?_)
      refine c_ret ?_
      show Fin _ _ _ _ _
      refine fin2c rfl rfl (run_loadVar_agg Try.underlying44 rfl I44 hel (cells_whole (hs.at_ 2).1)) ?_
      exact ⟨rfl, s', hs', hs.drop.pull 1 |>.drop⟩
end Go.Proofs.Ytfjnjnkmkbbjoaa.Blk
