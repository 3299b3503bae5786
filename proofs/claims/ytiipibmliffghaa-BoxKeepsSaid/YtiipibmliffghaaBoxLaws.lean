/- The walks of awake and of the laws BoxPacks and BoxOpens. -/
import Derived.Test.YtiipibmliffghaaBoxLaw
namespace Go.Proofs.Ytiipibmliffghaa.Box
open Go Go.RowKit Go.Proofs.Ytiipibmliffghaa.Eng Go.Proofs.Ytiipibmliffghaa.Six Go.Proofs.Ytiipibmliffghaa.CrcFn Go.Proofs.Ytiipibmliffghaa.Crc
set_option linter.unusedVariables false
set_option maxRecDepth 100000
def rA : Rec := { Rec.zero with body := [97, 98] }
theorem rA_ok : rA.ok := zero_ok
theorem bA : Program.built Try.prog 30 [(3, sV ⟨#[97, 98]⟩)] = some (recC rA).toArray := by
  refine built_of I30 (places := [(0, 32), (32, 32), (64, 1), (65, 1)]) (by kernel_rfl) (cs := recC .zero) rfl ?_
  exact fill_step (off := 65) (l := [sV ⟨#[97, 98]⟩]) rfl rfl (by decide) rfl
theorem hbA : bodyOf rA = zeros ++ [64, 66, 97, 98] := by
  have e : encT [97, 98] = [66, 97, 98] := by
    unfold encT enc
    rw [show ([97, 98] : List UInt8).length = 2 from rfl, show 2 / 64 = 0 from rfl, high_zero]; rfl
  unfold bodyOf
  rw [show rA.body = [97, 98] from rfl, e]; rfl
theorem packA : packR rA = (put (bodyOf rA), 0) := by
  unfold packR
  rw [if_neg (by decide), if_neg (fun h => h.2 rfl)]
theorem lenA : (put (bodyOf rA)).length = 40 := by rw [hbA]; rfl
theorem partA : (ofL (put (bodyOf rA))).extract 32 36 = ofL [64, 66, 97, 98] := Eng.toL_inj (by rw [Eng.toL_extract, hbA]; rfl)
set_option maxHeartbeats 4000000 in
theorem awake_c (w : World) : Calls Try.prog 9 #[] w fun e w' => e = .returned (bV true) ∧ Below w.heap.size w w' := by
  have hzl := recC_length zero_ok
  have hAl := recC_length rA_ok
  have hone := rec_one rA
  have hbody := rec_body rA rA_ok
  have hlen := lenA
  have hop := open_pack rA_ok packA
  have f1 : decide (((ofL (put (bodyOf rA))).size : Int) = 40) = true := decide_eq_true (by show ((put (bodyOf rA)).length : Int) = 40; rw [hlen]; rfl)
  have hpart := partA
  have f2 : decide ((ofL (put (bodyOf rA))).extract 32 36 = ⟨#[64, 66, 97, 98]⟩) = true := decide_eq_true (by rw [hpart])
  have f3 : decide (ofL rA.body = ⟨#[97, 98]⟩) = true := rfl
  refine enter (P := Try.prog) Try.func9 rfl rfl ?_
  have hs := Sep.init w
  refine c_rseq ?_
  refine l_v (by first | exact (r_assign (v := bV _) rfl) | exact (r_assign rfl)) ?_
  refine l_nil (nrm_then ?_)
  refine c_rseq ?_
  refine l_v (r_build rfl bA) ?_
  refine l_call (r_call Try.func10 rfl rfl) ?_
  refine Calls.mono (pack_c rA rA_ok (by decide) _) ?_
  rintro e w_ ⟨rfl, hb⟩
  refine ⟨_, rfl, ?_⟩
  have hs := hs.below_ hb
  rw [packA]
  refine l_v (r_move rfl) ?_
  refine l_v (r_extract rfl rfl) ?_
  refine l_v (r_extract rfl rfl) ?_
  refine l_v (by first | exact (r_assign (v := sV _) rfl) | exact (r_assign rfl)) ?_
  refine l_v (by first | exact (r_assign (v := iV _) rfl) | exact (r_assign rfl)) ?_
  refine l_nil (nrm_then ?_)
  refine c_rseq ?_
  refine l_v (by first | exact (r_move (v := sV _) rfl) | exact (r_move rfl)) ?_
  refine l_call (r_call Try.func14 rfl rfl) ?_
  refine Calls.mono (open_c (ofL (put (bodyOf rA))) (by show (put (bodyOf rA)).length ≤ _; rw [hlen]; decide) _) ?_
  rintro e w_ ⟨rfl, hb⟩
  refine ⟨_, rfl, ?_⟩
  have hs := hs.below_ hb
  rw [Eng.toL_ofL, hop]
  generalize put (bodyOf rA) = S at *
  refine l_v (r_move rfl) ?_
  refine l_v (r_extract rfl rfl) ?_
  refine l_v (r_extract rfl rfl) ?_
  refine l_alloc hs I30 ?_
  intro b3 w3 hs hB3 hlt3
  first | refine l_store_whole (i := 0) hs rfl I30 rfl rfl (by first | assumption | (simp; done)) (by first | assumption | (simp; done)) (by first | assumption | simp [Value.oneCell']) ?_ | refine l_store_whole (i := 1) hs rfl I30 rfl rfl (by first | assumption | (simp; done)) (by first | assumption | (simp; done)) (by first | assumption | simp [Value.oneCell']) ?_ | refine l_store_whole (i := 2) hs rfl I30 rfl rfl (by first | assumption | (simp; done)) (by first | assumption | (simp; done)) (by first | assumption | simp [Value.oneCell']) ?_ | refine l_store_whole (i := 3) hs rfl I30 rfl rfl (by first | assumption | (simp; done)) (by first | assumption | (simp; done)) (by first | assumption | simp [Value.oneCell']) ?_ | refine l_store_whole (i := 4) hs rfl I30 rfl rfl (by first | assumption | (simp; done)) (by first | assumption | (simp; done)) (by first | assumption | simp [Value.oneCell']) ?_ | refine l_store_whole (i := 5) hs rfl I30 rfl rfl (by first | assumption | (simp; done)) (by first | assumption | (simp; done)) (by first | assumption | simp [Value.oneCell']) ?_ | refine l_store_whole (i := 6) hs rfl I30 rfl rfl (by first | assumption | (simp; done)) (by first | assumption | (simp; done)) (by first | assumption | simp [Value.oneCell']) ?_
  intro w_ hs
  refine l_v (by first | exact (r_assign (v := iV _) rfl) | exact (r_assign rfl)) ?_
  refine l_nil (nrm_then ?_)
  refine c_rseq ?_
  refine l_v (by first | exact (r_move (v := iV _) rfl) | exact (r_move rfl)) ?_
  refine l_v (r_eqli rfl rfl) ?_
  refine l_v (by first | exact (r_move (v := bV _) rfl) | exact (r_move rfl)) ?_
  refine l_vg (by first | exact (r_move (v := sV _) rfl) | exact (r_move rfl)) rfl (rfl) ?_
  refine l_vg (r_len_s Try.underlying9 rfl) rfl (rfl) ?_
  refine l_vg (r_eqli rfl rfl) rfl (rfl) ?_
  refine l_v (r_pick_t rfl rfl rfl) ?_
  refine l_v (by first | exact (r_move (v := bV _) rfl) | exact (r_move rfl)) ?_
  refine l_vg (by first | exact (r_move (v := sV _) rfl) | exact (r_move rfl)) rfl (f1) ?_
  refine l_vg (r_slice_s 32 36 Try.underlying9 rfl rfl rfl (by have h : ((S.length : Nat) : Int) = 40 := of_decide_eq_true f1; show _ ∧ _ ∧ (36 : Int) ≤ ((S.length : Nat) : Int); omega)) rfl (f1) ?_
  refine l_vg (r_eqls rfl rfl) rfl (f1) ?_
  refine l_v (r_pick_t rfl f1 rfl) ?_
  refine l_v (by first | exact (r_move (v := bV _) rfl) | exact (r_move rfl)) ?_
  refine l_vg (by first | exact (r_move (v := iV _) rfl) | exact (r_move rfl)) rfl (f2) ?_
  refine l_vg (r_eqli rfl rfl) rfl (f2) ?_
  refine l_v (r_pick_t rfl f2 rfl) ?_
  refine l_v (by first | exact (r_move (v := bV _) rfl) | exact (r_move rfl)) ?_
  refine l_vg (by first | exact (r_fieldAddr0 (off := 65) (T := 9) (by kernel_rfl) rfl) | exact (r_fieldAddr (off := 65) (T := 9) (by kernel_rfl) rfl)) rfl (rfl) ?_
  refine l_vg (r_load_at (i := 0) hs rfl Try.underlying9 rfl hbody) rfl (rfl) ?_
  refine l_vg (r_eqls rfl rfl) rfl (rfl) ?_
  refine l_v (r_pick_t rfl rfl rfl) ?_
  refine l_v (by first | exact (r_assign (v := bV _) rfl) | exact (r_assign rfl)) ?_
  refine l_nil (nrm_then ?_)
  refine c_ret ?_
  show Fin _ _ _ _ _
  refine fin1 rfl ?_
  exact ⟨rfl, hs.below⟩
set_option maxHeartbeats 4000000 in
theorem boxPacks_walk (r : Rec) (h : r.ok) (hz : r.body.length ≤ 9223372036854775807) {w : World} :
    Calls Try.prog 3 #[rV r] w fun e w' => e = .returned (bV true) ∧ Below w.heap.size w w' := by
  have hol := recC_length h
  have hbody := rec_body r h
  refine enter (P := Try.prog) Try.func3 rfl rfl ?_
  have hs := Sep.init w
  refine c_rseq ?_
  refine l_box hs rfl ?_
  intro b1 w1 hs hB1 hlt1
  refine l_v (by first | exact (r_assign (v := bV _) rfl) | exact (r_assign rfl)) ?_
  refine l_nil (nrm_then ?_)
  refine c_seq ?_
  refine c_rseq ?_
  refine l_call (r_call Try.func9 rfl rfl) ?_
  refine Calls.mono (awake_c _) ?_
  rintro e w_ ⟨rfl, hb⟩
  refine ⟨_, rfl, ?_⟩
  have hs := hs.below_ hb
  refine l_v (r_not rfl) ?_
  refine l_v (by first | exact (r_move (v := bV _) rfl) | exact (r_move rfl)) ?_
  refine l_vg (by first | exact (r_fieldAddr0 (off := 65) (T := 9) (by kernel_rfl) rfl) | exact (r_fieldAddr (off := 65) (T := 9) (by kernel_rfl) rfl)) rfl (rfl) ?_
  refine l_vg (r_load_at (i := 0) hs rfl Try.underlying9 rfl hbody) rfl (rfl) ?_
  refine l_vg (r_len_s Try.underlying9 rfl) rfl (rfl) ?_
  refine l_vg (r_gtri rfl rfl) rfl (rfl) ?_
  refine l_v (r_pick_f rfl rfl rfl) ?_
  refine l_nil (nrm_then ?_)
  refine c_cond rfl (fun h1 => ?_) (fun h1 => ?_)
  · replace h1 := of_decide_eq_true h1
    refine c_rseq ?_
    refine l_call (r_call Try.func9 rfl rfl) ?_
    refine Calls.mono (awake_c _) ?_
    rintro e w_ ⟨rfl, hb⟩
    refine ⟨_, rfl, ?_⟩
    have hs := hs.below_ hb
    refine l_v (by first | exact (r_assign (v := bV _) rfl) | exact (r_assign rfl)) ?_
    refine l_nil (nrm_then ?_)
    refine c_ret (ret_then ?_)
    show Fin _ _ _ _ _
    refine fin1 rfl ?_
    exact ⟨rfl, hs.below⟩
  · replace h1 := of_decide_eq_false h1
    refine c_skip (nrm_then ?_)
    refine c_rseq ?_
    refine l_v (r_load_whole (i := 0) hs rfl Try.underlying25 I25 rfl hol) ?_
    refine l_call (r_call Try.func11 rfl rfl) ?_
    refine Calls.mono (theirs_c r h _) ?_
    rintro e w_ ⟨rfl, hb⟩
    refine ⟨_, rfl, ?_⟩
    have hs := hs.below_ hb
    refine l_call (r_call Try.func10 rfl rfl) ?_
    refine Calls.mono (pack_c r h hz _) ?_
    rintro e w_ ⟨rfl, hb⟩
    refine ⟨_, rfl, ?_⟩
    have hs := hs.below_ hb
    refine l_v (r_move rfl) ?_
    refine l_v (r_extract rfl rfl) ?_
    refine l_v (r_extract rfl rfl) ?_
    refine l_v (by first | exact (r_assign (v := sV _) rfl) | exact (r_assign rfl)) ?_
    refine l_v (by first | exact (r_assign (v := iV _) rfl) | exact (r_assign rfl)) ?_
    refine l_nil (nrm_then ?_)
    refine c_rseq ?_
    refine l_v (r_load_whole (i := 0) hs rfl Try.underlying25 I25 rfl hol) ?_
    refine l_call (r_call Try.func12 rfl rfl) ?_
    refine Calls.mono (rpack_c r h hz _) ?_
    rintro e w_ ⟨rfl, hb⟩
    refine ⟨_, rfl, ?_⟩
    have hs := hs.below_ hb
    generalize packR r = X at *
    have f1 : decide (ofL X.1 = ofL X.1) = true := decide_eq_true rfl
    have f2 : decide (X.2 = X.2) = true := decide_eq_true rfl
    refine l_v (r_move rfl) ?_
    refine l_v (r_extract rfl rfl) ?_
    refine l_v (r_extract rfl rfl) ?_
    refine l_v (by first | exact (r_assign (v := sV _) rfl) | exact (r_assign rfl)) ?_
    refine l_v (by first | exact (r_assign (v := iV _) rfl) | exact (r_assign rfl)) ?_
    refine l_nil (nrm_then ?_)
    refine c_rseq ?_
    refine l_v (by first | exact (r_move (v := sV _) rfl) | exact (r_move rfl)) ?_
    refine l_v (by first | exact (r_move (v := sV _) rfl) | exact (r_move rfl)) ?_
    refine l_v (r_eqls rfl rfl) ?_
    refine l_v (by first | exact (r_move (v := bV _) rfl) | exact (r_move rfl)) ?_
    refine l_vg (by first | exact (r_move (v := iV _) rfl) | exact (r_move rfl)) rfl (f1) ?_
    refine l_vg (by first | exact (r_move (v := iV _) rfl) | exact (r_move rfl)) rfl (f1) ?_
    refine l_vg (r_eqli rfl rfl) rfl (f1) ?_
    refine l_v (r_pick_t rfl f1 rfl) ?_
    refine l_v (by first | exact (r_assign (v := bV _) rfl) | exact (r_assign rfl)) ?_
    refine l_nil (nrm_then ?_)
    refine c_ret ?_
    show Fin _ _ _ _ _
    refine fin1 rfl ?_
    exact ⟨congrArg Ending.returned (congrArg Value.bool f2), hs.below⟩
end Go.Proofs.Ytiipibmliffghaa.Box
