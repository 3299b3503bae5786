/- The walk of the law DiskArmed. -/
import Derived.Test.YtnneoipoaoefkaaDskArmFn
import Derived.Test.YtnneoipoaoefkaaDskRoots
namespace Go.Proofs.Ytnneoipoaoefkaa.Dsk
open Go Go.RowKit Go.ChangeShapes Go.WideShapes Go.Proofs.Ytnneoipoaoefkaa.Eng
set_option linter.unusedVariables false
set_option maxRecDepth 100000
theorem make_cold {S : DiskS} {n : Int} (hd : S.down = false) (hf : S.fuse = -1) (hn : 1 ≤ n) (hg : S.get n = none) (hu : S.used 1 < S.room 1) : (makeS S 1 n).2 = 0 := by
  obtain ⟨s1, s2, s3, s4⟩ := step_live hf
  have h9 : findE S n = 9 := by unfold findE; rw [if_neg (by rw [hd]; decide), hg]; rfl
  unfold makeS
  rw [h9, if_neg (by decide), if_neg (by omega), if_neg (by decide), if_neg (fun h => by have h : S.used 1 = S.room 1 := h; omega), if_pos s1]
set_option maxHeartbeats 16000000 in
theorem diskArmed_walk {w : World} (A : Option Addr) (c : Nat) (os : List OpS) (hr : Rd w 7 A os.length (os.flatMap opC)) (hcap : os.length ≤ c) (hok : ∀ o ∈ os, opok w o) (n : Int) (hnw : (Lit.int .i64 n).wf = true) :
    Calls Try.prog 5 #[.slice A os.length c, iV n] w fun e w' => e = .returned (bV true) ∧ Below w.heap.size w w' := by
  have hn := hr.2.1
  have hnb := bounds_i64 hnw
  refine enter (P := Try.prog) Try.func5 rfl rfl ?_
  have hs := Sep.init w
  refine c_rseq ?_
  refine l_v (by first | exact (r_assign (v := bV _) rfl) | exact (r_assign rfl)) ?_
  refine l_nil (nrm_then ?_)
  refine c_seq ?_
  refine c_rseq ?_
  refine l_call (r_call Try.func8 rfl rfl) ?_
  refine Calls.mono (awake_c _) ?_
  rintro e w_ ⟨rfl, hb⟩
  refine ⟨_, rfl, ?_⟩
  have hs := hs.below_ hb
  refine l_v (r_not rfl) ?_
  refine l_v (by first | exact (r_move (v := bV _) rfl) | exact (r_move rfl)) ?_
  refine l_vg (by first | exact (r_move (v := .slice _ _ _) rfl) | exact (r_move rfl)) rfl (rfl) ?_
  refine l_callg (r_call Try.func9 rfl rfl) rfl (rfl) ?_
  refine Calls.mono (few_c A c os _ (hr.below hs.below)) ?_
  rintro e w_ ⟨bf, rfl, hfew, hb2⟩
  refine ⟨_, rfl, ?_⟩
  have hs := hs.below_ hb2
  refine l_vg (r_not rfl) rfl (rfl) ?_
  refine l_v (r_pick_f rfl rfl rfl) ?_
  refine l_nil (nrm_then ?_)
  rcases Bool.eq_false_or_eq_true bf with hbf | hbf
  · have f : (!bf) = false := by rw [hbf]; rfl
    obtain ⟨hl2, hx3, hz3⟩ := hfew hbf
    refine c_false rfl (f) ?_
    refine c_skip (nrm_then ?_)
    refine c_rseq ?_
    refine l_call (r_call Try.func10 rfl rfl) ?_
    refine Calls.mono (new_ok 5000 5000 (by decide) w _ _ hs) ?_
    rintro e w_ ⟨b, rfl, hs⟩
    refine ⟨_, rfl, ?_⟩
    refine l_v (r_move rfl) ?_
    refine l_v (r_extract rfl rfl) ?_
    refine l_v (r_extract rfl rfl) ?_
    refine l_v (r_assign (v := .pointer _) rfl) ?_
    refine l_v (by first | exact (r_assign (v := iV _) rfl) | exact (r_assign rfl)) ?_
    refine l_nil (nrm_then ?_)
    refine c_rseq ?_
    refine l_v (r_move (v := .pointer _) rfl) ?_
    refine l_v (by first | exact (r_move (v := iV _) rfl) | exact (r_move rfl)) ?_
    have hg0 := good_new (hot := 5000) (cold := 5000) (by decide) (by decide)
    refine l_call (r_call Try.func21 rfl rfl) ?_
    refine Calls.mono (arm_c b _ n w _ _ hs) ?_
    rintro e w_ ⟨⟨v30, rfl⟩, hs⟩
    refine ⟨_, rfl, ?_⟩
    have hga := good_arm hg0 n hnb.2
    have hra := armed_arm n 5000 5000
    have hsa : (armS (newS 5000 5000) n).steps = 0 ∧ (armS (newS 5000 5000) n).files = [] ∧ (armS (newS 5000 5000) n).used 1 = 0 ∧ (armS (newS 5000 5000) n).room 1 = 5000 := ⟨rfl, rfl, rfl, rfl⟩
    generalize armS (newS 5000 5000) n = S0 at *
    refine l_nil (nrm_then ?_)
    refine c_seq ?_
    refine c_rseq ?_
    refine l_v (by first | exact (r_assign (v := iV _) rfl) | exact (r_assign rfl)) ?_
    refine l_nil (nrm_then ?_)
    refine c_block ?_
    refine c_loopn [0, 1, 5] (fun m f' w' => ∃ i S, i + m = os.length ∧ f' 7 = iV (i : Int) ∧ GoodS S ∧ Armed n S ∧ S.steps ≤ (i : Int) ∧ S.files.length ≤ i ∧ S.used 1 ≤ 2 * (i : Int) + ((txtN os i / 64 : Nat) : Int) ∧ S.room 1 = 5000 ∧ Eng.Sep w w' (diskH b S :: [])) ?_ ?_
    · exact ⟨os.length, 0, S0, by omega, rfl, hga, hra, by omega, by rw [hsa.2.1]; exact Nat.le_refl 0, by rw [hsa.2.2.1]; omega, hsa.2.2.2, hs⟩
    · rintro m g w_ ⟨i, S, hi, h7, hg, hra, hst, hfl, hus, hro, hs⟩
      refine OkC.env ?_ (fixH (L := [(7, _)]) ⟨h7, trivial⟩)
      clear h7
      refine c_seq ?_
      refine c_rseq ?_
      refine l_v (by first | exact (r_move (v := iV _) rfl) | exact (r_move rfl)) ?_
      refine l_v (by first | exact (r_move (v := .slice _ _ _) rfl) | exact (r_move rfl)) ?_
      refine l_v (r_len_l Try.underlying22 rfl) ?_
      refine l_v (r_lssi rfl rfl) ?_
      refine l_nil (nrm_then ?_)
      refine c_cond rfl (fun h1 => ?_) (fun h1 => ?_)
      · have hil : i < os.length := by have := of_decide_eq_true h1; omega
        obtain ⟨o, hoi⟩ : ∃ o, os[i]? = some o := ⟨os[i], List.getElem?_eq_getElem hil⟩
        have hom := List.mem_of_getElem? hoi
        have hoo := hok o hom
        have hox := hx3 o hom
        have htk : os.take (i + 1) = os.take i ++ [o] := by rw [List.take_add_one, hoi]; rfl
        have htn : txtN os (i + 1) = txtN os i + o.text.length := by unfold txtN; rw [htk, List.map_append, List.sum_append]; simp
        have hr1 : ∀ w', Below w.heap.size w w' → Rd w' 7 A os.length (os.flatMap opC) := fun w' h => hr.below h
        obtain ⟨ad, rfl, _⟩ := hr.ad (by omega)
        have hX : ∀ w', Below w.heap.size w w' → ∀ j u, (opC o)[j]? = some u → w'.cell? ((ad.add (i * 7)).add j) = some u := fun w' h => rd_item (hr1 w' h) (fun y _ => rfl) (by decide) hoi
        replace h1 := of_decide_eq_true h1
        refine c_skip (nrm_then ?_)
        refine c_seq ?_
        refine c_block ?_
        refine c_rseq ?_
        refine l_v (by first | exact (r_move (v := .slice _ _ _) rfl) | exact (r_move rfl)) ?_
        refine l_v (by first | exact (r_move (v := iV _) rfl) | exact (r_move rfl)) ?_
        refine l_v (r_indexAddr_l (k := i) Try.underlying22 I32 rfl rfl hil) ?_
        refine l_v (r_load_aggP Try.underlying32 I32 rfl (hX _ hs.below) rfl) ?_
        refine l_alloc hs I32 ?_
        intro b8 w8 hs hB8 hlt8
        refine l_store_whole (i := 0) hs rfl I32 rfl rfl rfl rfl (op_one o) ?_
        intro w40 hs
        have hs : Eng.Sep w w40 (blk b8 (opC o) 32 :: diskH b S :: []) := hs
        refine l_nil (nrm_then ?_)
        refine c_seq ?_
        refine c_rseq ?_
        refine l_v (by first | exact (r_fieldAddr0 (off := 0) (T := 3) (by kernel_rfl) rfl) | exact (r_fieldAddr (off := 0) (T := 3) (by kernel_rfl) rfl)) ?_
        refine l_v (r_load_at (i := 0) hs rfl Try.underlying3 rfl rfl) ?_
        refine l_v (r_eqli rfl rfl) ?_
        refine l_nil (nrm_then ?_)
        refine c_cond rfl (fun h8 => ?_) (fun h8 => ?_)
        · replace h8 := of_decide_eq_true h8
          refine c_exit (ex_then (ex_hit (nrm_then ?_)))
          refine c_region ?_
          refine l_v (by first | exact (r_move (v := iV _) rfl) | exact (r_move rfl)) ?_
          refine l_v (r_addi rfl rfl (by omega)) ?_
          refine l_v (by first | exact (r_assign (v := iV _) rfl) | exact (r_assign rfl)) ?_
          refine l_nil (nrm_then ?_)
          refine And.intro (by refine ⟨?_, ?_, ?_, trivial⟩ <;> ((conv => lhs; whnf); (try conv => rhs; whnf))) ?_
          exact ⟨os.length - (i + 1), by omega, i + 1, S, by omega, rfl, hg, hra, by omega, by omega, by omega, hro, hs.drop⟩
        · have h8' := of_decide_eq_false h8
          replace h8 := of_decide_eq_false h8
          refine c_skip (nrm_then ?_)
          refine c_rseq ?_
          refine l_v (r_move (v := .pointer _) rfl) ?_
          refine l_call (r_call Try.func22 rfl rfl) ?_
          refine Calls.mono (steps_c b S w _ _ (hs.pull 1)) ?_
          rintro e w_ ⟨rfl, hww⟩
          refine ⟨_, rfl, ?_⟩
          rw [hww]
          refine l_v (by first | exact (r_assign (v := iV _) rfl) | exact (r_assign rfl)) ?_
          refine l_nil (nrm_then ?_)
          refine c_rseq ?_
          refine l_v (r_move (v := .pointer _) rfl) ?_
          refine l_v (r_load_whole (i := 0) hs rfl Try.underlying32 I32 rfl rfl) ?_
          refine l_call (r_call Try.func11 rfl rfl) ?_
          refine Calls.mono (do_c b S hg (by omega) o (by omega) w _ _ (hs.pull 1) hoo.1) ?_
          rintro e w_ ⟨rfl, hs⟩
          refine ⟨_, rfl, ?_⟩
          have hs := hs.pull 1
          have hg2 := good_do hg o
          obtain ⟨hra2, p1, p2, p3, p4, p5⟩ := armed_do hra o h8'
          have hst2 := do_steps S o
          have hge := hg.steps
          have hfl2 := len_do S hg.nd o
          obtain ⟨hus2, hro2⟩ := used_do hg o
          have hro3 : (doS S o).1.room 1 = 5000 := by rw [hro2]; exact hro
          generalize doS S o = T at *
          refine l_v (by first | exact (r_assign (v := iV _) rfl) | exact (r_assign rfl)) ?_
          refine l_nil (nrm_then ?_)
          refine c_seq ?_
          refine c_seq ?_
          refine c_mid [0, 1, 4, 5, 7, 8, 10] (fun f' w' => w' = w_ ∧ f' 87 = bV false) ?_ ?_
          · by_cases hN : n ≥ 0
            · by_cases hE : T.2 = 0
              · by_cases hk1 : o.kind ≥ 1
                · by_cases hk5 : o.kind ≤ 5
                  · have f50 : decide (T.2 = 0) = true := decide_eq_true hE
                    have f70 : decide (T.2 ≠ 0) = false := decide_eq_false (fun h => h hE)
                    have f80 : decide (n ≥ 0) = true := decide_eq_true hN
                    have f85 : decide (T.1.steps > n) = false := decide_eq_false (by have := p3 hN; omega)
                    have f54 : decide (o.kind ≥ 1) = true := decide_eq_true hk1
                    have f59 : decide (o.kind ≤ 5) = true := decide_eq_true hk5
                    have f66 : decide (T.1.steps ≠ S.steps + 1) = false := decide_eq_false (fun h => h (p1 hE ⟨hk1, hk5⟩))
                    refine c_region ?_
                    refine l_v (by first | exact (r_move (v := iV _) rfl) | exact (r_move rfl)) ?_
                    refine l_v (r_eqli rfl rfl) ?_
                    refine l_v (by first | exact (r_move (v := bV _) rfl) | exact (r_move rfl)) ?_
                    refine l_vg (by first | exact (r_fieldAddr0 (off := 0) (T := 3) (by kernel_rfl) rfl) | exact (r_fieldAddr (off := 0) (T := 3) (by kernel_rfl) rfl)) rfl (f50) ?_
                    refine l_vg (r_load_at (i := 0) hs rfl Try.underlying3 rfl rfl) rfl (f50) ?_
                    refine l_vg (r_geqi rfl rfl) rfl (f50) ?_
                    refine l_v (r_pick_t rfl f50 rfl) ?_
                    refine l_v (by first | exact (r_move (v := bV _) rfl) | exact (r_move rfl)) ?_
                    refine l_vg (by first | exact (r_fieldAddr0 (off := 0) (T := 3) (by kernel_rfl) rfl) | exact (r_fieldAddr (off := 0) (T := 3) (by kernel_rfl) rfl)) rfl (f54) ?_
                    refine l_vg (r_load_at (i := 0) hs rfl Try.underlying3 rfl rfl) rfl (f54) ?_
                    refine l_vg (r_leqi rfl rfl) rfl (f54) ?_
                    refine l_v (r_pick_t rfl f54 rfl) ?_
                    refine l_v (by first | exact (r_move (v := bV _) rfl) | exact (r_move rfl)) ?_
                    refine l_vg (r_move (v := .pointer _) rfl) rfl (f59) ?_
                    refine l_callg (r_call Try.func22 rfl rfl) rfl (f59) ?_
                    refine Calls.mono (steps_c b T.1 w _ _ (hs.pull 1)) ?_
                    rintro e w_ ⟨rfl, hww9⟩
                    refine ⟨_, rfl, ?_⟩
                    rw [hww9]
                    refine l_vg (by first | exact (r_move (v := iV _) rfl) | exact (r_move rfl)) rfl (f59) ?_
                    refine l_vg (r_addi rfl rfl (by omega)) rfl (f59) ?_
                    refine l_vg (r_neqi rfl rfl) rfl (f59) ?_
                    refine l_v (r_pick_t rfl f59 rfl) ?_
                    refine l_v (by first | exact (r_move (v := bV _) rfl) | exact (r_move rfl)) ?_
                    refine l_vg (by first | exact (r_move (v := iV _) rfl) | exact (r_move rfl)) rfl (f66) ?_
                    refine l_vg (r_neqi rfl rfl) rfl (f66) ?_
                    refine l_vg (by first | exact (r_move (v := bV _) rfl) | exact (r_move rfl)) rfl (f66) ?_
                    refine l_no rfl (f70) ?_
                    refine l_no rfl (f70) ?_
                    refine l_no rfl (f70) ?_
                    refine l_no rfl (f70) ?_
                    refine l_vg (r_pick_f rfl f70 rfl) rfl (f66) ?_
                    refine l_v (r_pick_f rfl f66 rfl) ?_
                    refine l_v (by first | exact (r_move (v := bV _) rfl) | exact (r_move rfl)) ?_
                    refine l_vg (by first | exact (r_move (v := iV _) rfl) | exact (r_move rfl)) rfl (rfl) ?_
                    refine l_vg (r_geqi rfl rfl) rfl (rfl) ?_
                    refine l_vg (by first | exact (r_move (v := bV _) rfl) | exact (r_move rfl)) rfl (rfl) ?_
                    refine l_vg (r_move (v := .pointer _) rfl) rfl (f80) ?_
                    refine l_callg (r_call Try.func22 rfl rfl) rfl (f80) ?_
                    refine Calls.mono (steps_c b T.1 w _ _ (hs.pull 1)) ?_
                    rintro e w_ ⟨rfl, hww9⟩
                    refine ⟨_, rfl, ?_⟩
                    rw [hww9]
                    refine l_vg (by first | exact (r_move (v := iV _) rfl) | exact (r_move rfl)) rfl (f80) ?_
                    refine l_vg (r_gtri rfl rfl) rfl (f80) ?_
                    refine l_vg (r_pick_t rfl f80 rfl) rfl (rfl) ?_
                    refine l_v (r_pick_f rfl rfl rfl) ?_
                    refine l_nil (nrm_then ?_)
                    refine And.intro (by refine ⟨?_, ?_, ?_, ?_, ?_, ?_, ?_, trivial⟩ <;> ((conv => lhs; whnf); (try conv => rhs; whnf))) ?_
                    exact ⟨rfl, congrArg bV f85⟩
                  · have f50 : decide (T.2 = 0) = true := decide_eq_true hE
                    have f70 : decide (T.2 ≠ 0) = false := decide_eq_false (fun h => h hE)
                    have f80 : decide (n ≥ 0) = true := decide_eq_true hN
                    have f85 : decide (T.1.steps > n) = false := decide_eq_false (by have := p3 hN; omega)
                    have f54 : decide (o.kind ≥ 1) = true := decide_eq_true hk1
                    have f59 : decide (o.kind ≤ 5) = false := decide_eq_false hk5
                    refine c_region ?_
                    refine l_v (by first | exact (r_move (v := iV _) rfl) | exact (r_move rfl)) ?_
                    refine l_v (r_eqli rfl rfl) ?_
                    refine l_v (by first | exact (r_move (v := bV _) rfl) | exact (r_move rfl)) ?_
                    refine l_vg (by first | exact (r_fieldAddr0 (off := 0) (T := 3) (by kernel_rfl) rfl) | exact (r_fieldAddr (off := 0) (T := 3) (by kernel_rfl) rfl)) rfl (f50) ?_
                    refine l_vg (r_load_at (i := 0) hs rfl Try.underlying3 rfl rfl) rfl (f50) ?_
                    refine l_vg (r_geqi rfl rfl) rfl (f50) ?_
                    refine l_v (r_pick_t rfl f50 rfl) ?_
                    refine l_v (by first | exact (r_move (v := bV _) rfl) | exact (r_move rfl)) ?_
                    refine l_vg (by first | exact (r_fieldAddr0 (off := 0) (T := 3) (by kernel_rfl) rfl) | exact (r_fieldAddr (off := 0) (T := 3) (by kernel_rfl) rfl)) rfl (f54) ?_
                    refine l_vg (r_load_at (i := 0) hs rfl Try.underlying3 rfl rfl) rfl (f54) ?_
                    refine l_vg (r_leqi rfl rfl) rfl (f54) ?_
                    refine l_v (r_pick_t rfl f54 rfl) ?_
                    refine l_v (by first | exact (r_move (v := bV _) rfl) | exact (r_move rfl)) ?_
                    refine l_no rfl (f59) ?_
                    refine l_no rfl (f59) ?_
                    refine l_no rfl (f59) ?_
                    refine l_no rfl (f59) ?_
                    refine l_no rfl (f59) ?_
                    refine l_v (r_pick_f rfl f59 rfl) ?_
                    refine l_v (by first | exact (r_move (v := bV _) rfl) | exact (r_move rfl)) ?_
                    refine l_vg (by first | exact (r_move (v := iV _) rfl) | exact (r_move rfl)) rfl (rfl) ?_
                    refine l_vg (r_neqi rfl rfl) rfl (rfl) ?_
                    refine l_vg (by first | exact (r_move (v := bV _) rfl) | exact (r_move rfl)) rfl (rfl) ?_
                    refine l_no rfl (f70) ?_
                    refine l_no rfl (f70) ?_
                    refine l_no rfl (f70) ?_
                    refine l_no rfl (f70) ?_
                    refine l_vg (r_pick_f rfl f70 rfl) rfl (rfl) ?_
                    refine l_v (r_pick_f rfl rfl rfl) ?_
                    refine l_v (by first | exact (r_move (v := bV _) rfl) | exact (r_move rfl)) ?_
                    refine l_vg (by first | exact (r_move (v := iV _) rfl) | exact (r_move rfl)) rfl (rfl) ?_
                    refine l_vg (r_geqi rfl rfl) rfl (rfl) ?_
                    refine l_vg (by first | exact (r_move (v := bV _) rfl) | exact (r_move rfl)) rfl (rfl) ?_
                    refine l_vg (r_move (v := .pointer _) rfl) rfl (f80) ?_
                    refine l_callg (r_call Try.func22 rfl rfl) rfl (f80) ?_
                    refine Calls.mono (steps_c b T.1 w _ _ (hs.pull 1)) ?_
                    rintro e w_ ⟨rfl, hww9⟩
                    refine ⟨_, rfl, ?_⟩
                    rw [hww9]
                    refine l_vg (by first | exact (r_move (v := iV _) rfl) | exact (r_move rfl)) rfl (f80) ?_
                    refine l_vg (r_gtri rfl rfl) rfl (f80) ?_
                    refine l_vg (r_pick_t rfl f80 rfl) rfl (rfl) ?_
                    refine l_v (r_pick_f rfl rfl rfl) ?_
                    refine l_nil (nrm_then ?_)
                    refine And.intro (by refine ⟨?_, ?_, ?_, ?_, ?_, ?_, ?_, trivial⟩ <;> ((conv => lhs; whnf); (try conv => rhs; whnf))) ?_
                    exact ⟨rfl, congrArg bV f85⟩
                · have f50 : decide (T.2 = 0) = true := decide_eq_true hE
                  have f70 : decide (T.2 ≠ 0) = false := decide_eq_false (fun h => h hE)
                  have f80 : decide (n ≥ 0) = true := decide_eq_true hN
                  have f85 : decide (T.1.steps > n) = false := decide_eq_false (by have := p3 hN; omega)
                  have f54 : decide (o.kind ≥ 1) = false := decide_eq_false hk1
                  refine c_region ?_
                  refine l_v (by first | exact (r_move (v := iV _) rfl) | exact (r_move rfl)) ?_
                  refine l_v (r_eqli rfl rfl) ?_
                  refine l_v (by first | exact (r_move (v := bV _) rfl) | exact (r_move rfl)) ?_
                  refine l_vg (by first | exact (r_fieldAddr0 (off := 0) (T := 3) (by kernel_rfl) rfl) | exact (r_fieldAddr (off := 0) (T := 3) (by kernel_rfl) rfl)) rfl (f50) ?_
                  refine l_vg (r_load_at (i := 0) hs rfl Try.underlying3 rfl rfl) rfl (f50) ?_
                  refine l_vg (r_geqi rfl rfl) rfl (f50) ?_
                  refine l_v (r_pick_t rfl f50 rfl) ?_
                  refine l_v (by first | exact (r_move (v := bV _) rfl) | exact (r_move rfl)) ?_
                  refine l_no rfl (f54) ?_
                  refine l_no rfl (f54) ?_
                  refine l_no rfl (f54) ?_
                  refine l_v (r_pick_f rfl f54 rfl) ?_
                  refine l_v (by first | exact (r_move (v := bV _) rfl) | exact (r_move rfl)) ?_
                  refine l_no rfl (rfl) ?_
                  refine l_no rfl (rfl) ?_
                  refine l_no rfl (rfl) ?_
                  refine l_no rfl (rfl) ?_
                  refine l_no rfl (rfl) ?_
                  refine l_v (r_pick_f rfl rfl rfl) ?_
                  refine l_v (by first | exact (r_move (v := bV _) rfl) | exact (r_move rfl)) ?_
                  refine l_vg (by first | exact (r_move (v := iV _) rfl) | exact (r_move rfl)) rfl (rfl) ?_
                  refine l_vg (r_neqi rfl rfl) rfl (rfl) ?_
                  refine l_vg (by first | exact (r_move (v := bV _) rfl) | exact (r_move rfl)) rfl (rfl) ?_
                  refine l_no rfl (f70) ?_
                  refine l_no rfl (f70) ?_
                  refine l_no rfl (f70) ?_
                  refine l_no rfl (f70) ?_
                  refine l_vg (r_pick_f rfl f70 rfl) rfl (rfl) ?_
                  refine l_v (r_pick_f rfl rfl rfl) ?_
                  refine l_v (by first | exact (r_move (v := bV _) rfl) | exact (r_move rfl)) ?_
                  refine l_vg (by first | exact (r_move (v := iV _) rfl) | exact (r_move rfl)) rfl (rfl) ?_
                  refine l_vg (r_geqi rfl rfl) rfl (rfl) ?_
                  refine l_vg (by first | exact (r_move (v := bV _) rfl) | exact (r_move rfl)) rfl (rfl) ?_
                  refine l_vg (r_move (v := .pointer _) rfl) rfl (f80) ?_
                  refine l_callg (r_call Try.func22 rfl rfl) rfl (f80) ?_
                  refine Calls.mono (steps_c b T.1 w _ _ (hs.pull 1)) ?_
                  rintro e w_ ⟨rfl, hww9⟩
                  refine ⟨_, rfl, ?_⟩
                  rw [hww9]
                  refine l_vg (by first | exact (r_move (v := iV _) rfl) | exact (r_move rfl)) rfl (f80) ?_
                  refine l_vg (r_gtri rfl rfl) rfl (f80) ?_
                  refine l_vg (r_pick_t rfl f80 rfl) rfl (rfl) ?_
                  refine l_v (r_pick_f rfl rfl rfl) ?_
                  refine l_nil (nrm_then ?_)
                  refine And.intro (by refine ⟨?_, ?_, ?_, ?_, ?_, ?_, ?_, trivial⟩ <;> ((conv => lhs; whnf); (try conv => rhs; whnf))) ?_
                  exact ⟨rfl, congrArg bV f85⟩
              · have f50 : decide (T.2 = 0) = false := decide_eq_false hE
                have f70 : decide (T.2 ≠ 0) = true := decide_eq_true hE
                have f80 : decide (n ≥ 0) = true := decide_eq_true hN
                have f85 : decide (T.1.steps > n) = false := decide_eq_false (by have := p3 hN; omega)
                have f75 : decide (T.1.steps ≠ S.steps) = false := decide_eq_false (fun h => h (p2 hE))
                refine c_region ?_
                refine l_v (by first | exact (r_move (v := iV _) rfl) | exact (r_move rfl)) ?_
                refine l_v (r_eqli rfl rfl) ?_
                refine l_v (by first | exact (r_move (v := bV _) rfl) | exact (r_move rfl)) ?_
                refine l_no rfl (f50) ?_
                refine l_no rfl (f50) ?_
                refine l_no rfl (f50) ?_
                refine l_v (r_pick_f rfl f50 rfl) ?_
                refine l_v (by first | exact (r_move (v := bV _) rfl) | exact (r_move rfl)) ?_
                refine l_no rfl (rfl) ?_
                refine l_no rfl (rfl) ?_
                refine l_no rfl (rfl) ?_
                refine l_v (r_pick_f rfl rfl rfl) ?_
                refine l_v (by first | exact (r_move (v := bV _) rfl) | exact (r_move rfl)) ?_
                refine l_no rfl (rfl) ?_
                refine l_no rfl (rfl) ?_
                refine l_no rfl (rfl) ?_
                refine l_no rfl (rfl) ?_
                refine l_no rfl (rfl) ?_
                refine l_v (r_pick_f rfl rfl rfl) ?_
                refine l_v (by first | exact (r_move (v := bV _) rfl) | exact (r_move rfl)) ?_
                refine l_vg (by first | exact (r_move (v := iV _) rfl) | exact (r_move rfl)) rfl (rfl) ?_
                refine l_vg (r_neqi rfl rfl) rfl (rfl) ?_
                refine l_vg (by first | exact (r_move (v := bV _) rfl) | exact (r_move rfl)) rfl (rfl) ?_
                refine l_vg (r_move (v := .pointer _) rfl) rfl (f70) ?_
                refine l_callg (r_call Try.func22 rfl rfl) rfl (f70) ?_
                refine Calls.mono (steps_c b T.1 w _ _ (hs.pull 1)) ?_
                rintro e w_ ⟨rfl, hww9⟩
                refine ⟨_, rfl, ?_⟩
                rw [hww9]
                refine l_vg (by first | exact (r_move (v := iV _) rfl) | exact (r_move rfl)) rfl (f70) ?_
                refine l_vg (r_neqi rfl rfl) rfl (f70) ?_
                refine l_vg (r_pick_t rfl f70 rfl) rfl (rfl) ?_
                refine l_v (r_pick_f rfl rfl rfl) ?_
                refine l_v (by first | exact (r_move (v := bV _) rfl) | exact (r_move rfl)) ?_
                refine l_vg (by first | exact (r_move (v := iV _) rfl) | exact (r_move rfl)) rfl (f75) ?_
                refine l_vg (r_geqi rfl rfl) rfl (f75) ?_
                refine l_vg (by first | exact (r_move (v := bV _) rfl) | exact (r_move rfl)) rfl (f75) ?_
                refine l_vg (r_move (v := .pointer _) rfl) rfl (f80) ?_
                refine l_callg (r_call Try.func22 rfl rfl) rfl (f80) ?_
                refine Calls.mono (steps_c b T.1 w _ _ (hs.pull 1)) ?_
                rintro e w_ ⟨rfl, hww9⟩
                refine ⟨_, rfl, ?_⟩
                rw [hww9]
                refine l_vg (by first | exact (r_move (v := iV _) rfl) | exact (r_move rfl)) rfl (f80) ?_
                refine l_vg (r_gtri rfl rfl) rfl (f80) ?_
                refine l_vg (r_pick_t rfl f80 rfl) rfl (f75) ?_
                refine l_v (r_pick_f rfl f75 rfl) ?_
                refine l_nil (nrm_then ?_)
                refine And.intro (by refine ⟨?_, ?_, ?_, ?_, ?_, ?_, ?_, trivial⟩ <;> ((conv => lhs; whnf); (try conv => rhs; whnf))) ?_
                exact ⟨rfl, congrArg bV f85⟩
            · by_cases hE : T.2 = 0
              · by_cases hk1 : o.kind ≥ 1
                · by_cases hk5 : o.kind ≤ 5
                  · have f50 : decide (T.2 = 0) = true := decide_eq_true hE
                    have f70 : decide (T.2 ≠ 0) = false := decide_eq_false (fun h => h hE)
                    have f80 : decide (n ≥ 0) = false := decide_eq_false hN
                    have f54 : decide (o.kind ≥ 1) = true := decide_eq_true hk1
                    have f59 : decide (o.kind ≤ 5) = true := decide_eq_true hk5
                    have f66 : decide (T.1.steps ≠ S.steps + 1) = false := decide_eq_false (fun h => h (p1 hE ⟨hk1, hk5⟩))
                    refine c_region ?_
                    refine l_v (by first | exact (r_move (v := iV _) rfl) | exact (r_move rfl)) ?_
                    refine l_v (r_eqli rfl rfl) ?_
                    refine l_v (by first | exact (r_move (v := bV _) rfl) | exact (r_move rfl)) ?_
                    refine l_vg (by first | exact (r_fieldAddr0 (off := 0) (T := 3) (by kernel_rfl) rfl) | exact (r_fieldAddr (off := 0) (T := 3) (by kernel_rfl) rfl)) rfl (f50) ?_
                    refine l_vg (r_load_at (i := 0) hs rfl Try.underlying3 rfl rfl) rfl (f50) ?_
                    refine l_vg (r_geqi rfl rfl) rfl (f50) ?_
                    refine l_v (r_pick_t rfl f50 rfl) ?_
                    refine l_v (by first | exact (r_move (v := bV _) rfl) | exact (r_move rfl)) ?_
                    refine l_vg (by first | exact (r_fieldAddr0 (off := 0) (T := 3) (by kernel_rfl) rfl) | exact (r_fieldAddr (off := 0) (T := 3) (by kernel_rfl) rfl)) rfl (f54) ?_
                    refine l_vg (r_load_at (i := 0) hs rfl Try.underlying3 rfl rfl) rfl (f54) ?_
                    refine l_vg (r_leqi rfl rfl) rfl (f54) ?_
                    refine l_v (r_pick_t rfl f54 rfl) ?_
                    refine l_v (by first | exact (r_move (v := bV _) rfl) | exact (r_move rfl)) ?_
                    refine l_vg (r_move (v := .pointer _) rfl) rfl (f59) ?_
                    refine l_callg (r_call Try.func22 rfl rfl) rfl (f59) ?_
                    refine Calls.mono (steps_c b T.1 w _ _ (hs.pull 1)) ?_
                    rintro e w_ ⟨rfl, hww9⟩
                    refine ⟨_, rfl, ?_⟩
                    rw [hww9]
                    refine l_vg (by first | exact (r_move (v := iV _) rfl) | exact (r_move rfl)) rfl (f59) ?_
                    refine l_vg (r_addi rfl rfl (by omega)) rfl (f59) ?_
                    refine l_vg (r_neqi rfl rfl) rfl (f59) ?_
                    refine l_v (r_pick_t rfl f59 rfl) ?_
                    refine l_v (by first | exact (r_move (v := bV _) rfl) | exact (r_move rfl)) ?_
                    refine l_vg (by first | exact (r_move (v := iV _) rfl) | exact (r_move rfl)) rfl (f66) ?_
                    refine l_vg (r_neqi rfl rfl) rfl (f66) ?_
                    refine l_vg (by first | exact (r_move (v := bV _) rfl) | exact (r_move rfl)) rfl (f66) ?_
                    refine l_no rfl (f70) ?_
                    refine l_no rfl (f70) ?_
                    refine l_no rfl (f70) ?_
                    refine l_no rfl (f70) ?_
                    refine l_vg (r_pick_f rfl f70 rfl) rfl (f66) ?_
                    refine l_v (r_pick_f rfl f66 rfl) ?_
                    refine l_v (by first | exact (r_move (v := bV _) rfl) | exact (r_move rfl)) ?_
                    refine l_vg (by first | exact (r_move (v := iV _) rfl) | exact (r_move rfl)) rfl (rfl) ?_
                    refine l_vg (r_geqi rfl rfl) rfl (rfl) ?_
                    refine l_vg (by first | exact (r_move (v := bV _) rfl) | exact (r_move rfl)) rfl (rfl) ?_
                    refine l_no rfl (f80) ?_
                    refine l_no rfl (f80) ?_
                    refine l_no rfl (f80) ?_
                    refine l_no rfl (f80) ?_
                    refine l_vg (r_pick_f rfl f80 rfl) rfl (rfl) ?_
                    refine l_v (r_pick_f rfl rfl rfl) ?_
                    refine l_nil (nrm_then ?_)
                    refine And.intro (by refine ⟨?_, ?_, ?_, ?_, ?_, ?_, ?_, trivial⟩ <;> ((conv => lhs; whnf); (try conv => rhs; whnf))) ?_
                    exact ⟨rfl, rfl⟩
                  · have f50 : decide (T.2 = 0) = true := decide_eq_true hE
                    have f70 : decide (T.2 ≠ 0) = false := decide_eq_false (fun h => h hE)
                    have f80 : decide (n ≥ 0) = false := decide_eq_false hN
                    have f54 : decide (o.kind ≥ 1) = true := decide_eq_true hk1
                    have f59 : decide (o.kind ≤ 5) = false := decide_eq_false hk5
                    refine c_region ?_
                    refine l_v (by first | exact (r_move (v := iV _) rfl) | exact (r_move rfl)) ?_
                    refine l_v (r_eqli rfl rfl) ?_
                    refine l_v (by first | exact (r_move (v := bV _) rfl) | exact (r_move rfl)) ?_
                    refine l_vg (by first | exact (r_fieldAddr0 (off := 0) (T := 3) (by kernel_rfl) rfl) | exact (r_fieldAddr (off := 0) (T := 3) (by kernel_rfl) rfl)) rfl (f50) ?_
                    refine l_vg (r_load_at (i := 0) hs rfl Try.underlying3 rfl rfl) rfl (f50) ?_
                    refine l_vg (r_geqi rfl rfl) rfl (f50) ?_
                    refine l_v (r_pick_t rfl f50 rfl) ?_
                    refine l_v (by first | exact (r_move (v := bV _) rfl) | exact (r_move rfl)) ?_
                    refine l_vg (by first | exact (r_fieldAddr0 (off := 0) (T := 3) (by kernel_rfl) rfl) | exact (r_fieldAddr (off := 0) (T := 3) (by kernel_rfl) rfl)) rfl (f54) ?_
                    refine l_vg (r_load_at (i := 0) hs rfl Try.underlying3 rfl rfl) rfl (f54) ?_
                    refine l_vg (r_leqi rfl rfl) rfl (f54) ?_
                    refine l_v (r_pick_t rfl f54 rfl) ?_
                    refine l_v (by first | exact (r_move (v := bV _) rfl) | exact (r_move rfl)) ?_
                    refine l_no rfl (f59) ?_
                    refine l_no rfl (f59) ?_
                    refine l_no rfl (f59) ?_
                    refine l_no rfl (f59) ?_
                    refine l_no rfl (f59) ?_
                    refine l_v (r_pick_f rfl f59 rfl) ?_
                    refine l_v (by first | exact (r_move (v := bV _) rfl) | exact (r_move rfl)) ?_
                    refine l_vg (by first | exact (r_move (v := iV _) rfl) | exact (r_move rfl)) rfl (rfl) ?_
                    refine l_vg (r_neqi rfl rfl) rfl (rfl) ?_
                    refine l_vg (by first | exact (r_move (v := bV _) rfl) | exact (r_move rfl)) rfl (rfl) ?_
                    refine l_no rfl (f70) ?_
                    refine l_no rfl (f70) ?_
                    refine l_no rfl (f70) ?_
                    refine l_no rfl (f70) ?_
                    refine l_vg (r_pick_f rfl f70 rfl) rfl (rfl) ?_
                    refine l_v (r_pick_f rfl rfl rfl) ?_
                    refine l_v (by first | exact (r_move (v := bV _) rfl) | exact (r_move rfl)) ?_
                    refine l_vg (by first | exact (r_move (v := iV _) rfl) | exact (r_move rfl)) rfl (rfl) ?_
                    refine l_vg (r_geqi rfl rfl) rfl (rfl) ?_
                    refine l_vg (by first | exact (r_move (v := bV _) rfl) | exact (r_move rfl)) rfl (rfl) ?_
                    refine l_no rfl (f80) ?_
                    refine l_no rfl (f80) ?_
                    refine l_no rfl (f80) ?_
                    refine l_no rfl (f80) ?_
                    refine l_vg (r_pick_f rfl f80 rfl) rfl (rfl) ?_
                    refine l_v (r_pick_f rfl rfl rfl) ?_
                    refine l_nil (nrm_then ?_)
                    refine And.intro (by refine ⟨?_, ?_, ?_, ?_, ?_, ?_, ?_, trivial⟩ <;> ((conv => lhs; whnf); (try conv => rhs; whnf))) ?_
                    exact ⟨rfl, rfl⟩
                · have f50 : decide (T.2 = 0) = true := decide_eq_true hE
                  have f70 : decide (T.2 ≠ 0) = false := decide_eq_false (fun h => h hE)
                  have f80 : decide (n ≥ 0) = false := decide_eq_false hN
                  have f54 : decide (o.kind ≥ 1) = false := decide_eq_false hk1
                  refine c_region ?_
                  refine l_v (by first | exact (r_move (v := iV _) rfl) | exact (r_move rfl)) ?_
                  refine l_v (r_eqli rfl rfl) ?_
                  refine l_v (by first | exact (r_move (v := bV _) rfl) | exact (r_move rfl)) ?_
                  refine l_vg (by first | exact (r_fieldAddr0 (off := 0) (T := 3) (by kernel_rfl) rfl) | exact (r_fieldAddr (off := 0) (T := 3) (by kernel_rfl) rfl)) rfl (f50) ?_
                  refine l_vg (r_load_at (i := 0) hs rfl Try.underlying3 rfl rfl) rfl (f50) ?_
                  refine l_vg (r_geqi rfl rfl) rfl (f50) ?_
                  refine l_v (r_pick_t rfl f50 rfl) ?_
                  refine l_v (by first | exact (r_move (v := bV _) rfl) | exact (r_move rfl)) ?_
                  refine l_no rfl (f54) ?_
                  refine l_no rfl (f54) ?_
                  refine l_no rfl (f54) ?_
                  refine l_v (r_pick_f rfl f54 rfl) ?_
                  refine l_v (by first | exact (r_move (v := bV _) rfl) | exact (r_move rfl)) ?_
                  refine l_no rfl (rfl) ?_
                  refine l_no rfl (rfl) ?_
                  refine l_no rfl (rfl) ?_
                  refine l_no rfl (rfl) ?_
                  refine l_no rfl (rfl) ?_
                  refine l_v (r_pick_f rfl rfl rfl) ?_
                  refine l_v (by first | exact (r_move (v := bV _) rfl) | exact (r_move rfl)) ?_
                  refine l_vg (by first | exact (r_move (v := iV _) rfl) | exact (r_move rfl)) rfl (rfl) ?_
                  refine l_vg (r_neqi rfl rfl) rfl (rfl) ?_
                  refine l_vg (by first | exact (r_move (v := bV _) rfl) | exact (r_move rfl)) rfl (rfl) ?_
                  refine l_no rfl (f70) ?_
                  refine l_no rfl (f70) ?_
                  refine l_no rfl (f70) ?_
                  refine l_no rfl (f70) ?_
                  refine l_vg (r_pick_f rfl f70 rfl) rfl (rfl) ?_
                  refine l_v (r_pick_f rfl rfl rfl) ?_
                  refine l_v (by first | exact (r_move (v := bV _) rfl) | exact (r_move rfl)) ?_
                  refine l_vg (by first | exact (r_move (v := iV _) rfl) | exact (r_move rfl)) rfl (rfl) ?_
                  refine l_vg (r_geqi rfl rfl) rfl (rfl) ?_
                  refine l_vg (by first | exact (r_move (v := bV _) rfl) | exact (r_move rfl)) rfl (rfl) ?_
                  refine l_no rfl (f80) ?_
                  refine l_no rfl (f80) ?_
                  refine l_no rfl (f80) ?_
                  refine l_no rfl (f80) ?_
                  refine l_vg (r_pick_f rfl f80 rfl) rfl (rfl) ?_
                  refine l_v (r_pick_f rfl rfl rfl) ?_
                  refine l_nil (nrm_then ?_)
                  refine And.intro (by refine ⟨?_, ?_, ?_, ?_, ?_, ?_, ?_, trivial⟩ <;> ((conv => lhs; whnf); (try conv => rhs; whnf))) ?_
                  exact ⟨rfl, rfl⟩
              · have f50 : decide (T.2 = 0) = false := decide_eq_false hE
                have f70 : decide (T.2 ≠ 0) = true := decide_eq_true hE
                have f80 : decide (n ≥ 0) = false := decide_eq_false hN
                have f75 : decide (T.1.steps ≠ S.steps) = false := decide_eq_false (fun h => h (p2 hE))
                refine c_region ?_
                refine l_v (by first | exact (r_move (v := iV _) rfl) | exact (r_move rfl)) ?_
                refine l_v (r_eqli rfl rfl) ?_
                refine l_v (by first | exact (r_move (v := bV _) rfl) | exact (r_move rfl)) ?_
                refine l_no rfl (f50) ?_
                refine l_no rfl (f50) ?_
                refine l_no rfl (f50) ?_
                refine l_v (r_pick_f rfl f50 rfl) ?_
                refine l_v (by first | exact (r_move (v := bV _) rfl) | exact (r_move rfl)) ?_
                refine l_no rfl (rfl) ?_
                refine l_no rfl (rfl) ?_
                refine l_no rfl (rfl) ?_
                refine l_v (r_pick_f rfl rfl rfl) ?_
                refine l_v (by first | exact (r_move (v := bV _) rfl) | exact (r_move rfl)) ?_
                refine l_no rfl (rfl) ?_
                refine l_no rfl (rfl) ?_
                refine l_no rfl (rfl) ?_
                refine l_no rfl (rfl) ?_
                refine l_no rfl (rfl) ?_
                refine l_v (r_pick_f rfl rfl rfl) ?_
                refine l_v (by first | exact (r_move (v := bV _) rfl) | exact (r_move rfl)) ?_
                refine l_vg (by first | exact (r_move (v := iV _) rfl) | exact (r_move rfl)) rfl (rfl) ?_
                refine l_vg (r_neqi rfl rfl) rfl (rfl) ?_
                refine l_vg (by first | exact (r_move (v := bV _) rfl) | exact (r_move rfl)) rfl (rfl) ?_
                refine l_vg (r_move (v := .pointer _) rfl) rfl (f70) ?_
                refine l_callg (r_call Try.func22 rfl rfl) rfl (f70) ?_
                refine Calls.mono (steps_c b T.1 w _ _ (hs.pull 1)) ?_
                rintro e w_ ⟨rfl, hww9⟩
                refine ⟨_, rfl, ?_⟩
                rw [hww9]
                refine l_vg (by first | exact (r_move (v := iV _) rfl) | exact (r_move rfl)) rfl (f70) ?_
                refine l_vg (r_neqi rfl rfl) rfl (f70) ?_
                refine l_vg (r_pick_t rfl f70 rfl) rfl (rfl) ?_
                refine l_v (r_pick_f rfl rfl rfl) ?_
                refine l_v (by first | exact (r_move (v := bV _) rfl) | exact (r_move rfl)) ?_
                refine l_vg (by first | exact (r_move (v := iV _) rfl) | exact (r_move rfl)) rfl (f75) ?_
                refine l_vg (r_geqi rfl rfl) rfl (f75) ?_
                refine l_vg (by first | exact (r_move (v := bV _) rfl) | exact (r_move rfl)) rfl (f75) ?_
                refine l_no rfl (f80) ?_
                refine l_no rfl (f80) ?_
                refine l_no rfl (f80) ?_
                refine l_no rfl (f80) ?_
                refine l_vg (r_pick_f rfl f80 rfl) rfl (f75) ?_
                refine l_v (r_pick_f rfl f75 rfl) ?_
                refine l_nil (nrm_then ?_)
                refine And.intro (by refine ⟨?_, ?_, ?_, ?_, ?_, ?_, ?_, trivial⟩ <;> ((conv => lhs; whnf); (try conv => rhs; whnf))) ?_
                exact ⟨rfl, rfl⟩
          · rintro g w_ ⟨rfl, h87⟩
            show OkC _ _ _ _ _ _
            refine OkC.env ?_ (fixH (L := [(87, _)]) ⟨h87, trivial⟩)
            clear h87
            refine c_false rfl (rfl) ?_
            refine c_skip (nrm_then ?_)
            refine c_seq ?_
            refine c_mid [0, 1, 4, 5, 7] (fun f' w' => w' = w_ ∧ f' 116 = bV false) ?_ ?_
            · rcases Bool.eq_false_or_eq_true T.1.down with hd | hd
              · obtain ⟨hn0, hsn⟩ := p5 hd
                have f108 : decide (n < 0) = false := decide_eq_false (by omega)
                have f113 : decide (T.1.steps ≠ n) = false := decide_eq_false (fun h => h hsn)
                by_cases hk1 : o.kind ≥ 1
                · have f95 : decide (o.kind ≥ 1) = true := decide_eq_true hk1
                  have f102 : (decide (T.2 = 8) != decide (o.kind ≤ 5)) = false := by
                    by_cases hk5 : o.kind ≤ 5
                    · rw [decide_eq_true hk5, decide_eq_true (p4.2 ⟨hd, hk1, hk5⟩)]; rfl
                    · rw [decide_eq_false hk5, decide_eq_false (fun h => hk5 (p4.1 h).2.2)]; rfl
                  refine c_region ?_
                  refine l_v (by first | exact (r_move (v := iV _) rfl) | exact (r_move rfl)) ?_
                  refine l_v (r_eqli rfl rfl) ?_
                  refine l_v (r_move (v := .pointer _) rfl) ?_
                  refine l_call (r_call Try.func18 rfl rfl) ?_
                  refine Calls.mono (down_c b T.1 w _ _ (hs.pull 1)) ?_
                  rintro e w_ ⟨rfl, hwd⟩
                  refine ⟨_, rfl, ?_⟩
                  rw [hwd]
                  refine l_v (by first | exact (r_move (v := bV _) rfl) | exact (r_move rfl)) ?_
                  refine l_vg (by first | exact (r_fieldAddr0 (off := 0) (T := 3) (by kernel_rfl) rfl) | exact (r_fieldAddr (off := 0) (T := 3) (by kernel_rfl) rfl)) rfl (hd) ?_
                  refine l_vg (r_load_at (i := 0) hs rfl Try.underlying3 rfl rfl) rfl (hd) ?_
                  refine l_vg (r_geqi rfl rfl) rfl (hd) ?_
                  refine l_v (r_pick_t rfl hd rfl) ?_
                  refine l_v (by first | exact (r_move (v := bV _) rfl) | exact (r_move rfl)) ?_
                  refine l_vg (by first | exact (r_fieldAddr0 (off := 0) (T := 3) (by kernel_rfl) rfl) | exact (r_fieldAddr (off := 0) (T := 3) (by kernel_rfl) rfl)) rfl (f95) ?_
                  refine l_vg (r_load_at (i := 0) hs rfl Try.underlying3 rfl rfl) rfl (f95) ?_
                  refine l_vg (r_leqi rfl rfl) rfl (f95) ?_
                  refine l_v (r_pick_t rfl f95 rfl) ?_
                  refine l_v (r_neqb Try.underlying4 rfl rfl) ?_
                  refine l_v (by first | exact (r_move (v := bV _) rfl) | exact (r_move rfl)) ?_
                  refine l_vg (r_move (v := .pointer _) rfl) rfl (f102) ?_
                  refine l_callg (r_call Try.func18 rfl rfl) rfl (f102) ?_
                  refine Calls.mono (down_c b T.1 w _ _ (hs.pull 1)) ?_
                  rintro e w_ ⟨rfl, hwd2⟩
                  refine ⟨_, rfl, ?_⟩
                  rw [hwd2]
                  refine l_vg (by first | exact (r_move (v := bV _) rfl) | exact (r_move rfl)) rfl (f102) ?_
                  refine l_vg (by first | exact (r_move (v := iV _) rfl) | exact (r_move rfl)) rfl (hd) ?_
                  refine l_vg (r_lssi rfl rfl) rfl (hd) ?_
                  refine l_vg (by first | exact (r_move (v := bV _) rfl) | exact (r_move rfl)) rfl (hd) ?_
                  refine l_vg (r_move (v := .pointer _) rfl) rfl (f108) ?_
                  refine l_callg (r_call Try.func22 rfl rfl) rfl (f108) ?_
                  refine Calls.mono (steps_c b T.1 w _ _ (hs.pull 1)) ?_
                  rintro e w_ ⟨rfl, hwd3⟩
                  refine ⟨_, rfl, ?_⟩
                  rw [hwd3]
                  refine l_vg (by first | exact (r_move (v := iV _) rfl) | exact (r_move rfl)) rfl (f108) ?_
                  refine l_vg (r_neqi rfl rfl) rfl (f108) ?_
                  refine l_vg (r_pick_f rfl f108 rfl) rfl (hd) ?_
                  refine l_vg (r_pick_t rfl hd rfl) rfl (f102) ?_
                  refine l_v (r_pick_f rfl f102 rfl) ?_
                  refine l_nil (nrm_then ?_)
                  refine And.intro (by refine ⟨?_, ?_, ?_, ?_, ?_, trivial⟩ <;> ((conv => lhs; whnf); (try conv => rhs; whnf))) ?_
                  exact ⟨rfl, congrArg bV f113⟩
                · have f95 : decide (o.kind ≥ 1) = false := decide_eq_false hk1
                  have f102 : (decide (T.2 = 8) != false) = false := by rw [decide_eq_false (fun h => hk1 (p4.1 h).2.1)]; rfl
                  refine c_region ?_
                  refine l_v (by first | exact (r_move (v := iV _) rfl) | exact (r_move rfl)) ?_
                  refine l_v (r_eqli rfl rfl) ?_
                  refine l_v (r_move (v := .pointer _) rfl) ?_
                  refine l_call (r_call Try.func18 rfl rfl) ?_
                  refine Calls.mono (down_c b T.1 w _ _ (hs.pull 1)) ?_
                  rintro e w_ ⟨rfl, hwd⟩
                  refine ⟨_, rfl, ?_⟩
                  rw [hwd]
                  refine l_v (by first | exact (r_move (v := bV _) rfl) | exact (r_move rfl)) ?_
                  refine l_vg (by first | exact (r_fieldAddr0 (off := 0) (T := 3) (by kernel_rfl) rfl) | exact (r_fieldAddr (off := 0) (T := 3) (by kernel_rfl) rfl)) rfl (hd) ?_
                  refine l_vg (r_load_at (i := 0) hs rfl Try.underlying3 rfl rfl) rfl (hd) ?_
                  refine l_vg (r_geqi rfl rfl) rfl (hd) ?_
                  refine l_v (r_pick_t rfl hd rfl) ?_
                  refine l_v (by first | exact (r_move (v := bV _) rfl) | exact (r_move rfl)) ?_
                  refine l_no rfl (f95) ?_
                  refine l_no rfl (f95) ?_
                  refine l_no rfl (f95) ?_
                  refine l_v (r_pick_f rfl f95 rfl) ?_
                  refine l_v (r_neqb Try.underlying4 rfl rfl) ?_
                  refine l_v (by first | exact (r_move (v := bV _) rfl) | exact (r_move rfl)) ?_
                  refine l_vg (r_move (v := .pointer _) rfl) rfl (f102) ?_
                  refine l_callg (r_call Try.func18 rfl rfl) rfl (f102) ?_
                  refine Calls.mono (down_c b T.1 w _ _ (hs.pull 1)) ?_
                  rintro e w_ ⟨rfl, hwd2⟩
                  refine ⟨_, rfl, ?_⟩
                  rw [hwd2]
                  refine l_vg (by first | exact (r_move (v := bV _) rfl) | exact (r_move rfl)) rfl (f102) ?_
                  refine l_vg (by first | exact (r_move (v := iV _) rfl) | exact (r_move rfl)) rfl (hd) ?_
                  refine l_vg (r_lssi rfl rfl) rfl (hd) ?_
                  refine l_vg (by first | exact (r_move (v := bV _) rfl) | exact (r_move rfl)) rfl (hd) ?_
                  refine l_vg (r_move (v := .pointer _) rfl) rfl (f108) ?_
                  refine l_callg (r_call Try.func22 rfl rfl) rfl (f108) ?_
                  refine Calls.mono (steps_c b T.1 w _ _ (hs.pull 1)) ?_
                  rintro e w_ ⟨rfl, hwd3⟩
                  refine ⟨_, rfl, ?_⟩
                  rw [hwd3]
                  refine l_vg (by first | exact (r_move (v := iV _) rfl) | exact (r_move rfl)) rfl (f108) ?_
                  refine l_vg (r_neqi rfl rfl) rfl (f108) ?_
                  refine l_vg (r_pick_f rfl f108 rfl) rfl (hd) ?_
                  refine l_vg (r_pick_t rfl hd rfl) rfl (f102) ?_
                  refine l_v (r_pick_f rfl f102 rfl) ?_
                  refine l_nil (nrm_then ?_)
                  refine And.intro (by refine ⟨?_, ?_, ?_, ?_, ?_, trivial⟩ <;> ((conv => lhs; whnf); (try conv => rhs; whnf))) ?_
                  exact ⟨rfl, congrArg bV f113⟩
              · have f102 : (decide (T.2 = 8) != false) = false := by rw [decide_eq_false (fun h => by have := (p4.1 h).1; rw [hd] at this; cases this)]; rfl
                refine c_region ?_
                refine l_v (by first | exact (r_move (v := iV _) rfl) | exact (r_move rfl)) ?_
                refine l_v (r_eqli rfl rfl) ?_
                refine l_v (r_move (v := .pointer _) rfl) ?_
                refine l_call (r_call Try.func18 rfl rfl) ?_
                refine Calls.mono (down_c b T.1 w _ _ (hs.pull 1)) ?_
                rintro e w_ ⟨rfl, hwd⟩
                refine ⟨_, rfl, ?_⟩
                rw [hwd]
                refine l_v (by first | exact (r_move (v := bV _) rfl) | exact (r_move rfl)) ?_
                refine l_no rfl (hd) ?_
                refine l_no rfl (hd) ?_
                refine l_no rfl (hd) ?_
                refine l_v (r_pick_f rfl hd rfl) ?_
                refine l_v (by first | exact (r_move (v := bV _) rfl) | exact (r_move rfl)) ?_
                refine l_no rfl (rfl) ?_
                refine l_no rfl (rfl) ?_
                refine l_no rfl (rfl) ?_
                refine l_v (r_pick_f rfl rfl rfl) ?_
                refine l_v (r_neqb Try.underlying4 rfl rfl) ?_
                refine l_v (by first | exact (r_move (v := bV _) rfl) | exact (r_move rfl)) ?_
                refine l_vg (r_move (v := .pointer _) rfl) rfl (f102) ?_
                refine l_callg (r_call Try.func18 rfl rfl) rfl (f102) ?_
                refine Calls.mono (down_c b T.1 w _ _ (hs.pull 1)) ?_
                rintro e w_ ⟨rfl, hwd2⟩
                refine ⟨_, rfl, ?_⟩
                rw [hwd2]
                refine l_vg (by first | exact (r_move (v := bV _) rfl) | exact (r_move rfl)) rfl (f102) ?_
                refine l_no rfl (hd) ?_
                refine l_no rfl (hd) ?_
                refine l_no rfl (hd) ?_
                refine l_skip (.inr rfl) ?_
                refine l_skip (.inr rfl) ?_
                refine l_skip (.inr rfl) ?_
                refine l_skip (.inr rfl) ?_
                refine l_no rfl (hd) ?_
                refine l_vg (r_pick_f rfl hd rfl) rfl (f102) ?_
                refine l_v (r_pick_f rfl f102 rfl) ?_
                refine l_nil (nrm_then ?_)
                refine And.intro (by refine ⟨?_, ?_, ?_, ?_, ?_, trivial⟩ <;> ((conv => lhs; whnf); (try conv => rhs; whnf))) ?_
                exact ⟨rfl, rfl⟩
            · rintro g w_ ⟨rfl, h116⟩
              show OkC _ _ _ _ _ _
              refine OkC.env ?_ (fixH (L := [(116, _)]) ⟨h116, trivial⟩)
              clear h116
              refine c_false rfl (rfl) ?_
              refine c_skip (nrm_block (nrm_then ?_))
              refine c_region ?_
              refine l_v (by first | exact (r_move (v := iV _) rfl) | exact (r_move rfl)) ?_
              refine l_v (r_addi rfl rfl (by omega)) ?_
              refine l_v (by first | exact (r_assign (v := iV _) rfl) | exact (r_assign rfl)) ?_
              refine l_nil (nrm_then ?_)
              refine And.intro (by refine ⟨?_, ?_, ?_, trivial⟩ <;> ((conv => lhs; whnf); (try conv => rhs; whnf))) ?_
              exact ⟨os.length - (i + 1), by omega, i + 1, T.1, by omega, rfl, hg2, hra2, by omega, by omega, by rw [htn]; omega, hro3, hs.drop⟩
      · have hil : i = os.length := by have := of_decide_eq_false h1; omega
        have htx : txtN os i ≤ 200000 := by rw [hil]; exact hz3
        replace h1 := of_decide_eq_false h1
        refine c_exit (ex_then (ex_then (ex_hit (nrm_then ?_))))
        refine c_rseq ?_
        refine l_v (r_move (v := .pointer _) rfl) ?_
        refine l_call (r_call Try.func12 rfl rfl) ?_
        refine Calls.mono (back_c b S hg none 0 [] w _ _ hs (fun w' h => Rd.none_ _ _ _)) ?_
        rintro e w_ ⟨⟨vb, rfl⟩, hs⟩
        refine ⟨_, rfl, ?_⟩
        have hg1 := good_back hg []
        have hu1 : (backS S []).used 1 ≤ S.used 1 := by
          have h1 := mid_sum (K := []) (Lf := fun _ => false) 1 S.files
          have h2 := hg.sum 1 (by decide)
          show ((sumT 1 (backL [] S.files) : Nat) : Int) ≤ _
          unfold backL
          omega
        have hl1 : (backS S []).files.length ≤ S.files.length := by
          show (backL [] S.files).length ≤ _
          unfold backL midL
          exact List.length_filterMap_le _ _
        have hB : (backS S []).down = false ∧ (backS S []).fuse = -1 ∧ (backS S []).room 1 = 5000 ∧ (backS S []).steps = S.steps := ⟨rfl, rfl, hro, rfl⟩
        generalize backS S [] = S1 at *
        refine l_nil (nrm_then ?_)
        refine c_rseq ?_
        refine l_v (by first | exact (r_assign (v := iV _) rfl) | exact (r_assign rfl)) ?_
        refine l_nil (nrm_then ?_)
        refine c_seq ?_
        refine c_rseq ?_
        refine l_v (by first | exact (r_assign (v := iV _) rfl) | exact (r_assign rfl)) ?_
        refine l_nil (nrm_then ?_)
        refine c_block ?_
        refine c_loopn [0, 4, 5] (fun m f' w' => ∃ k, k + m = os.length + 1 ∧ f' 12 = iV (k : Int) ∧ f' 11 = iV (freeN S1 1099511627776 k) ∧ Eng.Sep w w' (diskH b S1 :: [])) ?_ ?_
        · exact ⟨os.length + 1, 0, by omega, rfl, rfl, hs⟩
        · rintro m g w_ ⟨k, hk, h12, h11, hs⟩
          have hfg := free_ge S1 1099511627776 k
          have hfs : freeN S1 1099511627776 (k + 1) = if (S1.get (freeN S1 1099511627776 k)).isSome = true then freeN S1 1099511627776 k + 1 else freeN S1 1099511627776 k := rfl
          have hfn : S1.files.length < k → S1.get (freeN S1 1099511627776 k) = none := fun h => free_none hg1.nd 1099511627776 h
          generalize freeN S1 1099511627776 k = F at *
          refine OkC.env ?_ (fixH (L := [(12, _), (11, _)]) ⟨h12, h11, trivial⟩)
          clear h12 h11
          refine c_seq ?_
          refine c_rseq ?_
          refine l_v (by first | exact (r_move (v := iV _) rfl) | exact (r_move rfl)) ?_
          refine l_v (by first | exact (r_move (v := .slice _ _ _) rfl) | exact (r_move rfl)) ?_
          refine l_v (r_len_l Try.underlying22 rfl) ?_
          refine l_v (r_leqi rfl rfl) ?_
          refine l_nil (nrm_then ?_)
          refine c_cond rfl (fun h3 => ?_) (fun h3 => ?_)
          · have hkl : k ≤ os.length := by have := of_decide_eq_true h3; omega
            replace h3 := of_decide_eq_true h3
            refine c_skip (nrm_then ?_)
            refine c_seq ?_
            refine c_block ?_
            refine c_rseq ?_
            refine l_v (r_move (v := .pointer _) rfl) ?_
            refine l_v (by first | exact (r_move (v := iV _) rfl) | exact (r_move rfl)) ?_
            refine l_call (r_call Try.func14 rfl rfl) ?_
            refine Calls.mono (size_c b S1 hg1 F w _ _ hs) ?_
            rintro e w_ ⟨rfl, hb⟩
            refine ⟨_, rfl, ?_⟩
            have hs := hs.below_ hb
            rcases find_three S1 F with ⟨_, hd⟩ | ⟨hf, hno, _⟩ | ⟨hf, _, x, hx⟩
            · rw [hB.1] at hd; cases hd
            · rw [size_no (by rw [hf]; decide), hf]
              refine l_v (r_move rfl) ?_
              refine l_v (r_extract rfl rfl) ?_
              refine l_v (r_extract rfl rfl) ?_
              refine l_v (r_extract rfl rfl) ?_
              refine l_v (by first | exact (r_assign (v := iV _) rfl) | exact (r_assign rfl)) ?_
              refine l_v (by first | exact (r_assign (v := iV _) rfl) | exact (r_assign rfl)) ?_
              refine l_v (by first | exact (r_assign (v := iV _) rfl) | exact (r_assign rfl)) ?_
              refine l_nil (nrm_then ?_)
              refine c_rseq ?_
              refine l_v (by first | exact (r_move (v := iV _) rfl) | exact (r_move rfl)) ?_
              refine l_v (r_eqli rfl rfl) ?_
              refine l_nil (nrm_then ?_)
              refine c_false rfl (rfl) ?_
              refine c_skip (nrm_block (nrm_then ?_))
              refine c_region ?_
              refine l_v (by first | exact (r_move (v := iV _) rfl) | exact (r_move rfl)) ?_
              refine l_v (r_addi rfl rfl (by omega)) ?_
              refine l_v (by first | exact (r_assign (v := iV _) rfl) | exact (r_assign rfl)) ?_
              refine l_nil (nrm_then ?_)
              refine And.intro (by refine ⟨?_, ?_, ?_, trivial⟩ <;> ((conv => lhs; whnf); (try conv => rhs; whnf))) ?_
              exact ⟨os.length + 1 - (k + 1), by omega, k + 1, by omega, rfl, by rw [hfs, hno]; rfl, hs⟩
            · rw [size_yes hf hx]
              refine l_v (r_move rfl) ?_
              refine l_v (r_extract rfl rfl) ?_
              refine l_v (r_extract rfl rfl) ?_
              refine l_v (r_extract rfl rfl) ?_
              refine l_v (by first | exact (r_assign (v := iV _) rfl) | exact (r_assign rfl)) ?_
              refine l_v (by first | exact (r_assign (v := iV _) rfl) | exact (r_assign rfl)) ?_
              refine l_v (by first | exact (r_assign (v := iV _) rfl) | exact (r_assign rfl)) ?_
              refine l_nil (nrm_then ?_)
              refine c_rseq ?_
              refine l_v (by first | exact (r_move (v := iV _) rfl) | exact (r_move rfl)) ?_
              refine l_v (r_eqli rfl rfl) ?_
              refine l_nil (nrm_then ?_)
              refine c_true rfl (rfl) ?_
              refine c_region ?_
              refine l_v (by first | exact (r_move (v := iV _) rfl) | exact (r_move rfl)) ?_
              refine l_v (r_addi rfl rfl (by omega)) ?_
              refine l_v (by first | exact (r_assign (v := iV _) rfl) | exact (r_assign rfl)) ?_
              refine l_nil (nrm_block (nrm_then ?_))
              refine c_region ?_
              refine l_v (by first | exact (r_move (v := iV _) rfl) | exact (r_move rfl)) ?_
              refine l_v (r_addi rfl rfl (by omega)) ?_
              refine l_v (by first | exact (r_assign (v := iV _) rfl) | exact (r_assign rfl)) ?_
              refine l_nil (nrm_then ?_)
              refine And.intro (by refine ⟨?_, ?_, ?_, trivial⟩ <;> ((conv => lhs; whnf); (try conv => rhs; whnf))) ?_
              exact ⟨os.length + 1 - (k + 1), by omega, k + 1, by omega, rfl, by rw [hfs, hx]; rfl, hs⟩
          · have hkl : os.length < k := by have := of_decide_eq_false h3; omega
            have hno := hfn (by omega)
            have hmk := make_cold hB.1 hB.2.1 (by omega) hno (by rw [hB.2.2.1]; omega)
            replace h3 := of_decide_eq_false h3
            refine c_exit (ex_then (ex_then (ex_hit (nrm_then ?_))))
            refine c_rseq ?_
            refine l_v (r_move (v := .pointer _) rfl) ?_
            refine l_call (r_call Try.func18 rfl rfl) ?_
            refine Calls.mono (down_c b S1 w _ _ hs) ?_
            rintro e w_ ⟨rfl, hww⟩
            refine ⟨_, rfl, ?_⟩
            rw [hww, hB.1]
            refine l_v (r_not rfl) ?_
            refine l_v (by first | exact (r_move (v := bV _) rfl) | exact (r_move rfl)) ?_
            refine l_vg (r_move (v := .pointer _) rfl) rfl (rfl) ?_
            refine l_vg (by first | exact (r_move (v := iV _) rfl) | exact (r_move rfl)) rfl (rfl) ?_
            refine l_callg (r_call Try.func13 rfl rfl) rfl (rfl) ?_
            refine Calls.mono (make_c b S1 hg1 (by omega) 1 F w _ _ hs) ?_
            rintro e w_ ⟨rfl, hs⟩
            refine ⟨_, rfl, ?_⟩
            rw [hmk]
            refine l_vg (r_eqli rfl rfl) rfl (rfl) ?_
            refine l_v (r_pick_t rfl rfl rfl) ?_
            refine l_v (by first | exact (r_assign (v := bV _) rfl) | exact (r_assign rfl)) ?_
            refine l_nil (nrm_then ?_)
            refine c_ret ?_
            show Fin _ _ _ _ _
            refine fin1 rfl ?_
            exact ⟨rfl, hs.below⟩
  · have f : (!bf) = true := by rw [hbf]; rfl
    refine c_true rfl (f) ?_
    refine c_rseq ?_
    refine l_call (r_call Try.func8 rfl rfl) ?_
    refine Calls.mono (awake_c _) ?_
    rintro e w_ ⟨rfl, hb⟩
    refine ⟨_, rfl, ?_⟩
    have hs := hs.below_ hb
    refine l_v (by first | exact (r_assign (v := bV _) rfl) | exact (r_assign rfl)) ?_
    refine l_nil (nrm_then ?_)
    refine c_ret (ret_then ?_)
    show Fin _ _ _ _ _
    refine fin1 rfl ?_
    exact ⟨rfl, hs.below⟩
end Go.Proofs.Ytnneoipoaoefkaa.Dsk
