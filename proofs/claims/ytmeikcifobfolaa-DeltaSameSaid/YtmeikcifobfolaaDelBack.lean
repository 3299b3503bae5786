/- The laws DeltaBack and DeltaSame: the walks. -/
import Derived.Test.YtmeikcifobfolaaDelRApply
namespace Go.Proofs.Ytmeikcifobfolaa.Del
open Go Go.RowKit Go.Proofs.Ytmeikcifobfolaa.Eng Go.Proofs.Ytmeikcifobfolaa.Six
set_option linter.unusedVariables false
set_option maxRecDepth 100000
theorem one_u8s (l : List UInt8) : ∀ u ∈ l.map u8V, u.oneCell' = true := one_map (fun _ => rfl) l
theorem made_apply {bs ts : List UInt8} {ps : List Pc} (h : made bs ts ps) (hb : bs.length ≤ 4096) (ht : ts.length ≤ 4096) : apply bs (patch ts.length ps) = (ts, 0) := by
  obtain ⟨h1, h2, _⟩ := h
  have := patch_whole (b := bs) (by omega) h1 (by rw [h2]; exact ht)
  rwa [h2] at this
set_option maxHeartbeats 8000000 in
theorem deltaBack_walk {w : World} (A : Option Addr) (c : Nat) (bs : List UInt8) (hr : Rd w 1 A bs.length (bs.map u8V)) (hcap : bs.length ≤ c) (B : Option Addr) (d : Nat) (ts : List UInt8) (hr2 : Rd w 1 B ts.length (ts.map u8V)) (hcap2 : ts.length ≤ d) :
    Calls Try.prog 5 #[.slice A bs.length c, .slice B ts.length d] w fun e w' => e = .returned (bV true) ∧ Below w.heap.size w w' := by
  have hn := hr.2.1
  have hn2 := hr2.2.1
  refine enter (P := Try.prog) Try.func5 rfl rfl ?_
  have hs := Sep.init w
  refine c_rseq ?_
  refine l_v (by first | exact (r_assign (v := bV _) rfl) | exact (r_assign rfl)) ?_
  refine l_nil (nrm_then ?_)
  refine c_seq ?_
  refine c_rseq ?_
  refine l_call (r_call Try.func7 rfl rfl) ?_
  refine Calls.mono (awake_c _) ?_
  rintro e w_ ⟨rfl, hb⟩
  refine ⟨_, rfl, ?_⟩
  have hs := hs.below_ hb
  refine l_v (r_not rfl) ?_
  refine l_v (by first | exact (r_move (v := bV _) rfl) | exact (r_move rfl)) ?_
  refine l_vg (by first | exact (r_move (v := .slice _ _ _) rfl) | exact (r_move rfl)) rfl (rfl) ?_
  refine l_vg (r_len_l Try.underlying22 rfl) rfl (rfl) ?_
  refine l_vg (r_gtri rfl rfl) rfl (rfl) ?_
  refine l_v (r_pick_f rfl rfl rfl) ?_
  by_cases c1 : (bs.length : Int) > 9000
  · have f1 : decide ((bs.length : Int) > 9000) = true := decide_eq_true c1
    refine l_v (by first | exact (r_move (v := bV _) rfl) | exact (r_move rfl)) ?_
    refine l_no rfl (f1) ?_
    refine l_no rfl (f1) ?_
    refine l_no rfl (f1) ?_
    refine l_v (r_pick_t rfl f1 rfl) ?_
    refine l_nil (nrm_then ?_)
    refine c_true rfl (rfl) ?_
    refine c_rseq ?_
    refine l_call (r_call Try.func7 rfl rfl) ?_
    refine Calls.mono (awake_c _) ?_
    rintro e w_ ⟨rfl, hb⟩
    refine ⟨_, rfl, ?_⟩
    have hs := hs.below_ hb
    refine l_v (by first | exact (r_assign (v := bV _) rfl) | exact (r_assign rfl)) ?_
    refine l_nil (nrm_then ?_)
    refine c_ret (ret_then ?_)
    show Fin _ _ _ _ _
    refine fin1 rfl ?_
    exact ⟨rfl, hs.below⟩
  · have f1 : decide ((bs.length : Int) > 9000) = false := decide_eq_false c1
    refine l_v (by first | exact (r_move (v := bV _) rfl) | exact (r_move rfl)) ?_
    refine l_vg (by first | exact (r_move (v := .slice _ _ _) rfl) | exact (r_move rfl)) rfl (f1) ?_
    refine l_vg (r_len_l Try.underlying22 rfl) rfl (f1) ?_
    refine l_vg (r_gtri rfl rfl) rfl (f1) ?_
    refine l_v (r_pick_f rfl f1 rfl) ?_
    refine l_nil (nrm_then ?_)
    refine c_cond rfl (fun h2 => ?_) (fun h2 => ?_)
    · replace h2 := of_decide_eq_true h2
      refine c_rseq ?_
      refine l_call (r_call Try.func7 rfl rfl) ?_
      refine Calls.mono (awake_c _) ?_
      rintro e w_ ⟨rfl, hb⟩
      refine ⟨_, rfl, ?_⟩
      have hs := hs.below_ hb
      refine l_v (by first | exact (r_assign (v := bV _) rfl) | exact (r_assign rfl)) ?_
      refine l_nil (nrm_then ?_)
      refine c_ret (ret_then ?_)
      show Fin _ _ _ _ _
      refine fin1 rfl ?_
      exact ⟨rfl, hs.below⟩
    · replace h2 := of_decide_eq_false h2
      refine c_skip (nrm_then ?_)
      refine c_rseq ?_
      refine l_lit0 hs Try.underlying22 I5 ?_
      intro b25 w25 hs hB25 hlt25
      refine l_v (by first | exact (r_move (v := .slice _ _ _) rfl) | exact (r_move rfl)) ?_
      have hs := hs.rowOf 1 0 0 (Nat.le_refl _) (by decide) rfl
      refine l_append Try.underlying22 I5 (by kernel_rfl) (by decide) rfl rfl hs (hr.below hs.below) (one_u8s bs) (by omega) (by omega) ?_
      intro v27 w27 hs
      refine l_lit0 hs Try.underlying22 I5 ?_
      intro b28 w28 hs hB28 hlt28
      refine l_v (by first | exact (r_move (v := .slice _ _ _) rfl) | exact (r_move rfl)) ?_
      have hs := hs.rowOf 1 0 0 (Nat.le_refl _) (by decide) rfl
      refine l_append Try.underlying22 I5 (by kernel_rfl) (by decide) rfl rfl hs (hr2.below hs.below) (one_u8s ts) (by omega) (by omega) ?_
      intro v30 w30 hs
      simp only [Nat.zero_add, Nat.zero_mul, List.take_zero, List.nil_append] at hs
      obtain ⟨A2, c2, rfl, hc2⟩ := (hs.pull 1).rowForm
      obtain ⟨B2, d2, rfl, hd2⟩ := hs.rowForm
      refine l_call (r_call Try.func11 rfl rfl) ?_
      refine Calls.mono (make_c A2 B2 c2 d2 bs ts hc2 hd2 _ (hs.pull 1).rd hs.rd) ?_
      rintro e w_ ⟨⟨p, n, rfl, hbig, hok⟩, hb⟩
      refine ⟨_, rfl, ?_⟩
      have hs := hs.below_ hb
      refine l_v (r_move rfl) ?_
      refine l_v (r_extract rfl rfl) ?_
      refine l_v (r_extract rfl rfl) ?_
      refine l_v (by first | exact (r_assign (v := sV _) rfl) | exact (r_assign rfl)) ?_
      refine l_v (by first | exact (r_assign (v := iV _) rfl) | exact (r_assign rfl)) ?_
      refine l_nil (nrm_then ?_)
      refine c_seq ?_
      refine c_rseq ?_
      refine l_v (by first | exact (r_move (v := .slice _ _ _) rfl) | exact (r_move rfl)) ?_
      refine l_v (r_len_l Try.underlying22 rfl) ?_
      refine l_v (r_gtri rfl rfl) ?_
      by_cases c3 : (bs.length : Int) > 4096
      · have f3 : decide ((bs.length : Int) > 4096) = true := decide_eq_true c3
        obtain ⟨rfl, rfl⟩ := hbig (by omega)
        refine l_v (by first | exact (r_move (v := bV _) rfl) | exact (r_move rfl)) ?_
        refine l_no rfl (f3) ?_
        refine l_no rfl (f3) ?_
        refine l_no rfl (f3) ?_
        refine l_v (r_pick_t rfl f3 rfl) ?_
        refine l_nil (nrm_then ?_)
        refine c_true rfl (rfl) ?_
        refine c_rseq ?_
        refine l_v (by first | exact (r_move (v := sV _) rfl) | exact (r_move rfl)) ?_
        refine l_v (r_eqls rfl rfl) ?_
        refine l_v (by first | exact (r_move (v := bV _) rfl) | exact (r_move rfl)) ?_
        refine l_vg (by first | exact (r_move (v := iV _) rfl) | exact (r_move rfl)) rfl (rfl) ?_
        refine l_vg (r_eqli rfl rfl) rfl (rfl) ?_
        refine l_v (r_pick_t rfl rfl rfl) ?_
        refine l_v (by first | exact (r_assign (v := bV _) rfl) | exact (r_assign rfl)) ?_
        refine l_nil (nrm_then ?_)
        refine c_ret (ret_then ?_)
        show Fin _ _ _ _ _
        refine fin1 rfl ?_
        exact ⟨rfl, hs.below⟩
      · have f3 : decide ((bs.length : Int) > 4096) = false := decide_eq_false c3
        refine l_v (by first | exact (r_move (v := bV _) rfl) | exact (r_move rfl)) ?_
        refine l_vg (by first | exact (r_move (v := .slice _ _ _) rfl) | exact (r_move rfl)) rfl (f3) ?_
        refine l_vg (r_len_l Try.underlying22 rfl) rfl (f3) ?_
        refine l_vg (r_gtri rfl rfl) rfl (f3) ?_
        refine l_v (r_pick_f rfl f3 rfl) ?_
        refine l_nil (nrm_then ?_)
        refine c_cond rfl (fun h4 => ?_) (fun h4 => ?_)
        · obtain ⟨rfl, rfl⟩ := hbig (by have := of_decide_eq_true h4; omega)
          replace h4 := of_decide_eq_true h4
          refine c_rseq ?_
          refine l_v (by first | exact (r_move (v := sV _) rfl) | exact (r_move rfl)) ?_
          refine l_v (r_eqls rfl rfl) ?_
          refine l_v (by first | exact (r_move (v := bV _) rfl) | exact (r_move rfl)) ?_
          refine l_vg (by first | exact (r_move (v := iV _) rfl) | exact (r_move rfl)) rfl (rfl) ?_
          refine l_vg (r_eqli rfl rfl) rfl (rfl) ?_
          refine l_v (r_pick_t rfl rfl rfl) ?_
          refine l_v (by first | exact (r_assign (v := bV _) rfl) | exact (r_assign rfl)) ?_
          refine l_nil (nrm_then ?_)
          refine c_ret (ret_then ?_)
          show Fin _ _ _ _ _
          refine fin1 rfl ?_
          exact ⟨rfl, hs.below⟩
        · have h4' := of_decide_eq_false h4
          obtain ⟨rfl, ps, hmade, rfl⟩ := hok (by omega) (by omega)
          have hap := made_apply hmade (by omega) (by omega)
          have hlen := hmade.2.2.1
          have hz : (ofL (patch ts.length ps)).size = (patch ts.length ps).length := rfl
          replace h4 := of_decide_eq_false h4
          refine c_skip (nrm_then ?_)
          refine c_rseq ?_
          refine l_v (by first | exact (r_move (v := .slice _ _ _) rfl) | exact (r_move rfl)) ?_
          refine l_v (by first | exact (r_move (v := sV _) rfl) | exact (r_move rfl)) ?_
          refine l_call (r_call Try.func8 rfl rfl) ?_
          refine Calls.mono (apply_c A bs.length c bs (ofL (patch ts.length ps)) (by omega) w _ _ hr hcap hs (hs.size)) ?_
          rintro e w_ ⟨v, rfl, hs⟩
          refine ⟨_, rfl, ?_⟩
          rw [Eng.toL_ofL, hap] at hs ⊢
          obtain ⟨A3, c3', rfl, hc3⟩ := hs.rowForm
          refine l_v (r_move rfl) ?_
          refine l_v (r_extract rfl rfl) ?_
          refine l_v (r_extract rfl rfl) ?_
          refine l_v (by first | exact (r_assign (v := .slice _ _ _) rfl) | exact (r_assign rfl)) ?_
          refine l_v (by first | exact (r_assign (v := iV _) rfl) | exact (r_assign rfl)) ?_
          refine l_nil (nrm_then ?_)
          refine c_rseq ?_
          refine l_v (by first | exact (r_move (v := .slice _ _ _) rfl) | exact (r_move rfl)) ?_
          refine l_v (r_cv_bs (l := bs) Try.underlying22 Try.underlying5 Try.underlying9 rfl (hr.below hs.below)) ?_
          refine l_v (by first | exact (r_move (v := sV _) rfl) | exact (r_move rfl)) ?_
          refine l_call (r_call Try.func9 rfl rfl) ?_
          refine Calls.mono (rapply_c bs (patch ts.length ps) (by omega) (by omega) _) ?_
          rintro e w_ ⟨rfl, hb⟩
          refine ⟨_, rfl, ?_⟩
          have hs := hs.below_ hb
          rw [hap]
          have f5 : decide (ofL ts = ofL ts) = true := decide_eq_true rfl
          refine l_v (r_move rfl) ?_
          refine l_v (r_extract rfl rfl) ?_
          refine l_v (r_extract rfl rfl) ?_
          refine l_v (by first | exact (r_assign (v := sV _) rfl) | exact (r_assign rfl)) ?_
          refine l_v (by first | exact (r_assign (v := iV _) rfl) | exact (r_assign rfl)) ?_
          refine l_nil (nrm_then ?_)
          refine c_rseq ?_
          refine l_v (by first | exact (r_move (v := iV _) rfl) | exact (r_move rfl)) ?_
          refine l_v (r_eqli rfl rfl) ?_
          refine l_v (by first | exact (r_move (v := bV _) rfl) | exact (r_move rfl)) ?_
          refine l_vg (by first | exact (r_move (v := iV _) rfl) | exact (r_move rfl)) rfl (rfl) ?_
          refine l_vg (r_eqli rfl rfl) rfl (rfl) ?_
          refine l_v (r_pick_t rfl rfl rfl) ?_
          refine l_v (by first | exact (r_move (v := bV _) rfl) | exact (r_move rfl)) ?_
          refine l_vg (by first | exact (r_move (v := iV _) rfl) | exact (r_move rfl)) rfl (rfl) ?_
          refine l_vg (r_eqli rfl rfl) rfl (rfl) ?_
          refine l_v (r_pick_t rfl rfl rfl) ?_
          refine l_v (by first | exact (r_move (v := bV _) rfl) | exact (r_move rfl)) ?_
          refine l_vg (by first | exact (r_move (v := .slice _ _ _) rfl) | exact (r_move rfl)) rfl (rfl) ?_
          refine l_vg (r_cv_bs (l := ts) Try.underlying22 Try.underlying5 Try.underlying9 rfl hs.rd) rfl (rfl) ?_
          refine l_vg (by first | exact (r_move (v := .slice _ _ _) rfl) | exact (r_move rfl)) rfl (rfl) ?_
          refine l_vg (r_cv_bs (l := ts) Try.underlying22 Try.underlying5 Try.underlying9 rfl (hr2.below hs.below)) rfl (rfl) ?_
          refine l_vg (r_eqls rfl rfl) rfl (rfl) ?_
          refine l_v (r_pick_t rfl rfl rfl) ?_
          refine l_v (by first | exact (r_move (v := bV _) rfl) | exact (r_move rfl)) ?_
          refine l_vg (by first | exact (r_move (v := sV _) rfl) | exact (r_move rfl)) rfl (f5) ?_
          refine l_vg (by first | exact (r_move (v := .slice _ _ _) rfl) | exact (r_move rfl)) rfl (f5) ?_
          refine l_vg (r_cv_bs (l := ts) Try.underlying22 Try.underlying5 Try.underlying9 rfl (hr2.below hs.below)) rfl (f5) ?_
          refine l_vg (r_eqls rfl rfl) rfl (f5) ?_
          refine l_v (r_pick_t rfl f5 rfl) ?_
          refine l_v (by first | exact (r_move (v := bV _) rfl) | exact (r_move rfl)) ?_
          refine l_vg (by first | exact (r_move (v := sV _) rfl) | exact (r_move rfl)) rfl (f5) ?_
          refine l_vg (r_len_s Try.underlying9 rfl) rfl (f5) ?_
          refine l_vg (by first | exact (r_move (v := .slice _ _ _) rfl) | exact (r_move rfl)) rfl (f5) ?_
          refine l_vg (r_len_l Try.underlying22 rfl) rfl (f5) ?_
          refine l_vg (r_addi rfl rfl (by omega)) rfl (f5) ?_
          refine l_vg (r_leqi rfl rfl) rfl (f5) ?_
          refine l_v (r_pick_t rfl f5 rfl) ?_
          refine l_v (by first | exact (r_assign (v := bV _) rfl) | exact (r_assign rfl)) ?_
          refine l_nil (nrm_then ?_)
          refine c_ret ?_
          show Fin _ _ _ _ _
          refine fin1 rfl ?_
          exact ⟨congrArg Ending.returned (congrArg Value.bool (decide_eq_true (by omega))), hs.below⟩
set_option maxHeartbeats 8000000 in
theorem deltaSame_walk {w : World} (A : Option Addr) (c : Nat) (bs : List UInt8) (hr : Rd w 1 A bs.length (bs.map u8V)) (hcap : bs.length ≤ c) :
    Calls Try.prog 6 #[.slice A bs.length c] w fun e w' => e = .returned (bV true) ∧ Below w.heap.size w w' := by
  have hn := hr.2.1
  refine enter (P := Try.prog) Try.func6 rfl rfl ?_
  have hs := Sep.init w
  refine c_rseq ?_
  refine l_v (by first | exact (r_assign (v := bV _) rfl) | exact (r_assign rfl)) ?_
  refine l_nil (nrm_then ?_)
  refine c_seq ?_
  refine c_rseq ?_
  refine l_call (r_call Try.func7 rfl rfl) ?_
  refine Calls.mono (awake_c _) ?_
  rintro e w_ ⟨rfl, hb⟩
  refine ⟨_, rfl, ?_⟩
  have hs := hs.below_ hb
  refine l_v (r_not rfl) ?_
  refine l_v (by first | exact (r_move (v := bV _) rfl) | exact (r_move rfl)) ?_
  refine l_vg (by first | exact (r_move (v := .slice _ _ _) rfl) | exact (r_move rfl)) rfl (rfl) ?_
  refine l_vg (r_len_l Try.underlying22 rfl) rfl (rfl) ?_
  refine l_vg (r_lssi rfl rfl) rfl (rfl) ?_
  refine l_v (r_pick_f rfl rfl rfl) ?_
  by_cases c1 : (bs.length : Int) < 8
  · have f1 : decide ((bs.length : Int) < 8) = true := decide_eq_true c1
    refine l_v (by first | exact (r_move (v := bV _) rfl) | exact (r_move rfl)) ?_
    refine l_no rfl (f1) ?_
    refine l_no rfl (f1) ?_
    refine l_no rfl (f1) ?_
    refine l_v (r_pick_t rfl f1 rfl) ?_
    refine l_nil (nrm_then ?_)
    refine c_true rfl (rfl) ?_
    refine c_rseq ?_
    refine l_call (r_call Try.func7 rfl rfl) ?_
    refine Calls.mono (awake_c _) ?_
    rintro e w_ ⟨rfl, hb⟩
    refine ⟨_, rfl, ?_⟩
    have hs := hs.below_ hb
    refine l_v (by first | exact (r_assign (v := bV _) rfl) | exact (r_assign rfl)) ?_
    refine l_nil (nrm_then ?_)
    refine c_ret (ret_then ?_)
    show Fin _ _ _ _ _
    refine fin1 rfl ?_
    exact ⟨rfl, hs.below⟩
  · have f1 : decide ((bs.length : Int) < 8) = false := decide_eq_false c1
    refine l_v (by first | exact (r_move (v := bV _) rfl) | exact (r_move rfl)) ?_
    refine l_vg (by first | exact (r_move (v := .slice _ _ _) rfl) | exact (r_move rfl)) rfl (f1) ?_
    refine l_vg (r_len_l Try.underlying22 rfl) rfl (f1) ?_
    refine l_vg (r_gtri rfl rfl) rfl (f1) ?_
    refine l_v (r_pick_f rfl f1 rfl) ?_
    refine l_nil (nrm_then ?_)
    refine c_cond rfl (fun h2 => ?_) (fun h2 => ?_)
    · replace h2 := of_decide_eq_true h2
      refine c_rseq ?_
      refine l_call (r_call Try.func7 rfl rfl) ?_
      refine Calls.mono (awake_c _) ?_
      rintro e w_ ⟨rfl, hb⟩
      refine ⟨_, rfl, ?_⟩
      have hs := hs.below_ hb
      refine l_v (by first | exact (r_assign (v := bV _) rfl) | exact (r_assign rfl)) ?_
      refine l_nil (nrm_then ?_)
      refine c_ret (ret_then ?_)
      show Fin _ _ _ _ _
      refine fin1 rfl ?_
      exact ⟨rfl, hs.below⟩
    · have h2' := of_decide_eq_false h2
      replace h2 := of_decide_eq_false h2
      refine c_skip (nrm_then ?_)
      refine c_rseq ?_
      refine l_v (by first | exact (r_move (v := .slice _ _ _) rfl) | exact (r_move rfl)) ?_
      refine l_v (by first | exact (r_move (v := .slice _ _ _) rfl) | exact (r_move rfl)) ?_
      refine l_call (r_call Try.func11 rfl rfl) ?_
      refine Calls.mono (make_c A A c c bs bs hcap hcap _ (hr.below hs.below) (hr.below hs.below)) ?_
      rintro e w_ ⟨⟨p, n, rfl, hbig, hok⟩, hb⟩
      refine ⟨_, rfl, ?_⟩
      have hs := hs.below_ hb
      obtain ⟨rfl, ps, hmade, rfl⟩ := hok (by omega) (by omega)
      have hap := made_apply hmade (by omega) (by omega)
      have hlen := hmade.2.2.1
      have hlen8 := hmade.2.2.2 rfl (by omega)
      have hz : (ofL (patch bs.length ps)).size = (patch bs.length ps).length := rfl
      have f5 : decide (((ofL (patch bs.length ps)).size : Int) ≤ 8) = true := decide_eq_true (by omega)
      refine l_v (r_move rfl) ?_
      refine l_v (r_extract rfl rfl) ?_
      refine l_v (r_extract rfl rfl) ?_
      refine l_v (by first | exact (r_assign (v := sV _) rfl) | exact (r_assign rfl)) ?_
      refine l_v (by first | exact (r_assign (v := iV _) rfl) | exact (r_assign rfl)) ?_
      refine l_nil (nrm_then ?_)
      refine c_rseq ?_
      refine l_v (by first | exact (r_move (v := .slice _ _ _) rfl) | exact (r_move rfl)) ?_
      refine l_v (by first | exact (r_move (v := sV _) rfl) | exact (r_move rfl)) ?_
      refine l_call (r_call Try.func8 rfl rfl) ?_
      refine Calls.mono (apply_c A bs.length c bs (ofL (patch bs.length ps)) (by omega) w _ _ hr hcap hs (hs.size)) ?_
      rintro e w_ ⟨v, rfl, hs⟩
      refine ⟨_, rfl, ?_⟩
      rw [Eng.toL_ofL, hap] at hs ⊢
      obtain ⟨A3, c3', rfl, hc3⟩ := hs.rowForm
      refine l_v (r_move rfl) ?_
      refine l_v (r_extract rfl rfl) ?_
      refine l_v (r_extract rfl rfl) ?_
      refine l_v (by first | exact (r_assign (v := .slice _ _ _) rfl) | exact (r_assign rfl)) ?_
      refine l_v (by first | exact (r_assign (v := iV _) rfl) | exact (r_assign rfl)) ?_
      refine l_nil (nrm_then ?_)
      refine c_rseq ?_
      refine l_v (by first | exact (r_move (v := iV _) rfl) | exact (r_move rfl)) ?_
      refine l_v (r_eqli rfl rfl) ?_
      refine l_v (by first | exact (r_move (v := bV _) rfl) | exact (r_move rfl)) ?_
      refine l_vg (by first | exact (r_move (v := iV _) rfl) | exact (r_move rfl)) rfl (rfl) ?_
      refine l_vg (r_eqli rfl rfl) rfl (rfl) ?_
      refine l_v (r_pick_t rfl rfl rfl) ?_
      refine l_v (by first | exact (r_move (v := bV _) rfl) | exact (r_move rfl)) ?_
      refine l_vg (by first | exact (r_move (v := sV _) rfl) | exact (r_move rfl)) rfl (rfl) ?_
      refine l_vg (r_len_s Try.underlying9 rfl) rfl (rfl) ?_
      refine l_vg (r_leqi rfl rfl) rfl (rfl) ?_
      refine l_v (r_pick_t rfl rfl rfl) ?_
      refine l_v (by first | exact (r_move (v := bV _) rfl) | exact (r_move rfl)) ?_
      refine l_vg (by first | exact (r_move (v := .slice _ _ _) rfl) | exact (r_move rfl)) rfl (f5) ?_
      refine l_vg (r_cv_bs (l := bs) Try.underlying22 Try.underlying5 Try.underlying9 rfl hs.rd) rfl (f5) ?_
      refine l_vg (by first | exact (r_move (v := .slice _ _ _) rfl) | exact (r_move rfl)) rfl (f5) ?_
      refine l_vg (r_cv_bs (l := bs) Try.underlying22 Try.underlying5 Try.underlying9 rfl (hr.below hs.below)) rfl (f5) ?_
      refine l_vg (r_eqls rfl rfl) rfl (f5) ?_
      refine l_v (r_pick_t rfl f5 rfl) ?_
      refine l_v (by first | exact (r_assign (v := bV _) rfl) | exact (r_assign rfl)) ?_
      refine l_nil (nrm_then ?_)
      refine c_ret ?_
      show Fin _ _ _ _ _
      refine fin1 rfl ?_
      exact ⟨congrArg Ending.returned (congrArg Value.bool (decide_eq_true rfl)), hs.below⟩
end Go.Proofs.Ytmeikcifobfolaa.Del
