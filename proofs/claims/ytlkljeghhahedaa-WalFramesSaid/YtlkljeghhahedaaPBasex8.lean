/- Written by this session's program (wip/tools/myprint.py) out of the translation: functions, and what a call of each comes to. -/
import Derived.Test.YtlkljeghhahedaaPBasex0
import Derived.Test.YtlkljeghhahedaaPBasex6
import Derived.Test.YtlkljeghhahedaaPBasex7
namespace Go.Proofs.Ytlkljeghhahedaa.PBase
open Go.RowKit Go.Proofs.YtlkljeghhahedaaW.PrintWords Go.Proofs.YtlkljeghhahedaaW.PrintLast Go.Proofs.YtlkljeghhahedaaW.PrintMore
attribute [local go_sem] max2_int min2_int max_two min_two max_three min_three max_four min_four   -- for this text's walks alone
set_option linter.unusedVariables false
set_option linter.unusedSimpArgs false

/-! ### siloref12_Split: function 13 -/
mutual
def siloref12_Split.l0 : Nat → ByteArray → List ByteArray → Int → Option (List ByteArray × Int)
  | 0, _, _, _ => none
  | k + 1, x0, x4, x5 => if 0 ≤ x5 then (if x5 ≤ (x0.size : Int) then ((siloref01_ReadText.f k (x0.extract (x5 : Int).toNat x0.size)).bind fun bt147 => (if bt147.2.2 = 0 then (if (bt147.1.size : Int) > 1048576 then (siloref12_Split.j1 k x0 x4 x5 bt147.1 bt147.2.1 true) else (siloref12_Split.j1 k x0 x4 x5 bt147.1 bt147.2.1 (decide ((wrap64 ((wrap64 ((x0.size : Int) - x5)) - bt147.2.1)) < 4)))) else (siloref12_Split.j1 k x0 x4 x5 bt147.1 bt147.2.1 true))) else (none)) else (none)
def siloref12_Split.j1 : Nat → ByteArray → List ByteArray → Int → ByteArray → Int → Bool → Option (List ByteArray × Int)
  | 0, _, _, _, _, _, _ => none
  | k + 1, x0, x4, x5, x6, x7, x34 => if x34 = true then (some (x4, x5)) else (if 0 ≤ x5 then (if x5 ≤ (x0.size : Int) then (if 0 ≤ (wrap64 (x7 + 4)) then (if (wrap64 (x7 + 4)) ≤ ((x0.extract (x5 : Int).toNat x0.size).size : Int) then ((siloref02_Take.f ((x0.extract (x5 : Int).toNat x0.size).extract 0 ((wrap64 (x7 + 4)) : Int).toNat)).bind fun bt150 => (if bt150.2 = 0 then (if x4.length < 8796093022208 then (siloref12_Split.l0 k x0 (x4 ++ [x6]) (wrap64 ((wrap64 (x5 + x7)) + 4))) else (none)) else (some (x4, x5)))) else (none)) else (none)) else (none)) else (none))
end
def siloref12_Split.f (k : Nat) (a0 : ByteArray) : Option (List ByteArray × Int) := siloref12_Split.l0 k a0 ([] : List ByteArray) 0
theorem siloref12_Split.mono_l : ∀ k, (∀ y0 y1 y2, LeO (siloref12_Split.l0 k y0 y1 y2) (siloref12_Split.l0 (k + 1) y0 y1 y2)) ∧ (∀ y0 y1 y2 y3 y4 y5, LeO (siloref12_Split.j1 k y0 y1 y2 y3 y4 y5) (siloref12_Split.j1 (k + 1) y0 y1 y2 y3 y4 y5))
  | 0 => ⟨fun _ _ _ r h => by simp [siloref12_Split.l0] at h, fun _ _ _ _ _ _ r h => by simp [siloref12_Split.j1] at h⟩
  | k + 1 => by
    obtain ⟨ih0, ih1⟩ := siloref12_Split.mono_l k
    refine ⟨?_, ?_⟩
    · intro y0 y1 y2
      unfold siloref12_Split.l0
      repeat' first
      | (with_reducible exact ih0 _ _ _)
      | (with_reducible exact ih1 _ _ _ _ _ _)
      | (with_reducible exact siloref01_ReadText.mono _ _)
      | (with_reducible exact LeO.refl _)
      | (with_reducible exact LeO.none _)
      | (with_reducible refine LeO.ite ?_ ?_)
      | (with_reducible refine LeO.bind ?_ (fun _ => ?_))
      | exact ih0 _ _ _
      | exact ih1 _ _ _ _ _ _
      | exact siloref01_ReadText.mono _ _
      | exact LeO.none _
      | refine LeO.ite ?_ ?_
      | refine LeO.bind ?_ (fun _ => ?_)
    · intro y0 y1 y2 y3 y4 y5
      unfold siloref12_Split.j1
      repeat' first
      | (with_reducible exact ih0 _ _ _)
      | (with_reducible exact ih1 _ _ _ _ _ _)
      | (with_reducible exact siloref01_ReadText.mono _ _)
      | (with_reducible exact LeO.refl _)
      | (with_reducible exact LeO.none _)
      | (with_reducible refine LeO.ite ?_ ?_)
      | (with_reducible refine LeO.bind ?_ (fun _ => ?_))
      | exact ih0 _ _ _
      | exact ih1 _ _ _ _ _ _
      | exact siloref01_ReadText.mono _ _
      | exact LeO.none _
      | refine LeO.ite ?_ ?_
      | refine LeO.bind ?_ (fun _ => ?_)
theorem siloref12_Split.mono : ∀ a0 k, LeO (siloref12_Split.f k a0) (siloref12_Split.f (k + 1) a0) := by
  intro a0 k
  obtain ⟨ih0, ih1⟩ := siloref12_Split.mono_l k
  unfold siloref12_Split.f
  repeat' first
      | (with_reducible exact ih0 _ _ _)
      | (with_reducible exact ih1 _ _ _ _ _ _)
      | (with_reducible exact siloref01_ReadText.mono _ _)
      | (with_reducible exact LeO.refl _)
      | (with_reducible exact LeO.none _)
      | (with_reducible refine LeO.ite ?_ ?_)
      | (with_reducible refine LeO.bind ?_ (fun _ => ?_))
      | exact ih0 _ _ _
      | exact ih1 _ _ _ _ _ _
      | exact siloref01_ReadText.mono _ _
      | exact LeO.none _
      | refine LeO.ite ?_ ?_
      | refine LeO.bind ?_ (fun _ => ?_)
set_option maxHeartbeats 8000000 in
set_option maxRecDepth 100000 in
theorem siloref12_Split.calls (k : Nat) (a0 : ByteArray) (r1 : List ByteArray) (r2 : Int) (w : World) (h : siloref12_Split.f k a0 = some (r1, r2)) :
    Calls Try.prog 13 #[.string a0] w fun e w' => ∃ v0_ : Value, e = .returned (.tuple #[v0_, .int .i64 r2]) ∧ Kd.R Kd.string 9 w' w.heap.size (fun _ => True) v0_ r1 ∧ Below w.heap.size w w' := by
  have HB := Aside0.mk (Below.refl w.heap.size w)
  have H : (siloref12_Split.l0 k a0 ([] : List ByteArray) 0) = some (r1, r2) := h
  clear h
  have H' := Aside0.mk H
  clear H
  go_enter Try.func13, Try.ntmps13
  go_wp2
  go_loopg [4, 5] k (fun kq v4 v5 w' => ∃ (x4_1 : List ByteArray) (x5_1 : Int), v5 = .int .i64 x5_1 ∧ Aside0 (siloref12_Split.l0 kq a0 x4_1 x5_1 = some (r1, r2)) ∧ Aside0 (kq ≤ k) ∧ Aside0 (Kd.R Kd.string 9 w' w.heap.size (fun _ => True) v4 x4_1) ∧ Aside0 (Below w.heap.size w w'))
  case atStart => exact ⟨(([] : List ByteArray)), (0), (by first | rfl | (simp; done) | (simp [*]; done)), H', ⟨Nat.le_refl _⟩, ⟨by first | exact Kd.R_nil _ _ _ _ _ | exact Kd.N_nil _ _ _ _ _ | exact Kd.V_nil _ _ _ _ _ | exact Kd.Q_nil _ _ _ _ _ | exact Kd.S_nil _ _ _ _ _⟩, ⟨by repeat (first | (with_reducible first | exact HB.out | apply below_alloc | apply pw_below_drewN | apply below_drew1) | exact HB.out)⟩⟩
  case round =>
    clear H'
    try clear c1
    obtain ⟨x4_1, x5_1, rfl, HA, HK1, HO_4, HB⟩ := hrel
    cases gk with
    | zero => exact absurd HA.out (by simp [siloref12_Split.l0])
    | succ k1 =>
      have H := HA.out
      clear HA
      simp only [siloref12_Split.l0] at H
      by_cases c2 : 0 ≤ x5_1
      · rw [if_pos c2] at H
        have c2b0 := eq_true c2
        have c2b1 : decide (0 ≤ x5_1) = true := decide_eq_true c2
        clear c2
        by_cases c3 : x5_1 ≤ (a0.size : Int)
        · rw [if_pos c3] at H
          have c3b0 := eq_true c3
          have c3b1 : decide (x5_1 ≤ (a0.size : Int)) = true := decide_eq_true c3
          clear c3
          replace H := Option.bind_eq_some_iff.mp H
          obtain ⟨⟨t147, t148, t149⟩, A40, H⟩ := H
          replace H : (if t149 = 0 then (if (t147.size : Int) > 1048576 then (siloref12_Split.j1 k1 a0 x4_1 x5_1 t147 t148 true) else (siloref12_Split.j1 k1 a0 x4_1 x5_1 t147 t148 (decide ((wrap64 ((wrap64 ((a0.size : Int) - x5_1)) - t148)) < 4)))) else (siloref12_Split.j1 k1 a0 x4_1 x5_1 t147 t148 true)) = some (r1, r2) := H
          have A4 := Aside0.mk A40
          clear A40
          have HC5 := Aside0.mk H
          clear H
          go_upto_region 4 with (first | ((with_reducible refine gate_callee (f := 41) rfl ?_); refine goesL_ (some 15) rfl rfl Try.func41 (by kernel_rfl) rfl #[.string (a0.extract (x5_1 : Int).toNat a0.size)] rfl (by (try simp only [List.map_toArray, List.map_cons, List.map_nil]); first | done | rfl | (simp only [List.length_drop, List.length_take]; rfl)) ?_; (with_reducible refine (siloref01_ReadText.calls k1 (a0.extract (x5_1 : Int).toNat a0.size) t147 t148 t149 _ A4.out).mono ?_); rintro e w' ⟨rfl, ⟨nd, rfl⟩⟩; refine ⟨_, rfl, ?_⟩))
          (try simp only [Act.put, List.setIfInBounds_toArray, List.set_cons_zero, List.set_cons_succ])
          go_cut [34] (fun v34 wc => ∃ (kq : Nat) (x34_4 : Bool), v34 = .bool x34_4 ∧ Aside0 (siloref12_Split.j1 kq a0 x4_1 x5_1 t147 t148 x34_4 = some (r1, r2)) ∧ Aside0 (kq ≤ k1) ∧ Aside0 (Kd.R Kd.string 9 wc w.heap.size (fun _ => True) u4 x4_1) ∧ Aside0 (Below w.heap.size w wc))
          case first =>
            have H := HC5.out
            clear HC5
            by_cases c6 : t149 = 0
            · rw [if_pos c6] at H
              have c6b0 : (t149 == 0) = true := beq_iff_eq.mpr c6
              have c6b1 : (t149 != 0) = false := bne_eq_false_iff_eq.mpr c6
              clear c6
              (first | rw [c6b0] | (simp only [i64_w, i32_w]; rw [c6b0]) | skip)
              by_cases c7 : (t147.size : Int) > 1048576
              · rw [if_pos c7] at H
                have c7b0 : decide (1048576 < (t147.size : Int)) = true := decide_eq_true c7
                have c7b1 : decide (1048576 < t147.size) = true := decide_eq_true (by omega)
                clear c7
                have H' := Aside0.mk H
                clear H
                go_wp2
                go_meet
                case rel => exact ⟨_, (true), (by first | rfl | (simp; done) | (simp [*]; done)), H', ⟨by have := HK1.out; first | omega | exact Nat.le_refl _⟩, ⟨by (with_reducible repeat (first | apply Kd.R_alloc | apply Kd.R_drewN | apply Kd.R_drew)); exact HO_4.out⟩, ⟨by repeat (first | (with_reducible first | exact HB.out | apply below_alloc | apply pw_below_drewN | apply below_drew1) | exact HB.out)⟩⟩
              · rw [if_neg c7] at H
                have c7b0 : decide (1048576 < (t147.size : Int)) = false := decide_eq_false c7
                have c7b1 : decide (1048576 < t147.size) = false := decide_eq_false (by omega)
                clear c7
                have H' := Aside0.mk H
                clear H
                go_wp2
                go_meet
                case rel => exact ⟨_, (decide ((wrap64 ((wrap64 ((a0.size : Int) - x5_1)) - t148)) < 4)), (by first | rfl | (simp; done) | (simp [*]; done)), H', ⟨by have := HK1.out; first | omega | exact Nat.le_refl _⟩, ⟨by (with_reducible repeat (first | apply Kd.R_alloc | apply Kd.R_drewN | apply Kd.R_drew)); exact HO_4.out⟩, ⟨by repeat (first | (with_reducible first | exact HB.out | apply below_alloc | apply pw_below_drewN | apply below_drew1) | exact HB.out)⟩⟩
            · rw [if_neg c6] at H
              have c6b0 : (t149 == 0) = false := beq_eq_false_iff_ne.mpr c6
              have c6b1 : (t149 != 0) = true := bne_iff_ne.mpr c6
              (first | rw [c6b0] | (simp only [i64_w, i32_w]; rw [c6b0]) | skip)
              have H' := Aside0.mk H
              clear H
              go_wp2
              go_meet
              case rel => exact ⟨_, (true), (by first | rfl | (simp; done) | (simp [*]; done)), H', ⟨by have := HK1.out; first | omega | exact Nat.le_refl _⟩, ⟨by (with_reducible repeat (first | apply Kd.R_alloc | apply Kd.R_drewN | apply Kd.R_drew)); exact HO_4.out⟩, ⟨by repeat (first | (with_reducible first | exact HB.out | apply below_alloc | apply pw_below_drewN | apply below_drew1) | exact HB.out)⟩⟩
          case rest =>
            clear HC5
            try clear c1
            try clear c2
            try clear c2b0
            try clear c2b1
            try clear p2
            try clear c3
            try clear c3b0
            try clear c3b1
            try clear c4
            try clear c6
            try clear c6b0
            try clear c6b1
            try clear p6
            try clear c7
            try clear c7b0
            try clear c7b1
            obtain ⟨kq, x34_4, rfl, HA, HJ4, HO_4, HB⟩ := hcut
            cases kq with
            | zero => exact absurd HA.out (by simp [siloref12_Split.j1])
            | succ kj4 =>
              have H := HA.out
              clear HA
              simp only [siloref12_Split.j1] at H
              by_cases c8 : x34_4 = true
              · subst c8
                have H1 : (some (x4_1, x5_1)) = some (r1, r2) := by rw [if_pos rfl] at H; exact H
                clear H
                have H := H1
                clear H1
                simp only [Option.some.injEq, Prod.mk.injEq] at H
                obtain ⟨rfl, rfl⟩ := H
                go_wp2
                go_ret2
                exact ⟨_, by first | rfl | (simp [errW_none, errW_some] <;> rfl) | (simp [*, errW_none, errW_some] <;> rfl), by (with_reducible repeat (first | apply Kd.R_alloc | apply Kd.R_drewN | apply Kd.R_drew)); exact HO_4.out, by repeat (first | (with_reducible first | exact HB.out | apply below_alloc | apply pw_below_drewN | apply below_drew1) | exact HB.out)⟩
              · replace c8 := Bool.eq_false_iff.mpr c8
                subst c8
                have H1 : (if 0 ≤ x5_1 then (if x5_1 ≤ (a0.size : Int) then (if 0 ≤ (wrap64 (t148 + 4)) then (if (wrap64 (t148 + 4)) ≤ ((a0.extract (x5_1 : Int).toNat a0.size).size : Int) then ((siloref02_Take.f ((a0.extract (x5_1 : Int).toNat a0.size).extract 0 ((wrap64 (t148 + 4)) : Int).toNat)).bind fun bt150 => (if bt150.2 = 0 then (if x4_1.length < 8796093022208 then (siloref12_Split.l0 kj4 a0 (x4_1 ++ [t147]) (wrap64 ((wrap64 (x5_1 + t148)) + 4))) else (none)) else (some (x4_1, x5_1)))) else (none)) else (none)) else (none)) else (none)) = some (r1, r2) := by rw [if_neg (show ¬ (false = true) by decide)] at H; exact H
                clear H
                have H := H1
                clear H1
                by_cases c9 : 0 ≤ x5_1
                · rw [if_pos c9] at H
                  have c9b0 := eq_true c9
                  have c9b1 : decide (0 ≤ x5_1) = true := decide_eq_true c9
                  clear c9
                  by_cases c10 : x5_1 ≤ (a0.size : Int)
                  · rw [if_pos c10] at H
                    have c10b0 := eq_true c10
                    have c10b1 : decide (x5_1 ≤ (a0.size : Int)) = true := decide_eq_true c10
                    clear c10
                    obtain ⟨ji11, hji11⟩ : ∃ j_ : Int, (wrap64 (t148 + 4)) = j_ := ⟨_, rfl⟩
                    replace H : (if 0 ≤ (ji11) then (if (ji11) ≤ ((a0.extract (x5_1 : Int).toNat a0.size).size : Int) then ((siloref02_Take.f ((a0.extract (x5_1 : Int).toNat a0.size).extract 0 ((ji11) : Int).toNat)).bind fun bt150 => (if bt150.2 = 0 then (if x4_1.length < 8796093022208 then (siloref12_Split.l0 kj4 a0 (x4_1 ++ [t147]) (wrap64 ((wrap64 (x5_1 + t148)) + 4))) else (none)) else (some (x4_1, x5_1)))) else (none)) else (none)) = some (r1, r2) := by first | (rw [hji11] at H; exact H) | (simp only [hji11] at H ⊢; exact H)
                    have hji11w : (IntKind.i64.wrap (t148 + 4)) = ji11 := (i64_w _).trans hji11
                    by_cases c12 : 0 ≤ (ji11)
                    · rw [if_pos c12] at H
                      have c12b0 := eq_true c12
                      have c12b1 : decide (0 ≤ (ji11)) = true := decide_eq_true c12
                      clear c12
                      by_cases c13 : (ji11) ≤ ((a0.extract (x5_1 : Int).toNat a0.size).size : Int)
                      · rw [if_pos c13] at H
                        have c13b0 := eq_true c13
                        have c13b1 : decide ((ji11) ≤ ((a0.extract (x5_1 : Int).toNat a0.size).size : Int)) = true := decide_eq_true c13
                        try have c13b2 : ¬ (((a0.size - (x5_1 : Int).toNat : Nat) : Int) < (ji11)) := by have h_ := c13; simp only [ByteArray.size_extract, Nat.min_self] at h_; omega
                        clear c13
                        replace H := Option.bind_eq_some_iff.mp H
                        obtain ⟨⟨t150, t151⟩, A140, H⟩ := H
                        replace H : (if t151 = 0 then (if x4_1.length < 8796093022208 then (siloref12_Split.l0 kj4 a0 (x4_1 ++ [t147]) (wrap64 ((wrap64 (x5_1 + t148)) + 4))) else (none)) else (some (x4_1, x5_1))) = some (r1, r2) := H
                        have A14 := Aside0.mk A140
                        clear A140
                        by_cases c15 : t151 = 0
                        · rw [if_pos c15] at H
                          have c15b0 : (t151 == 0) = true := beq_iff_eq.mpr c15
                          have c15b1 : (t151 != 0) = false := bne_eq_false_iff_eq.mpr c15
                          clear c15
                          by_cases c16 : x4_1.length < 8796093022208
                          · rw [if_pos c16] at H
                            have LMc16 := Aside0.mk c16
                            clear c16
                            obtain ⟨y152, hy152⟩ : ∃ y_ : List ByteArray, y_ = (x4_1 ++ [t147]) := ⟨_, rfl⟩
                            replace H : (siloref12_Split.l0 kj4 a0 y152 (wrap64 ((wrap64 (x5_1 + t148)) + 4))) = some (r1, r2) := by first | (rw [hy152]; with_reducible exact H) | (have H2_ := (Option.bind_some _ _).symm.trans H; rw [hy152]; with_reducible exact H2_) | (have H2_ := (Option.bind_some _ _).symm.trans H; with_reducible exact H2_) | with_reducible exact H | (rw [hy152]; exact H) | exact H
                            have Ny152 := Aside0.mk hy152
                            clear hy152
                            have H' := Aside0.mk H
                            clear H
                            go_wp2_with (first | ((with_reducible refine gate_callee (f := 42) rfl ?_); refine goesL_ (some 44) rfl rfl Try.func42 (by kernel_rfl) rfl #[.string ((a0.extract (x5_1 : Int).toNat a0.size).extract 0 ((ji11) : Int).toNat)] rfl (by (try simp only [List.map_toArray, List.map_cons, List.map_nil]); first | done | (simp only [hji11]; rfl) | rfl | (simp only [List.length_drop, List.length_take]; rfl)) ?_; (with_reducible refine (siloref02_Take.calls ((a0.extract (x5_1 : Int).toNat a0.size).extract 0 ((ji11) : Int).toNat) t150 t151 _ A14.out).mono ?_); rintro e w17 ⟨rfl, hb⟩; refine ⟨_, rfl, ?_⟩; have n0_ := Aside0.mk (Kd.R_below (by (with_reducible repeat (first | apply Kd.R_alloc | apply Kd.R_drewN | apply Kd.R_drew)); exact HO_4.out) hb); have n1_ := Aside0.mk (below_step (by repeat (first | (with_reducible first | exact HB.out | apply below_alloc | apply pw_below_drewN | apply below_drew1) | exact HB.out)) hb); clear HO_4; clear HB; have HO_4 := n0_; have HB := n1_; clear n0_ n1_; (try clear hb); (try clear hb2); (try clear hk); (try clear hi)) | ((with_reducible refine gate_builtin (b := .append) (xs := #[.tmp 51, .tmp 53]) rfl ?_); (try (refine gate_guard (by rfl) ?_; dsimp only)); at_builtin; refine Kd.R_append Kd.string (w0 := w) w.heap.size rfl (.tmp 51) (.tmp 53) 22 9 (.string ⟨#[]⟩) 16 rfl Try.underlying22 info9 rfl (by decide) (by omega) u4 x4_1 t147 [.string t147] (fun _ => True) (fun _ => False) rfl rfl ?aP (fun _ hk => hk.elim) ?aF ?aO ?aB ?aS ?aL ?_; (case aP => exact rfl); (case aB => exact (by repeat (first | (with_reducible first | exact HB.out | apply below_alloc | apply pw_below_drewN | apply below_drew1) | exact HB.out))); (case aF => exact (fun _ _ => trivial)); (case aO => exact (by (with_reducible repeat (first | apply Kd.R_alloc | apply Kd.R_drewN | apply Kd.R_drew)); exact HO_4.out)); (case aS => exact (below_size (by repeat (first | (with_reducible first | exact HB.out | apply below_alloc | apply pw_below_drewN | apply below_drew1) | exact HB.out)))); (case aL => have := LMc16.out; omega); intro v153 w18 ho hb hg hat; rw [← Ny152.out] at ho; have n0_ := Aside0.mk (hb); have n1_ := Aside0.mk (ho); clear HB; clear HO_4; have HB := n0_; have HO154 := n1_; clear n0_ n1_; clear ho hb hg hat))
                            go_roundg kj4
                            case measure => have := HK1.out; have := HJ4.out; omega
                            case rel => exact ⟨(y152), (wrap64 ((wrap64 (x5_1 + t148)) + 4)), (by first | rfl | (simp; done) | (simp [*]; done)), H', ⟨by have := HK1.out; have := HJ4.out; omega⟩, ⟨by (with_reducible repeat (first | apply Kd.R_alloc | apply Kd.R_drewN | apply Kd.R_drew)); exact HO154.out⟩, ⟨by repeat (first | (with_reducible first | exact HB.out | apply below_alloc | apply pw_below_drewN | apply below_drew1) | exact HB.out)⟩⟩
                          · rw [if_neg c16] at H
                            exact absurd H (by simp)
                        · rw [if_neg c15] at H
                          have c15b0 : (t151 == 0) = false := beq_eq_false_iff_ne.mpr c15
                          have c15b1 : (t151 != 0) = true := bne_iff_ne.mpr c15
                          simp only [Option.some.injEq, Prod.mk.injEq] at H
                          obtain ⟨rfl, rfl⟩ := H
                          go_wp2_with (first | ((with_reducible refine gate_callee (f := 42) rfl ?_); refine goesL_ (some 44) rfl rfl Try.func42 (by kernel_rfl) rfl #[.string ((a0.extract (x5_1 : Int).toNat a0.size).extract 0 ((ji11) : Int).toNat)] rfl (by (try simp only [List.map_toArray, List.map_cons, List.map_nil]); first | done | (simp only [hji11]; rfl) | rfl | (simp only [List.length_drop, List.length_take]; rfl)) ?_; (with_reducible refine (siloref02_Take.calls ((a0.extract (x5_1 : Int).toNat a0.size).extract 0 ((ji11) : Int).toNat) t150 t151 _ A14.out).mono ?_); rintro e w19 ⟨rfl, hb⟩; refine ⟨_, rfl, ?_⟩; have n0_ := Aside0.mk (Kd.R_below (by (with_reducible repeat (first | apply Kd.R_alloc | apply Kd.R_drewN | apply Kd.R_drew)); exact HO_4.out) hb); have n1_ := Aside0.mk (below_step (by repeat (first | (with_reducible first | exact HB.out | apply below_alloc | apply pw_below_drewN | apply below_drew1) | exact HB.out)) hb); clear HO_4; clear HB; have HO_4 := n0_; have HB := n1_; clear n0_ n1_; (try clear hb); (try clear hb2); (try clear hk); (try clear hi)))
                          go_ret2
                          exact ⟨_, by first | rfl | (simp [errW_none, errW_some] <;> rfl) | (simp only [← hji11]; first | rfl | (simp [errW_none, errW_some] <;> rfl)) | (simp [*, errW_none, errW_some] <;> rfl), by (with_reducible repeat (first | apply Kd.R_alloc | apply Kd.R_drewN | apply Kd.R_drew)); exact HO_4.out, by repeat (first | (with_reducible first | exact HB.out | apply below_alloc | apply pw_below_drewN | apply below_drew1) | exact HB.out)⟩
                      · rw [if_neg c13] at H
                        exact absurd H (by simp)
                    · rw [if_neg c12] at H
                      exact absurd H (by simp)
                  · rw [if_neg c10] at H
                    exact absurd H (by simp)
                · rw [if_neg c9] at H
                  exact absurd H (by simp)
        · rw [if_neg c3] at H
          exact absurd H (by simp)
      · rw [if_neg c2] at H
        exact absurd H (by simp)

end Go.Proofs.Ytlkljeghhahedaa.PBase
