/- Written by this session's program (wip/tools/myprint.py) out of the translation: functions, and what a call of each comes to. -/
import Derived.Test.YtlkljeghhahedaaPBasex0
namespace Go.Proofs.Ytlkljeghhahedaa.PBase
open Go.RowKit Go.Proofs.YtlkljeghhahedaaW.PrintWords Go.Proofs.YtlkljeghhahedaaW.PrintLast Go.Proofs.YtlkljeghhahedaaW.PrintMore
attribute [local go_sem] max2_int min2_int max_two min_two max_three min_three max_four min_four   -- for this text's walks alone
set_option linter.unusedVariables false
set_option linter.unusedSimpArgs false

/-! ### siloref01_ReadWhole: function 62 -/
mutual
def siloref01_ReadWhole.l0 : Nat → ByteArray → Int → Int → Option (Int × Int × Int)
  | 0, _, _, _ => none
  | k + 1, x0, x5, x6 => if x6 < (x0.size : Int) then (if 0 ≤ x6 then (if (wrap64 (bt x0 x6)) ≥ 192 then (siloref01_ReadWhole.j1 k x0 x5 x6 (wrap64 (bt x0 x6)) true) else (if (wrap64 (bt x0 x6)) = 0 then (if x6 = 0 then (siloref01_ReadWhole.j1 k x0 x5 x6 (wrap64 (bt x0 x6)) true) else (siloref01_ReadWhole.j1 k x0 x5 x6 (wrap64 (bt x0 x6)) (decide (x5 > 144115188075855871)))) else (siloref01_ReadWhole.j1 k x0 x5 x6 (wrap64 (bt x0 x6)) (decide (x5 > 144115188075855871))))) else (none)) else (some (0, 0, 2))
def siloref01_ReadWhole.j1 : Nat → ByteArray → Int → Int → Int → Bool → Option (Int × Int × Int)
  | 0, _, _, _, _, _ => none
  | k + 1, x0, x5, x6, x7, x31 => if x31 = true then (some (0, 0, 3)) else (if x7 ≥ 128 then (some (wrap64 ((-1) - (wrap64 (IntKind.u64.wrap ((IntKind.u64.wrap (64 * x5)) + (IntKind.u64.wrap (Int.tmod x7 64)))))), wrap64 (x6 + 1), 0)) else (if x7 ≥ 64 then (some (wrap64 (IntKind.u64.wrap ((IntKind.u64.wrap (64 * x5)) + (IntKind.u64.wrap (Int.tmod x7 64)))), wrap64 (x6 + 1), 0)) else (siloref01_ReadWhole.l0 k x0 (IntKind.u64.wrap ((IntKind.u64.wrap (64 * x5)) + (IntKind.u64.wrap (Int.tmod x7 64)))) (wrap64 (x6 + 1)))))
end
def siloref01_ReadWhole.f (k : Nat) (a0 : ByteArray) : Option (Int × Int × Int) := siloref01_ReadWhole.l0 k a0 0 0
theorem siloref01_ReadWhole.mono_l : ∀ k, (∀ y0 y1 y2, LeO (siloref01_ReadWhole.l0 k y0 y1 y2) (siloref01_ReadWhole.l0 (k + 1) y0 y1 y2)) ∧ (∀ y0 y1 y2 y3 y4, LeO (siloref01_ReadWhole.j1 k y0 y1 y2 y3 y4) (siloref01_ReadWhole.j1 (k + 1) y0 y1 y2 y3 y4))
  | 0 => ⟨fun _ _ _ r h => by simp [siloref01_ReadWhole.l0] at h, fun _ _ _ _ _ r h => by simp [siloref01_ReadWhole.j1] at h⟩
  | k + 1 => by
    obtain ⟨ih0, ih1⟩ := siloref01_ReadWhole.mono_l k
    refine ⟨?_, ?_⟩
    · intro y0 y1 y2
      unfold siloref01_ReadWhole.l0
      repeat' first
      | (with_reducible exact ih0 _ _ _)
      | (with_reducible exact ih1 _ _ _ _ _)
      | (with_reducible exact LeO.refl _)
      | (with_reducible exact LeO.none _)
      | (with_reducible refine LeO.ite ?_ ?_)
      | (with_reducible refine LeO.bind ?_ (fun _ => ?_))
      | exact ih0 _ _ _
      | exact ih1 _ _ _ _ _
      | exact LeO.none _
      | refine LeO.ite ?_ ?_
      | refine LeO.bind ?_ (fun _ => ?_)
    · intro y0 y1 y2 y3 y4
      unfold siloref01_ReadWhole.j1
      repeat' first
      | (with_reducible exact ih0 _ _ _)
      | (with_reducible exact ih1 _ _ _ _ _)
      | (with_reducible exact LeO.refl _)
      | (with_reducible exact LeO.none _)
      | (with_reducible refine LeO.ite ?_ ?_)
      | (with_reducible refine LeO.bind ?_ (fun _ => ?_))
      | exact ih0 _ _ _
      | exact ih1 _ _ _ _ _
      | exact LeO.none _
      | refine LeO.ite ?_ ?_
      | refine LeO.bind ?_ (fun _ => ?_)
theorem siloref01_ReadWhole.mono : ∀ a0 k, LeO (siloref01_ReadWhole.f k a0) (siloref01_ReadWhole.f (k + 1) a0) := by
  intro a0 k
  obtain ⟨ih0, ih1⟩ := siloref01_ReadWhole.mono_l k
  unfold siloref01_ReadWhole.f
  repeat' first
      | (with_reducible exact ih0 _ _ _)
      | (with_reducible exact ih1 _ _ _ _ _)
      | (with_reducible exact LeO.refl _)
      | (with_reducible exact LeO.none _)
      | (with_reducible refine LeO.ite ?_ ?_)
      | (with_reducible refine LeO.bind ?_ (fun _ => ?_))
      | exact ih0 _ _ _
      | exact ih1 _ _ _ _ _
      | exact LeO.none _
      | refine LeO.ite ?_ ?_
      | refine LeO.bind ?_ (fun _ => ?_)
set_option maxHeartbeats 8000000 in
set_option maxRecDepth 100000 in
theorem siloref01_ReadWhole.calls (k : Nat) (a0 : ByteArray) (r1 : Int) (r2 : Int) (r3 : Int) (w : World) (h : siloref01_ReadWhole.f k a0 = some (r1, r2, r3)) :
    Calls Try.prog 62 #[.string a0] w fun e w' => e = .returned (.tuple #[.int .i64 r1, .int .i64 r2, .int .i64 r3]) ∧ Drawn0 w w' := by
  have H : (siloref01_ReadWhole.l0 k a0 0 0) = some (r1, r2, r3) := h
  clear h
  have H' := Aside0.mk H
  clear H
  go_enter Try.func62, Try.ntmps62
  go_wp2
  go_loopg [5, 6] k (fun kq v5 v6 w' => ∃ (x5_1 : Int) (x6_1 : Int), v5 = .int .u64 x5_1 ∧ v6 = .int .i64 x6_1 ∧ Aside0 (siloref01_ReadWhole.l0 kq a0 x5_1 x6_1 = some (r1, r2, r3)) ∧ Aside0 (kq ≤ k) ∧ Drawn0 w w')
  case atStart => exact ⟨(0), (0), (by first | rfl | (simp; done) | (simp [*]; done)), (by first | rfl | (simp; done) | (simp [*]; done)), H', ⟨Nat.le_refl _⟩, by repeat (first | exact Drawn0.refl _ | apply Drawn0.step)⟩
  case round =>
    clear H'
    obtain ⟨x5_1, x6_1, rfl, rfl, HA, HK1, ⟨m1, rfl⟩⟩ := hrel
    cases gk with
    | zero => exact absurd HA.out (by simp [siloref01_ReadWhole.l0])
    | succ k1 =>
      have H := HA.out
      clear HA
      simp only [siloref01_ReadWhole.l0] at H
      by_cases c2 : x6_1 < (a0.size : Int)
      · rw [if_pos c2] at H
        have c2b0 : decide (x6_1 < (a0.size : Int)) = true := decide_eq_true c2
        clear c2
        by_cases c3 : 0 ≤ x6_1
        · rw [if_pos c3] at H
          have c3b0 : decide (0 ≤ x6_1) = true := decide_eq_true c3
          clear c3
          have HC5 := Aside0.mk H
          clear H
          have p4 : 0 ≤ (x6_1 : Int) := of_decide_eq_true (by first | (with_reducible assumption) | assumption)
          have q4 : x6_1 < (a0.size : Int) := of_decide_eq_true (by first | (with_reducible assumption) | assumption)
          have hx4 := bt_at a0 x6_1
          replace p4 := eq_true p4
          replace q4 := eq_true q4
          go_upto_region 6 with (fail)
          go_cut [31] (fun v31 wc => ∃ (kq : Nat) (x31_4 : Bool), v31 = .bool x31_4 ∧ Aside0 (siloref01_ReadWhole.j1 kq a0 x5_1 x6_1 (wrap64 (bt a0 x6_1)) x31_4 = some (r1, r2, r3)) ∧ Aside0 (kq ≤ k1) ∧ Drawn0 w wc)
          case first =>
            have H := HC5.out
            clear HC5
            by_cases c6 : (wrap64 (bt a0 x6_1)) ≥ 192
            · rw [if_pos c6] at H
              have c6b0 : decide (192 ≤ (wrap64 (bt a0 x6_1))) = true := decide_eq_true c6
              clear c6
              (first | rw [c6b0] | (simp only [i64_w, i32_w]; rw [c6b0]) | skip)
              have H' := Aside0.mk H
              clear H
              go_wp2
              go_meet
              case rel => exact ⟨_, (true), (by first | rfl | (simp; done) | (simp [*]; done)), H', ⟨by have := HK1.out; first | omega | exact Nat.le_refl _⟩, by repeat (first | exact Drawn0.refl _ | apply Drawn0.step)⟩
            · rw [if_neg c6] at H
              have c6b0 : decide (192 ≤ (wrap64 (bt a0 x6_1))) = false := decide_eq_false c6
              clear c6
              (first | rw [c6b0] | (simp only [i64_w, i32_w]; rw [c6b0]) | skip)
              by_cases c7 : (wrap64 (bt a0 x6_1)) = 0
              · rw [if_pos c7] at H
                have c7b0 : ((wrap64 (bt a0 x6_1)) == 0) = true := beq_iff_eq.mpr c7
                have c7b1 : ((wrap64 (bt a0 x6_1)) != 0) = false := bne_eq_false_iff_eq.mpr c7
                clear c7
                by_cases c8 : x6_1 = 0
                · rw [if_pos c8] at H
                  have c8b0 : (x6_1 == 0) = true := beq_iff_eq.mpr c8
                  have c8b1 : (x6_1 != 0) = false := bne_eq_false_iff_eq.mpr c8
                  clear c8
                  have H' := Aside0.mk H
                  clear H
                  go_wp2
                  go_meet
                  case rel => exact ⟨_, (true), (by first | rfl | (simp; done) | (simp [*]; done)), H', ⟨by have := HK1.out; first | omega | exact Nat.le_refl _⟩, by repeat (first | exact Drawn0.refl _ | apply Drawn0.step)⟩
                · rw [if_neg c8] at H
                  have c8b0 : (x6_1 == 0) = false := beq_eq_false_iff_ne.mpr c8
                  have c8b1 : (x6_1 != 0) = true := bne_iff_ne.mpr c8
                  have H' := Aside0.mk H
                  clear H
                  go_wp2
                  go_meet
                  case rel => exact ⟨_, (decide (x5_1 > 144115188075855871)), (by first | rfl | (simp; done) | (simp [*]; done)), H', ⟨by have := HK1.out; first | omega | exact Nat.le_refl _⟩, by repeat (first | exact Drawn0.refl _ | apply Drawn0.step)⟩
              · rw [if_neg c7] at H
                have c7b0 : ((wrap64 (bt a0 x6_1)) == 0) = false := beq_eq_false_iff_ne.mpr c7
                have c7b1 : ((wrap64 (bt a0 x6_1)) != 0) = true := bne_iff_ne.mpr c7
                have H' := Aside0.mk H
                clear H
                go_wp2
                go_meet
                case rel => exact ⟨_, (decide (x5_1 > 144115188075855871)), (by first | rfl | (simp; done) | (simp [*]; done)), H', ⟨by have := HK1.out; first | omega | exact Nat.le_refl _⟩, by repeat (first | exact Drawn0.refl _ | apply Drawn0.step)⟩
          case rest =>
            clear HC5
            try clear c2
            try clear c2b0
            try clear p2
            try clear c3
            try clear c3b0
            try clear p4
            try clear q4
            try clear hx4
            try clear c6
            try clear c6b0
            try clear p6
            try clear c7
            try clear c7b0
            try clear c7b1
            try clear c8
            try clear c8b0
            try clear c8b1
            try clear p4
            try clear q4
            obtain ⟨kq, x31_4, rfl, HA, HJ4, ⟨mc4, rfl⟩⟩ := hcut
            cases kq with
            | zero => exact absurd HA.out (by simp [siloref01_ReadWhole.j1])
            | succ kj4 =>
              have H := HA.out
              clear HA
              simp only [siloref01_ReadWhole.j1] at H
              by_cases c9 : x31_4 = true
              · subst c9
                have H1 : (some (0, 0, 3)) = some (r1, r2, r3) := by rw [if_pos rfl] at H; exact H
                clear H
                have H := H1
                clear H1
                simp only [Option.some.injEq, Prod.mk.injEq] at H
                obtain ⟨rfl, rfl, rfl⟩ := H
                go_wp2
                go_ret3
                exact ⟨by first | rfl | (simp; done) | (simp [*]; done), by repeat (first | exact Drawn0.refl _ | apply Drawn0.step)⟩
              · replace c9 := Bool.eq_false_iff.mpr c9
                subst c9
                have H1 : (if (wrap64 (bt a0 x6_1)) ≥ 128 then (some (wrap64 ((-1) - (wrap64 (IntKind.u64.wrap ((IntKind.u64.wrap (64 * x5_1)) + (IntKind.u64.wrap (Int.tmod (wrap64 (bt a0 x6_1)) 64)))))), wrap64 (x6_1 + 1), 0)) else (if (wrap64 (bt a0 x6_1)) ≥ 64 then (some (wrap64 (IntKind.u64.wrap ((IntKind.u64.wrap (64 * x5_1)) + (IntKind.u64.wrap (Int.tmod (wrap64 (bt a0 x6_1)) 64)))), wrap64 (x6_1 + 1), 0)) else (siloref01_ReadWhole.l0 kj4 a0 (IntKind.u64.wrap ((IntKind.u64.wrap (64 * x5_1)) + (IntKind.u64.wrap (Int.tmod (wrap64 (bt a0 x6_1)) 64)))) (wrap64 (x6_1 + 1))))) = some (r1, r2, r3) := by rw [if_neg (show ¬ (false = true) by decide)] at H; exact H
                clear H
                have H := H1
                clear H1
                by_cases c10 : (wrap64 (bt a0 x6_1)) ≥ 128
                · rw [if_pos c10] at H
                  have c10b0 : decide (128 ≤ (wrap64 (bt a0 x6_1))) = true := decide_eq_true c10
                  clear c10
                  simp only [Option.some.injEq, Prod.mk.injEq] at H
                  obtain ⟨rfl, rfl, rfl⟩ := H
                  go_wp2
                  go_ret3
                  exact ⟨by first | rfl | (simp; done) | (simp [*]; done), by repeat (first | exact Drawn0.refl _ | apply Drawn0.step)⟩
                · rw [if_neg c10] at H
                  have c10b0 : decide (128 ≤ (wrap64 (bt a0 x6_1))) = false := decide_eq_false c10
                  clear c10
                  by_cases c11 : (wrap64 (bt a0 x6_1)) ≥ 64
                  · rw [if_pos c11] at H
                    have c11b0 : decide (64 ≤ (wrap64 (bt a0 x6_1))) = true := decide_eq_true c11
                    clear c11
                    simp only [Option.some.injEq, Prod.mk.injEq] at H
                    obtain ⟨rfl, rfl, rfl⟩ := H
                    go_wp2
                    go_ret3
                    exact ⟨by first | rfl | (simp; done) | (simp [*]; done), by repeat (first | exact Drawn0.refl _ | apply Drawn0.step)⟩
                  · rw [if_neg c11] at H
                    have c11b0 : decide (64 ≤ (wrap64 (bt a0 x6_1))) = false := decide_eq_false c11
                    clear c11
                    have H' := Aside0.mk H
                    clear H
                    go_wp2
                    go_roundg kj4
                    case measure => have := HK1.out; have := HJ4.out; omega
                    case rel => exact ⟨(IntKind.u64.wrap ((IntKind.u64.wrap (64 * x5_1)) + (IntKind.u64.wrap (Int.tmod (wrap64 (bt a0 x6_1)) 64)))), (wrap64 (x6_1 + 1)), (by first | rfl | (simp; done) | (simp [*]; done)), (by first | rfl | (simp; done) | (simp [*]; done)), H', ⟨by have := HK1.out; have := HJ4.out; omega⟩, by repeat (first | exact Drawn0.refl _ | apply Drawn0.step)⟩
        · rw [if_neg c3] at H
          exact absurd H (by simp)
      · rw [if_neg c2] at H
        have c2b0 : decide (x6_1 < (a0.size : Int)) = false := decide_eq_false c2
        clear c2
        simp only [Option.some.injEq, Prod.mk.injEq] at H
        obtain ⟨rfl, rfl, rfl⟩ := H
        go_wp2
        go_ret3
        exact ⟨by first | rfl | (simp; done) | (simp [*]; done), by repeat (first | exact Drawn0.refl _ | apply Drawn0.step)⟩

/-! ### siloref01_ReadCount: function 56 -/
def siloref01_ReadCount.f (k : Nat) (a0 : ByteArray) : Option (Int × Int × Int) := (siloref01_ReadWhole.f k a0).bind fun bt136 => (if bt136.2.2 = 0 then (if bt136.1 < 0 then (some (0, 0, 3)) else (some (bt136.1, bt136.2.1, bt136.2.2))) else (some (bt136.1, bt136.2.1, bt136.2.2)))
theorem siloref01_ReadCount.mono : ∀ a0 k, LeO (siloref01_ReadCount.f k a0) (siloref01_ReadCount.f (k + 1) a0) := by
  intro a0 k
  unfold siloref01_ReadCount.f
  repeat' first
      | (with_reducible exact siloref01_ReadWhole.mono _ _)
      | (with_reducible exact LeO.refl _)
      | (with_reducible exact LeO.none _)
      | (with_reducible refine LeO.ite ?_ ?_)
      | (with_reducible refine LeO.bind ?_ (fun _ => ?_))
      | exact siloref01_ReadWhole.mono _ _
      | exact LeO.none _
      | refine LeO.ite ?_ ?_
      | refine LeO.bind ?_ (fun _ => ?_)
set_option maxHeartbeats 8000000 in
set_option maxRecDepth 100000 in
theorem siloref01_ReadCount.calls (k : Nat) (a0 : ByteArray) (r1 : Int) (r2 : Int) (r3 : Int) (w : World) (h : siloref01_ReadCount.f k a0 = some (r1, r2, r3)) :
    Calls Try.prog 56 #[.string a0] w fun e w' => e = .returned (.tuple #[.int .i64 r1, .int .i64 r2, .int .i64 r3]) ∧ Drawn0 w w' := by
  have H : ((siloref01_ReadWhole.f k a0).bind fun bt136 => (if bt136.2.2 = 0 then (if bt136.1 < 0 then (some (0, 0, 3)) else (some (bt136.1, bt136.2.1, bt136.2.2))) else (some (bt136.1, bt136.2.1, bt136.2.2)))) = some (r1, r2, r3) := h
  clear h
  replace H := Option.bind_eq_some_iff.mp H
  obtain ⟨⟨t136, t137, t138⟩, A20, H⟩ := H
  replace H : (if t138 = 0 then (if t136 < 0 then (some (0, 0, 3)) else (some (t136, t137, t138))) else (some (t136, t137, t138))) = some (r1, r2, r3) := H
  have A2 := Aside0.mk A20
  clear A20
  by_cases c3 : t138 = 0
  · rw [if_pos c3] at H
    have c3b0 : (t138 == 0) = true := beq_iff_eq.mpr c3
    have c3b1 : (t138 != 0) = false := bne_eq_false_iff_eq.mpr c3
    clear c3
    by_cases c4 : t136 < 0
    · rw [if_pos c4] at H
      have c4b0 : decide (t136 < 0) = true := decide_eq_true c4
      clear c4
      simp only [Option.some.injEq, Prod.mk.injEq] at H
      obtain ⟨rfl, rfl, rfl⟩ := H
      go_enter Try.func56, Try.ntmps56
      go_wp2_with (first | ((with_reducible refine gate_callee (f := 62) rfl ?_); refine goesL_ (some 10) rfl rfl Try.func62 (by kernel_rfl) rfl #[.string a0] rfl (by (try simp only [List.map_toArray, List.map_cons, List.map_nil]); first | done | rfl | (simp only [List.length_drop, List.length_take]; rfl)) ?_; (with_reducible refine (siloref01_ReadWhole.calls k a0 t136 t137 t138 _ A2.out).mono ?_); rintro e w' ⟨rfl, ⟨nd, rfl⟩⟩; refine ⟨_, rfl, ?_⟩))
      go_ret3
      exact ⟨by first | rfl | (simp; done) | (simp [*]; done), by repeat (first | exact Drawn0.refl _ | apply Drawn0.step)⟩
    · rw [if_neg c4] at H
      have c4b0 : decide (t136 < 0) = false := decide_eq_false c4
      clear c4
      simp only [Option.some.injEq, Prod.mk.injEq] at H
      obtain ⟨rfl, rfl, rfl⟩ := H
      go_enter Try.func56, Try.ntmps56
      go_wp2_with (first | ((with_reducible refine gate_callee (f := 62) rfl ?_); refine goesL_ (some 10) rfl rfl Try.func62 (by kernel_rfl) rfl #[.string a0] rfl (by (try simp only [List.map_toArray, List.map_cons, List.map_nil]); first | done | rfl | (simp only [List.length_drop, List.length_take]; rfl)) ?_; (with_reducible refine (siloref01_ReadWhole.calls k a0 t136 t137 t138 _ A2.out).mono ?_); rintro e w' ⟨rfl, ⟨nd, rfl⟩⟩; refine ⟨_, rfl, ?_⟩))
      go_ret3
      exact ⟨by first | rfl | (simp; done) | (simp [*]; done), by repeat (first | exact Drawn0.refl _ | apply Drawn0.step)⟩
  · rw [if_neg c3] at H
    have c3b0 : (t138 == 0) = false := beq_eq_false_iff_ne.mpr c3
    have c3b1 : (t138 != 0) = true := bne_iff_ne.mpr c3
    simp only [Option.some.injEq, Prod.mk.injEq] at H
    obtain ⟨rfl, rfl, rfl⟩ := H
    go_enter Try.func56, Try.ntmps56
    go_wp2_with (first | ((with_reducible refine gate_callee (f := 62) rfl ?_); refine goesL_ (some 10) rfl rfl Try.func62 (by kernel_rfl) rfl #[.string a0] rfl (by (try simp only [List.map_toArray, List.map_cons, List.map_nil]); first | done | rfl | (simp only [List.length_drop, List.length_take]; rfl)) ?_; (with_reducible refine (siloref01_ReadWhole.calls k a0 t136 t137 t138 _ A2.out).mono ?_); rintro e w' ⟨rfl, ⟨nd, rfl⟩⟩; refine ⟨_, rfl, ?_⟩))
    go_ret3
    exact ⟨by first | rfl | (simp; done) | (simp [*]; done), by repeat (first | exact Drawn0.refl _ | apply Drawn0.step)⟩

end Go.Proofs.Ytlkljeghhahedaa.PBase
