/- Written by this session's program (wip/tools/myprint.py) out of the translation: functions, and what a call of each comes to. -/
import Derived.Test.YtmeikcifobfolaaPBasex0
import Derived.Test.YtmeikcifobfolaaPBasex6
namespace Go.Proofs.Ytmeikcifobfolaa.PBase
open Go.RowKit Go.Proofs.YtmeikcifobfolaaW.PrintWords Go.Proofs.YtmeikcifobfolaaW.PrintLast Go.Proofs.YtmeikcifobfolaaW.PrintMore
attribute [local go_sem] max2_int min2_int max_two min_two max_three min_three max_four min_four   -- for this text's walks alone
set_option linter.unusedVariables false
set_option linter.unusedSimpArgs false

/-! ### siloref19_Apply: function 9 -/
mutual
def siloref19_Apply.l0 : Nat → ByteArray → ByteArray → Int → Int → ByteArray → Option (ByteArray × Int)
  | 0, _, _, _, _, _ => none
  | k + 1, x0, x1, x6, x7, x9 => if (x9.size : Int) < x6 then (if 0 ≤ x7 then (if x7 ≤ (x1.size : Int) then ((siloref01_ReadCount.f k (x1.extract (x7 : Int).toNat x1.size)).bind fun bt139 => (if bt139.2.2 = 0 then (if bt139.1 = 0 then (siloref19_Apply.j1 k x0 x1 x6 (wrap64 (x7 + bt139.2.1)) x9 bt139.1 true) else (if bt139.1 = 1 then (siloref19_Apply.j1 k x0 x1 x6 (wrap64 (x7 + bt139.2.1)) x9 bt139.1 true) else (siloref19_Apply.j1 k x0 x1 x6 (wrap64 (x7 + bt139.2.1)) x9 bt139.1 (decide ((wrap64 (Int.tdiv bt139.1 2)) > (wrap64 (x6 - (x9.size : Int)))))))) else (some ((⟨#[]⟩ : ByteArray), bt139.2.2)))) else (none)) else (none)) else (if x7 < (x1.size : Int) then (some ((⟨#[]⟩ : ByteArray), 5)) else (some (x9, 0)))
def siloref19_Apply.j1 : Nat → ByteArray → ByteArray → Int → Int → ByteArray → Int → Bool → Option (ByteArray × Int)
  | 0, _, _, _, _, _, _, _ => none
  | k + 1, x0, x1, x6, x7, x9, x10, x57 => if x57 = true then (some ((⟨#[]⟩ : ByteArray), 3)) else (if (Int.tmod x10 2) = 0 then (if (wrap64 ((x1.size : Int) - x7)) < (wrap64 (Int.tdiv x10 2)) then (some ((⟨#[]⟩ : ByteArray), 2)) else (if 0 ≤ x7 then (if x7 ≤ (x1.size : Int) then (if 0 ≤ (wrap64 (Int.tdiv x10 2)) then (if (wrap64 (Int.tdiv x10 2)) ≤ ((x1.extract (x7 : Int).toNat x1.size).size : Int) then (if x9.size + ((x1.extract (x7 : Int).toNat x1.size).extract 0 ((wrap64 (Int.tdiv x10 2)) : Int).toNat).size ≤ 9223372036854775807 then (siloref19_Apply.l0 k x0 x1 x6 (wrap64 (x7 + (wrap64 (Int.tdiv x10 2)))) (x9 ++ ((x1.extract (x7 : Int).toNat x1.size).extract 0 ((wrap64 (Int.tdiv x10 2)) : Int).toNat))) else (none)) else (none)) else (none)) else (none)) else (none))) else (if 0 ≤ x7 then (if x7 ≤ (x1.size : Int) then ((siloref01_ReadCount.f k (x1.extract (x7 : Int).toNat x1.size)).bind fun bt142 => (if bt142.2.2 = 0 then (if bt142.1 > (x0.size : Int) then (some ((⟨#[]⟩ : ByteArray), 3)) else (if (wrap64 ((x0.size : Int) - bt142.1)) < (wrap64 (Int.tdiv x10 2)) then (some ((⟨#[]⟩ : ByteArray), 3)) else (if 0 ≤ bt142.1 then (if bt142.1 ≤ (x0.size : Int) then (if 0 ≤ (wrap64 (Int.tdiv x10 2)) then (if (wrap64 (Int.tdiv x10 2)) ≤ ((x0.extract (bt142.1 : Int).toNat x0.size).size : Int) then (if x9.size + ((x0.extract (bt142.1 : Int).toNat x0.size).extract 0 ((wrap64 (Int.tdiv x10 2)) : Int).toNat).size ≤ 9223372036854775807 then (siloref19_Apply.l0 k x0 x1 x6 (wrap64 (x7 + bt142.2.1)) (x9 ++ ((x0.extract (bt142.1 : Int).toNat x0.size).extract 0 ((wrap64 (Int.tdiv x10 2)) : Int).toNat))) else (none)) else (none)) else (none)) else (none)) else (none)))) else (some ((⟨#[]⟩ : ByteArray), bt142.2.2)))) else (none)) else (none)))
end
def siloref19_Apply.f (k : Nat) (a0 : ByteArray) (a1 : ByteArray) : Option (ByteArray × Int) := (siloref01_ReadCount.f k a1).bind fun bt136 => (if bt136.2.2 = 0 then (if bt136.1 > 4096 then (some ((⟨#[]⟩ : ByteArray), 6)) else (siloref19_Apply.l0 k a0 a1 bt136.1 bt136.2.1 (⟨#[]⟩ : ByteArray))) else (some ((⟨#[]⟩ : ByteArray), bt136.2.2)))
theorem siloref19_Apply.mono_l : ∀ k, (∀ y0 y1 y2 y3 y4, LeO (siloref19_Apply.l0 k y0 y1 y2 y3 y4) (siloref19_Apply.l0 (k + 1) y0 y1 y2 y3 y4)) ∧ (∀ y0 y1 y2 y3 y4 y5 y6, LeO (siloref19_Apply.j1 k y0 y1 y2 y3 y4 y5 y6) (siloref19_Apply.j1 (k + 1) y0 y1 y2 y3 y4 y5 y6))
  | 0 => ⟨fun _ _ _ _ _ r h => by simp [siloref19_Apply.l0] at h, fun _ _ _ _ _ _ _ r h => by simp [siloref19_Apply.j1] at h⟩
  | k + 1 => by
    obtain ⟨ih0, ih1⟩ := siloref19_Apply.mono_l k
    refine ⟨?_, ?_⟩
    · intro y0 y1 y2 y3 y4
      unfold siloref19_Apply.l0
      repeat' first
      | (with_reducible exact ih0 _ _ _ _ _)
      | (with_reducible exact ih1 _ _ _ _ _ _ _)
      | (with_reducible exact siloref01_ReadCount.mono _ _)
      | (with_reducible exact LeO.refl _)
      | (with_reducible exact LeO.none _)
      | (with_reducible refine LeO.ite ?_ ?_)
      | (with_reducible refine LeO.bind ?_ (fun _ => ?_))
      | exact ih0 _ _ _ _ _
      | exact ih1 _ _ _ _ _ _ _
      | exact siloref01_ReadCount.mono _ _
      | exact LeO.none _
      | refine LeO.ite ?_ ?_
      | refine LeO.bind ?_ (fun _ => ?_)
    · intro y0 y1 y2 y3 y4 y5 y6
      unfold siloref19_Apply.j1
      repeat' first
      | (with_reducible exact ih0 _ _ _ _ _)
      | (with_reducible exact ih1 _ _ _ _ _ _ _)
      | (with_reducible exact siloref01_ReadCount.mono _ _)
      | (with_reducible exact LeO.refl _)
      | (with_reducible exact LeO.none _)
      | (with_reducible refine LeO.ite ?_ ?_)
      | (with_reducible refine LeO.bind ?_ (fun _ => ?_))
      | exact ih0 _ _ _ _ _
      | exact ih1 _ _ _ _ _ _ _
      | exact siloref01_ReadCount.mono _ _
      | exact LeO.none _
      | refine LeO.ite ?_ ?_
      | refine LeO.bind ?_ (fun _ => ?_)
theorem siloref19_Apply.mono : ∀ a0 a1 k, LeO (siloref19_Apply.f k a0 a1) (siloref19_Apply.f (k + 1) a0 a1) := by
  intro a0 a1 k
  obtain ⟨ih0, ih1⟩ := siloref19_Apply.mono_l k
  unfold siloref19_Apply.f
  repeat' first
      | (with_reducible exact ih0 _ _ _ _ _)
      | (with_reducible exact ih1 _ _ _ _ _ _ _)
      | (with_reducible exact siloref01_ReadCount.mono _ _)
      | (with_reducible exact LeO.refl _)
      | (with_reducible exact LeO.none _)
      | (with_reducible refine LeO.ite ?_ ?_)
      | (with_reducible refine LeO.bind ?_ (fun _ => ?_))
      | exact ih0 _ _ _ _ _
      | exact ih1 _ _ _ _ _ _ _
      | exact siloref01_ReadCount.mono _ _
      | exact LeO.none _
      | refine LeO.ite ?_ ?_
      | refine LeO.bind ?_ (fun _ => ?_)
set_option maxHeartbeats 8000000 in
set_option maxRecDepth 100000 in
theorem siloref19_Apply.calls (k : Nat) (a0 : ByteArray) (a1 : ByteArray) (r1 : ByteArray) (r2 : Int) (w : World) (h : siloref19_Apply.f k a0 a1 = some (r1, r2)) :
    Calls Try.prog 9 #[.string a0, .string a1] w fun e w' => e = .returned (.tuple #[.string r1, .int .i64 r2]) ∧ Drawn0 w w' := by
  have H : ((siloref01_ReadCount.f k a1).bind fun bt136 => (if bt136.2.2 = 0 then (if bt136.1 > 4096 then (some ((⟨#[]⟩ : ByteArray), 6)) else (siloref19_Apply.l0 k a0 a1 bt136.1 bt136.2.1 (⟨#[]⟩ : ByteArray))) else (some ((⟨#[]⟩ : ByteArray), bt136.2.2)))) = some (r1, r2) := h
  clear h
  replace H := Option.bind_eq_some_iff.mp H
  obtain ⟨⟨t136, t137, t138⟩, A30, H⟩ := H
  replace H : (if t138 = 0 then (if t136 > 4096 then (some ((⟨#[]⟩ : ByteArray), 6)) else (siloref19_Apply.l0 k a0 a1 t136 t137 (⟨#[]⟩ : ByteArray))) else (some ((⟨#[]⟩ : ByteArray), t138))) = some (r1, r2) := H
  have A3 := Aside0.mk A30
  clear A30
  by_cases c4 : t138 = 0
  · rw [if_pos c4] at H
    have c4b0 : (t138 == 0) = true := beq_iff_eq.mpr c4
    have c4b1 : (t138 != 0) = false := bne_eq_false_iff_eq.mpr c4
    clear c4
    by_cases c5 : t136 > 4096
    · rw [if_pos c5] at H
      have c5b0 : decide (4096 < t136) = true := decide_eq_true c5
      clear c5
      simp only [Option.some.injEq, Prod.mk.injEq] at H
      obtain ⟨rfl, rfl⟩ := H
      go_enter Try.func9, Try.ntmps9
      go_wp2_with (first | ((with_reducible refine gate_callee (f := 16) rfl ?_); refine goesL_ (some 16) rfl rfl Try.func16 (by kernel_rfl) rfl #[.string a1] rfl (by (try simp only [List.map_toArray, List.map_cons, List.map_nil]); first | done | rfl | (simp only [List.length_drop, List.length_take]; rfl)) ?_; (with_reducible refine (siloref01_ReadCount.calls k a1 t136 t137 t138 _ A3.out).mono ?_); rintro e w' ⟨rfl, ⟨nd, rfl⟩⟩; refine ⟨_, rfl, ?_⟩))
      go_ret2
      exact ⟨by first | rfl | (simp; done) | (simp [*]; done), by repeat (first | exact Drawn0.refl _ | apply Drawn0.step)⟩
    · rw [if_neg c5] at H
      have c5b0 : decide (4096 < t136) = false := decide_eq_false c5
      clear c5
      have H' := Aside0.mk H
      clear H
      go_enter Try.func9, Try.ntmps9
      go_wp2_with (first | ((with_reducible refine gate_callee (f := 16) rfl ?_); refine goesL_ (some 16) rfl rfl Try.func16 (by kernel_rfl) rfl #[.string a1] rfl (by (try simp only [List.map_toArray, List.map_cons, List.map_nil]); first | done | rfl | (simp only [List.length_drop, List.length_take]; rfl)) ?_; (with_reducible refine (siloref01_ReadCount.calls k a1 t136 t137 t138 _ A3.out).mono ?_); rintro e w' ⟨rfl, ⟨nd, rfl⟩⟩; refine ⟨_, rfl, ?_⟩))
      go_loopg [7, 9] k (fun kq v7 v9 w' => ∃ (x7_1 : Int) (x9_1 : ByteArray), v7 = .int .i64 x7_1 ∧ v9 = .string x9_1 ∧ Aside0 (siloref19_Apply.l0 kq a0 a1 t136 x7_1 x9_1 = some (r1, r2)) ∧ Aside0 (kq ≤ k) ∧ Drawn0 w w')
      case atStart => exact ⟨(t137), ((⟨#[]⟩ : ByteArray)), (by first | rfl | (simp; done) | (simp [*]; done)), (by first | rfl | (simp; done) | (simp [*]; done)), H', ⟨Nat.le_refl _⟩, by repeat (first | exact Drawn0.refl _ | apply Drawn0.step)⟩
      case round =>
        clear H'
        try clear c1
        try clear p2
        try clear c4
        try clear c4b0
        try clear c4b1
        try clear c5
        try clear c5b0
        obtain ⟨x7_1, x9_1, rfl, rfl, HA, HK1, ⟨m1, rfl⟩⟩ := hrel
        cases gk with
        | zero => exact absurd HA.out (by simp [siloref19_Apply.l0])
        | succ k1 =>
          have H := HA.out
          clear HA
          simp only [siloref19_Apply.l0] at H
          by_cases c6 : (x9_1.size : Int) < t136
          · rw [if_pos c6] at H
            have c6b0 : decide ((x9_1.size : Int) < t136) = true := decide_eq_true c6
            clear c6
            by_cases c7 : 0 ≤ x7_1
            · rw [if_pos c7] at H
              have c7b0 := eq_true c7
              have c7b1 : decide (0 ≤ x7_1) = true := decide_eq_true c7
              clear c7
              by_cases c8 : x7_1 ≤ (a1.size : Int)
              · rw [if_pos c8] at H
                have c8b0 := eq_true c8
                have c8b1 : decide (x7_1 ≤ (a1.size : Int)) = true := decide_eq_true c8
                clear c8
                replace H := Option.bind_eq_some_iff.mp H
                obtain ⟨⟨t139, t140, t141⟩, A90, H⟩ := H
                replace H : (if t141 = 0 then (if t139 = 0 then (siloref19_Apply.j1 k1 a0 a1 t136 (wrap64 (x7_1 + t140)) x9_1 t139 true) else (if t139 = 1 then (siloref19_Apply.j1 k1 a0 a1 t136 (wrap64 (x7_1 + t140)) x9_1 t139 true) else (siloref19_Apply.j1 k1 a0 a1 t136 (wrap64 (x7_1 + t140)) x9_1 t139 (decide ((wrap64 (Int.tdiv t139 2)) > (wrap64 (t136 - (x9_1.size : Int)))))))) else (some ((⟨#[]⟩ : ByteArray), t141))) = some (r1, r2) := H
                have A9 := Aside0.mk A90
                clear A90
                by_cases c10 : t141 = 0
                · rw [if_pos c10] at H
                  have c10b0 : (t141 == 0) = true := beq_iff_eq.mpr c10
                  have c10b1 : (t141 != 0) = false := bne_eq_false_iff_eq.mpr c10
                  clear c10
                  have HC11 := Aside0.mk H
                  clear H
                  go_upto_region 12 with (first | ((with_reducible refine gate_callee (f := 16) rfl ?_); refine goesL_ (some 33) rfl rfl Try.func16 (by kernel_rfl) rfl #[.string (a1.extract (x7_1 : Int).toNat a1.size)] rfl (by (try simp only [List.map_toArray, List.map_cons, List.map_nil]); first | done | rfl | (simp only [List.length_drop, List.length_take]; rfl)) ?_; (with_reducible refine (siloref01_ReadCount.calls k1 (a1.extract (x7_1 : Int).toNat a1.size) t139 t140 t141 _ A9.out).mono ?_); rintro e w' ⟨rfl, ⟨nd, rfl⟩⟩; refine ⟨_, rfl, ?_⟩))
                  (try simp only [Act.put, List.setIfInBounds_toArray, List.set_cons_zero, List.set_cons_succ])
                  go_cut [57] (fun v57 wc => ∃ (kq : Nat) (x57_10 : Bool), v57 = .bool x57_10 ∧ Aside0 (siloref19_Apply.j1 kq a0 a1 t136 (wrap64 (x7_1 + t140)) x9_1 t139 x57_10 = some (r1, r2)) ∧ Aside0 (kq ≤ k1) ∧ Drawn0 w wc)
                  case first =>
                    have H := HC11.out
                    clear HC11
                    by_cases c12 : t139 = 0
                    · rw [if_pos c12] at H
                      have c12b0 : (t139 == 0) = true := beq_iff_eq.mpr c12
                      have c12b1 : (t139 != 0) = false := bne_eq_false_iff_eq.mpr c12
                      clear c12
                      (first | rw [c12b0] | (simp only [i64_w, i32_w]; rw [c12b0]) | skip)
                      have H' := Aside0.mk H
                      clear H
                      go_wp2
                      go_meet
                      case rel => exact ⟨_, (true), (by first | rfl | (simp; done) | (simp [*]; done)), H', ⟨by have := HK1.out; first | omega | exact Nat.le_refl _⟩, by repeat (first | exact Drawn0.refl _ | apply Drawn0.step)⟩
                    · rw [if_neg c12] at H
                      have c12b0 : (t139 == 0) = false := beq_eq_false_iff_ne.mpr c12
                      have c12b1 : (t139 != 0) = true := bne_iff_ne.mpr c12
                      (first | rw [c12b0] | (simp only [i64_w, i32_w]; rw [c12b0]) | skip)
                      by_cases c13 : t139 = 1
                      · rw [if_pos c13] at H
                        have c13b0 : (t139 == 1) = true := beq_iff_eq.mpr c13
                        have c13b1 : (t139 != 1) = false := bne_eq_false_iff_eq.mpr c13
                        clear c13
                        have H' := Aside0.mk H
                        clear H
                        go_wp2
                        go_meet
                        case rel => exact ⟨_, (true), (by first | rfl | (simp; done) | (simp [*]; done)), H', ⟨by have := HK1.out; first | omega | exact Nat.le_refl _⟩, by repeat (first | exact Drawn0.refl _ | apply Drawn0.step)⟩
                      · rw [if_neg c13] at H
                        have c13b0 : (t139 == 1) = false := beq_eq_false_iff_ne.mpr c13
                        have c13b1 : (t139 != 1) = true := bne_iff_ne.mpr c13
                        have H' := Aside0.mk H
                        clear H
                        go_wp2
                        go_meet
                        case rel => exact ⟨_, (decide ((wrap64 (Int.tdiv t139 2)) > (wrap64 (t136 - (x9_1.size : Int))))), (by first | rfl | (simp; done) | (simp [*]; done)), H', ⟨by have := HK1.out; first | omega | exact Nat.le_refl _⟩, by repeat (first | exact Drawn0.refl _ | apply Drawn0.step)⟩
                  case rest =>
                    clear HC11
                    try clear c1
                    try clear p2
                    try clear c4
                    try clear c4b0
                    try clear c4b1
                    try clear c5
                    try clear c5b0
                    try clear c6
                    try clear c6b0
                    try clear p6
                    try clear c7
                    try clear c7b0
                    try clear c7b1
                    try clear c8
                    try clear c8b0
                    try clear c8b1
                    try clear c9
                    try clear c10
                    try clear c10b0
                    try clear c10b1
                    try clear c12
                    try clear c12b0
                    try clear c12b1
                    try clear c13
                    try clear c13b0
                    try clear c13b1
                    try clear p2
                    obtain ⟨kq, x57_10, rfl, HA, HJ10, ⟨mc10, rfl⟩⟩ := hcut
                    cases kq with
                    | zero => exact absurd HA.out (by simp [siloref19_Apply.j1])
                    | succ kj10 =>
                      have H := HA.out
                      clear HA
                      simp only [siloref19_Apply.j1] at H
                      by_cases c14 : x57_10 = true
                      · subst c14
                        have H1 : (some ((⟨#[]⟩ : ByteArray), 3)) = some (r1, r2) := by rw [if_pos rfl] at H; exact H
                        clear H
                        have H := H1
                        clear H1
                        simp only [Option.some.injEq, Prod.mk.injEq] at H
                        obtain ⟨rfl, rfl⟩ := H
                        go_wp2
                        go_ret2
                        exact ⟨by first | rfl | (simp; done) | (simp [*]; done), by repeat (first | exact Drawn0.refl _ | apply Drawn0.step)⟩
                      · replace c14 := Bool.eq_false_iff.mpr c14
                        subst c14
                        have H1 : (if (Int.tmod t139 2) = 0 then (if (wrap64 ((a1.size : Int) - (wrap64 (x7_1 + t140)))) < (wrap64 (Int.tdiv t139 2)) then (some ((⟨#[]⟩ : ByteArray), 2)) else (if 0 ≤ (wrap64 (x7_1 + t140)) then (if (wrap64 (x7_1 + t140)) ≤ (a1.size : Int) then (if 0 ≤ (wrap64 (Int.tdiv t139 2)) then (if (wrap64 (Int.tdiv t139 2)) ≤ ((a1.extract ((wrap64 (x7_1 + t140)) : Int).toNat a1.size).size : Int) then (if x9_1.size + ((a1.extract ((wrap64 (x7_1 + t140)) : Int).toNat a1.size).extract 0 ((wrap64 (Int.tdiv t139 2)) : Int).toNat).size ≤ 9223372036854775807 then (siloref19_Apply.l0 kj10 a0 a1 t136 (wrap64 ((wrap64 (x7_1 + t140)) + (wrap64 (Int.tdiv t139 2)))) (x9_1 ++ ((a1.extract ((wrap64 (x7_1 + t140)) : Int).toNat a1.size).extract 0 ((wrap64 (Int.tdiv t139 2)) : Int).toNat))) else (none)) else (none)) else (none)) else (none)) else (none))) else (if 0 ≤ (wrap64 (x7_1 + t140)) then (if (wrap64 (x7_1 + t140)) ≤ (a1.size : Int) then ((siloref01_ReadCount.f kj10 (a1.extract ((wrap64 (x7_1 + t140)) : Int).toNat a1.size)).bind fun bt142 => (if bt142.2.2 = 0 then (if bt142.1 > (a0.size : Int) then (some ((⟨#[]⟩ : ByteArray), 3)) else (if (wrap64 ((a0.size : Int) - bt142.1)) < (wrap64 (Int.tdiv t139 2)) then (some ((⟨#[]⟩ : ByteArray), 3)) else (if 0 ≤ bt142.1 then (if bt142.1 ≤ (a0.size : Int) then (if 0 ≤ (wrap64 (Int.tdiv t139 2)) then (if (wrap64 (Int.tdiv t139 2)) ≤ ((a0.extract (bt142.1 : Int).toNat a0.size).size : Int) then (if x9_1.size + ((a0.extract (bt142.1 : Int).toNat a0.size).extract 0 ((wrap64 (Int.tdiv t139 2)) : Int).toNat).size ≤ 9223372036854775807 then (siloref19_Apply.l0 kj10 a0 a1 t136 (wrap64 ((wrap64 (x7_1 + t140)) + bt142.2.1)) (x9_1 ++ ((a0.extract (bt142.1 : Int).toNat a0.size).extract 0 ((wrap64 (Int.tdiv t139 2)) : Int).toNat))) else (none)) else (none)) else (none)) else (none)) else (none)))) else (some ((⟨#[]⟩ : ByteArray), bt142.2.2)))) else (none)) else (none))) = some (r1, r2) := by rw [if_neg (show ¬ (false = true) by decide)] at H; exact H
                        clear H
                        have H := H1
                        clear H1
                        by_cases c15 : (Int.tmod t139 2) = 0
                        · rw [if_pos c15] at H
                          have c15b0 : ((Int.tmod t139 2) == 0) = true := beq_iff_eq.mpr c15
                          have c15b1 : ((Int.tmod t139 2) != 0) = false := bne_eq_false_iff_eq.mpr c15
                          clear c15
                          by_cases c16 : (wrap64 ((a1.size : Int) - (wrap64 (x7_1 + t140)))) < (wrap64 (Int.tdiv t139 2))
                          · rw [if_pos c16] at H
                            have c16b0 : decide ((wrap64 ((a1.size : Int) - (wrap64 (x7_1 + t140)))) < (wrap64 (Int.tdiv t139 2))) = true := decide_eq_true c16
                            clear c16
                            simp only [Option.some.injEq, Prod.mk.injEq] at H
                            obtain ⟨rfl, rfl⟩ := H
                            go_wp2
                            go_ret2
                            exact ⟨by first | rfl | (simp; done) | (simp [*]; done), by repeat (first | exact Drawn0.refl _ | apply Drawn0.step)⟩
                          · rw [if_neg c16] at H
                            have c16b0 : decide ((wrap64 ((a1.size : Int) - (wrap64 (x7_1 + t140)))) < (wrap64 (Int.tdiv t139 2))) = false := decide_eq_false c16
                            clear c16
                            obtain ⟨ji17, hji17⟩ : ∃ j_ : Int, (wrap64 (x7_1 + t140)) = j_ := ⟨_, rfl⟩
                            replace H : (if 0 ≤ (ji17) then (if (ji17) ≤ (a1.size : Int) then (if 0 ≤ (wrap64 (Int.tdiv t139 2)) then (if (wrap64 (Int.tdiv t139 2)) ≤ ((a1.extract ((ji17) : Int).toNat a1.size).size : Int) then (if x9_1.size + ((a1.extract ((ji17) : Int).toNat a1.size).extract 0 ((wrap64 (Int.tdiv t139 2)) : Int).toNat).size ≤ 9223372036854775807 then (siloref19_Apply.l0 kj10 a0 a1 t136 (wrap64 ((ji17) + (wrap64 (Int.tdiv t139 2)))) (x9_1 ++ ((a1.extract ((ji17) : Int).toNat a1.size).extract 0 ((wrap64 (Int.tdiv t139 2)) : Int).toNat))) else (none)) else (none)) else (none)) else (none)) else (none)) = some (r1, r2) := by first | (rw [hji17] at H; exact H) | (simp only [hji17] at H ⊢; exact H)
                            (try rw [hji17] at c16b0)
                            have hji17w : (IntKind.i64.wrap (x7_1 + t140)) = ji17 := (i64_w _).trans hji17
                            by_cases c18 : 0 ≤ (ji17)
                            · rw [if_pos c18] at H
                              have c18b0 := eq_true c18
                              have c18b1 : decide (0 ≤ (ji17)) = true := decide_eq_true c18
                              clear c18
                              by_cases c19 : (ji17) ≤ (a1.size : Int)
                              · rw [if_pos c19] at H
                                have c19b0 := eq_true c19
                                have c19b1 : decide ((ji17) ≤ (a1.size : Int)) = true := decide_eq_true c19
                                clear c19
                                obtain ⟨ji20, hji20⟩ : ∃ j_ : Int, (wrap64 (Int.tdiv t139 2)) = j_ := ⟨_, rfl⟩
                                replace H : (if 0 ≤ (ji20) then (if (ji20) ≤ ((a1.extract ((ji17) : Int).toNat a1.size).size : Int) then (if x9_1.size + ((a1.extract ((ji17) : Int).toNat a1.size).extract 0 ((ji20) : Int).toNat).size ≤ 9223372036854775807 then (siloref19_Apply.l0 kj10 a0 a1 t136 (wrap64 ((ji17) + (ji20))) (x9_1 ++ ((a1.extract ((ji17) : Int).toNat a1.size).extract 0 ((ji20) : Int).toNat))) else (none)) else (none)) else (none)) = some (r1, r2) := by first | (rw [hji20] at H; exact H) | (simp only [hji20] at H ⊢; exact H)
                                (try rw [hji20] at c16b0)
                                have hji20w : (IntKind.i64.wrap (Int.tdiv t139 2)) = ji20 := (i64_w _).trans hji20
                                by_cases c21 : 0 ≤ (ji20)
                                · rw [if_pos c21] at H
                                  have c21b0 := eq_true c21
                                  have c21b1 : decide (0 ≤ (ji20)) = true := decide_eq_true c21
                                  clear c21
                                  by_cases c22 : (ji20) ≤ ((a1.extract ((ji17) : Int).toNat a1.size).size : Int)
                                  · rw [if_pos c22] at H
                                    have c22b0 := eq_true c22
                                    have c22b1 : decide ((ji20) ≤ ((a1.extract ((ji17) : Int).toNat a1.size).size : Int)) = true := decide_eq_true c22
                                    try have c22b2 : ¬ (((a1.size - ((ji17) : Int).toNat : Nat) : Int) < (ji20)) := by have h_ := c22; simp only [ByteArray.size_extract, Nat.min_self] at h_; omega
                                    clear c22
                                    by_cases c23 : x9_1.size + ((a1.extract ((ji17) : Int).toNat a1.size).extract 0 ((ji20) : Int).toNat).size ≤ 9223372036854775807
                                    · rw [if_pos c23] at H
                                      have c23b0 := eq_true c23
                                      have c23b1 : decide (x9_1.size + ((a1.extract ((ji17) : Int).toNat a1.size).extract 0 ((ji20) : Int).toNat).size ≤ 9223372036854775807) = true := decide_eq_true c23
                                      try have c23b2 : (9223372036854775807 < x9_1.size + ((a1.extract ((ji17) : Int).toNat a1.size).extract 0 ((ji20) : Int).toNat).size) = False := eq_false (Nat.not_lt.2 c23)
                                      have H' := Aside0.mk H
                                      clear H
                                      go_wp2
                                      go_roundg kj10
                                      case measure => have := HK1.out; have := HJ10.out; omega
                                      case rel => exact ⟨(wrap64 ((ji17) + (ji20))), (x9_1 ++ ((a1.extract ((ji17) : Int).toNat a1.size).extract 0 ((ji20) : Int).toNat)), (by first | rfl | (simp; done) | (simp only [← hji17, ← hji20] <;> (first | rfl | simp)) | (simp [*]; done)), (by first | rfl | (simp; done) | (simp only [← hji17, ← hji20] <;> (first | rfl | simp)) | (simp [*]; done)), H', ⟨by have := HK1.out; have := HJ10.out; omega⟩, by repeat (first | exact Drawn0.refl _ | apply Drawn0.step)⟩
                                    · rw [if_neg c23] at H
                                      exact absurd H (by simp)
                                  · rw [if_neg c22] at H
                                    exact absurd H (by simp)
                                · rw [if_neg c21] at H
                                  exact absurd H (by simp)
                              · rw [if_neg c19] at H
                                exact absurd H (by simp)
                            · rw [if_neg c18] at H
                              exact absurd H (by simp)
                        · rw [if_neg c15] at H
                          have c15b0 : ((Int.tmod t139 2) == 0) = false := beq_eq_false_iff_ne.mpr c15
                          have c15b1 : ((Int.tmod t139 2) != 0) = true := bne_iff_ne.mpr c15
                          obtain ⟨ji24, hji24⟩ : ∃ j_ : Int, (wrap64 (x7_1 + t140)) = j_ := ⟨_, rfl⟩
                          replace H : (if 0 ≤ (ji24) then (if (ji24) ≤ (a1.size : Int) then ((siloref01_ReadCount.f kj10 (a1.extract ((ji24) : Int).toNat a1.size)).bind fun bt142 => (if bt142.2.2 = 0 then (if bt142.1 > (a0.size : Int) then (some ((⟨#[]⟩ : ByteArray), 3)) else (if (wrap64 ((a0.size : Int) - bt142.1)) < (wrap64 (Int.tdiv t139 2)) then (some ((⟨#[]⟩ : ByteArray), 3)) else (if 0 ≤ bt142.1 then (if bt142.1 ≤ (a0.size : Int) then (if 0 ≤ (wrap64 (Int.tdiv t139 2)) then (if (wrap64 (Int.tdiv t139 2)) ≤ ((a0.extract (bt142.1 : Int).toNat a0.size).size : Int) then (if x9_1.size + ((a0.extract (bt142.1 : Int).toNat a0.size).extract 0 ((wrap64 (Int.tdiv t139 2)) : Int).toNat).size ≤ 9223372036854775807 then (siloref19_Apply.l0 kj10 a0 a1 t136 (wrap64 ((ji24) + bt142.2.1)) (x9_1 ++ ((a0.extract (bt142.1 : Int).toNat a0.size).extract 0 ((wrap64 (Int.tdiv t139 2)) : Int).toNat))) else (none)) else (none)) else (none)) else (none)) else (none)))) else (some ((⟨#[]⟩ : ByteArray), bt142.2.2)))) else (none)) else (none)) = some (r1, r2) := by first | (rw [hji24] at H; exact H) | (simp only [hji24] at H ⊢; exact H)
                          have hji24w : (IntKind.i64.wrap (x7_1 + t140)) = ji24 := (i64_w _).trans hji24
                          by_cases c25 : 0 ≤ (ji24)
                          · rw [if_pos c25] at H
                            have c25b0 := eq_true c25
                            have c25b1 : decide (0 ≤ (ji24)) = true := decide_eq_true c25
                            clear c25
                            by_cases c26 : (ji24) ≤ (a1.size : Int)
                            · rw [if_pos c26] at H
                              have c26b0 := eq_true c26
                              have c26b1 : decide ((ji24) ≤ (a1.size : Int)) = true := decide_eq_true c26
                              clear c26
                              replace H := Option.bind_eq_some_iff.mp H
                              obtain ⟨⟨t142, t143, t144⟩, A270, H⟩ := H
                              replace H : (if t144 = 0 then (if t142 > (a0.size : Int) then (some ((⟨#[]⟩ : ByteArray), 3)) else (if (wrap64 ((a0.size : Int) - t142)) < (wrap64 (Int.tdiv t139 2)) then (some ((⟨#[]⟩ : ByteArray), 3)) else (if 0 ≤ t142 then (if t142 ≤ (a0.size : Int) then (if 0 ≤ (wrap64 (Int.tdiv t139 2)) then (if (wrap64 (Int.tdiv t139 2)) ≤ ((a0.extract (t142 : Int).toNat a0.size).size : Int) then (if x9_1.size + ((a0.extract (t142 : Int).toNat a0.size).extract 0 ((wrap64 (Int.tdiv t139 2)) : Int).toNat).size ≤ 9223372036854775807 then (siloref19_Apply.l0 kj10 a0 a1 t136 (wrap64 ((ji24) + t143)) (x9_1 ++ ((a0.extract (t142 : Int).toNat a0.size).extract 0 ((wrap64 (Int.tdiv t139 2)) : Int).toNat))) else (none)) else (none)) else (none)) else (none)) else (none)))) else (some ((⟨#[]⟩ : ByteArray), t144))) = some (r1, r2) := H
                              have A27 := Aside0.mk A270
                              clear A270
                              by_cases c28 : t144 = 0
                              · rw [if_pos c28] at H
                                have c28b0 : (t144 == 0) = true := beq_iff_eq.mpr c28
                                have c28b1 : (t144 != 0) = false := bne_eq_false_iff_eq.mpr c28
                                clear c28
                                by_cases c29 : t142 > (a0.size : Int)
                                · rw [if_pos c29] at H
                                  have c29b0 : decide ((a0.size : Int) < t142) = true := decide_eq_true c29
                                  clear c29
                                  simp only [Option.some.injEq, Prod.mk.injEq] at H
                                  obtain ⟨rfl, rfl⟩ := H
                                  go_wp2_with (first | ((with_reducible refine gate_callee (f := 16) rfl ?_); refine goesL_ (some 84) rfl rfl Try.func16 (by kernel_rfl) rfl #[.string (a1.extract ((ji24) : Int).toNat a1.size)] rfl (by (try simp only [List.map_toArray, List.map_cons, List.map_nil]); first | done | (simp only [hji24]; rfl) | rfl | (simp only [List.length_drop, List.length_take]; rfl)) ?_; (with_reducible refine (siloref01_ReadCount.calls kj10 (a1.extract ((ji24) : Int).toNat a1.size) t142 t143 t144 _ A27.out).mono ?_); rintro e w' ⟨rfl, ⟨nd, rfl⟩⟩; refine ⟨_, rfl, ?_⟩))
                                  go_ret2
                                  exact ⟨by first | rfl | (simp; done) | (simp only [← hji24] <;> (first | rfl | simp)) | (simp [*]; done), by repeat (first | exact Drawn0.refl _ | apply Drawn0.step)⟩
                                · rw [if_neg c29] at H
                                  have c29b0 : decide ((a0.size : Int) < t142) = false := decide_eq_false c29
                                  clear c29
                                  by_cases c30 : (wrap64 ((a0.size : Int) - t142)) < (wrap64 (Int.tdiv t139 2))
                                  · rw [if_pos c30] at H
                                    have c30b0 : decide ((wrap64 ((a0.size : Int) - t142)) < (wrap64 (Int.tdiv t139 2))) = true := decide_eq_true c30
                                    clear c30
                                    simp only [Option.some.injEq, Prod.mk.injEq] at H
                                    obtain ⟨rfl, rfl⟩ := H
                                    go_wp2_with (first | ((with_reducible refine gate_callee (f := 16) rfl ?_); refine goesL_ (some 84) rfl rfl Try.func16 (by kernel_rfl) rfl #[.string (a1.extract ((ji24) : Int).toNat a1.size)] rfl (by (try simp only [List.map_toArray, List.map_cons, List.map_nil]); first | done | (simp only [hji24]; rfl) | rfl | (simp only [List.length_drop, List.length_take]; rfl)) ?_; (with_reducible refine (siloref01_ReadCount.calls kj10 (a1.extract ((ji24) : Int).toNat a1.size) t142 t143 t144 _ A27.out).mono ?_); rintro e w' ⟨rfl, ⟨nd, rfl⟩⟩; refine ⟨_, rfl, ?_⟩))
                                    go_ret2
                                    exact ⟨by first | rfl | (simp; done) | (simp only [← hji24] <;> (first | rfl | simp)) | (simp [*]; done), by repeat (first | exact Drawn0.refl _ | apply Drawn0.step)⟩
                                  · rw [if_neg c30] at H
                                    have c30b0 : decide ((wrap64 ((a0.size : Int) - t142)) < (wrap64 (Int.tdiv t139 2))) = false := decide_eq_false c30
                                    clear c30
                                    by_cases c31 : 0 ≤ t142
                                    · rw [if_pos c31] at H
                                      have c31b0 := eq_true c31
                                      have c31b1 : decide (0 ≤ t142) = true := decide_eq_true c31
                                      clear c31
                                      by_cases c32 : t142 ≤ (a0.size : Int)
                                      · rw [if_pos c32] at H
                                        have c32b0 := eq_true c32
                                        have c32b1 : decide (t142 ≤ (a0.size : Int)) = true := decide_eq_true c32
                                        clear c32
                                        obtain ⟨ji33, hji33⟩ : ∃ j_ : Int, (wrap64 (Int.tdiv t139 2)) = j_ := ⟨_, rfl⟩
                                        replace H : (if 0 ≤ (ji33) then (if (ji33) ≤ ((a0.extract (t142 : Int).toNat a0.size).size : Int) then (if x9_1.size + ((a0.extract (t142 : Int).toNat a0.size).extract 0 ((ji33) : Int).toNat).size ≤ 9223372036854775807 then (siloref19_Apply.l0 kj10 a0 a1 t136 (wrap64 ((ji24) + t143)) (x9_1 ++ ((a0.extract (t142 : Int).toNat a0.size).extract 0 ((ji33) : Int).toNat))) else (none)) else (none)) else (none)) = some (r1, r2) := by first | (rw [hji33] at H; exact H) | (simp only [hji33] at H ⊢; exact H)
                                        (try rw [hji33] at c30b0)
                                        (try rw [hji33] at A27)
                                        have hji33w : (IntKind.i64.wrap (Int.tdiv t139 2)) = ji33 := (i64_w _).trans hji33
                                        by_cases c34 : 0 ≤ (ji33)
                                        · rw [if_pos c34] at H
                                          have c34b0 := eq_true c34
                                          have c34b1 : decide (0 ≤ (ji33)) = true := decide_eq_true c34
                                          clear c34
                                          by_cases c35 : (ji33) ≤ ((a0.extract (t142 : Int).toNat a0.size).size : Int)
                                          · rw [if_pos c35] at H
                                            have c35b0 := eq_true c35
                                            have c35b1 : decide ((ji33) ≤ ((a0.extract (t142 : Int).toNat a0.size).size : Int)) = true := decide_eq_true c35
                                            try have c35b2 : ¬ (((a0.size - (t142 : Int).toNat : Nat) : Int) < (ji33)) := by have h_ := c35; simp only [ByteArray.size_extract, Nat.min_self] at h_; omega
                                            clear c35
                                            by_cases c36 : x9_1.size + ((a0.extract (t142 : Int).toNat a0.size).extract 0 ((ji33) : Int).toNat).size ≤ 9223372036854775807
                                            · rw [if_pos c36] at H
                                              have c36b0 := eq_true c36
                                              have c36b1 : decide (x9_1.size + ((a0.extract (t142 : Int).toNat a0.size).extract 0 ((ji33) : Int).toNat).size ≤ 9223372036854775807) = true := decide_eq_true c36
                                              try have c36b2 : (9223372036854775807 < x9_1.size + ((a0.extract (t142 : Int).toNat a0.size).extract 0 ((ji33) : Int).toNat).size) = False := eq_false (Nat.not_lt.2 c36)
                                              have H' := Aside0.mk H
                                              clear H
                                              go_wp2_with (first | ((with_reducible refine gate_callee (f := 16) rfl ?_); refine goesL_ (some 84) rfl rfl Try.func16 (by kernel_rfl) rfl #[.string (a1.extract ((ji24) : Int).toNat a1.size)] rfl (by (try simp only [List.map_toArray, List.map_cons, List.map_nil]); first | done | (simp only [hji24]; rfl) | rfl | (simp only [List.length_drop, List.length_take]; rfl)) ?_; (with_reducible refine (siloref01_ReadCount.calls kj10 (a1.extract ((ji24) : Int).toNat a1.size) t142 t143 t144 _ A27.out).mono ?_); rintro e w' ⟨rfl, ⟨nd, rfl⟩⟩; refine ⟨_, rfl, ?_⟩))
                                              go_roundg kj10
                                              case measure => have := HK1.out; have := HJ10.out; omega
                                              case rel => exact ⟨(wrap64 ((ji24) + t143)), (x9_1 ++ ((a0.extract (t142 : Int).toNat a0.size).extract 0 ((ji33) : Int).toNat)), (by first | rfl | (simp; done) | (simp only [← hji24] <;> (first | rfl | simp)) | (simp [*]; done)), (by first | rfl | (simp; done) | (simp only [← hji33] <;> (first | rfl | simp)) | (simp [*]; done)), H', ⟨by have := HK1.out; have := HJ10.out; omega⟩, by repeat (first | exact Drawn0.refl _ | apply Drawn0.step)⟩
                                            · rw [if_neg c36] at H
                                              exact absurd H (by simp)
                                          · rw [if_neg c35] at H
                                            exact absurd H (by simp)
                                        · rw [if_neg c34] at H
                                          exact absurd H (by simp)
                                      · rw [if_neg c32] at H
                                        exact absurd H (by simp)
                                    · rw [if_neg c31] at H
                                      exact absurd H (by simp)
                              · rw [if_neg c28] at H
                                have c28b0 : (t144 == 0) = false := beq_eq_false_iff_ne.mpr c28
                                have c28b1 : (t144 != 0) = true := bne_iff_ne.mpr c28
                                simp only [Option.some.injEq, Prod.mk.injEq] at H
                                obtain ⟨rfl, rfl⟩ := H
                                go_wp2_with (first | ((with_reducible refine gate_callee (f := 16) rfl ?_); refine goesL_ (some 84) rfl rfl Try.func16 (by kernel_rfl) rfl #[.string (a1.extract ((ji24) : Int).toNat a1.size)] rfl (by (try simp only [List.map_toArray, List.map_cons, List.map_nil]); first | done | (simp only [hji24]; rfl) | rfl | (simp only [List.length_drop, List.length_take]; rfl)) ?_; (with_reducible refine (siloref01_ReadCount.calls kj10 (a1.extract ((ji24) : Int).toNat a1.size) t142 t143 t144 _ A27.out).mono ?_); rintro e w' ⟨rfl, ⟨nd, rfl⟩⟩; refine ⟨_, rfl, ?_⟩))
                                go_ret2
                                exact ⟨by first | rfl | (simp; done) | (simp only [← hji24] <;> (first | rfl | simp)) | (simp [*]; done), by repeat (first | exact Drawn0.refl _ | apply Drawn0.step)⟩
                            · rw [if_neg c26] at H
                              exact absurd H (by simp)
                          · rw [if_neg c25] at H
                            exact absurd H (by simp)
                · rw [if_neg c10] at H
                  have c10b0 : (t141 == 0) = false := beq_eq_false_iff_ne.mpr c10
                  have c10b1 : (t141 != 0) = true := bne_iff_ne.mpr c10
                  simp only [Option.some.injEq, Prod.mk.injEq] at H
                  obtain ⟨rfl, rfl⟩ := H
                  go_wp2_with (first | ((with_reducible refine gate_callee (f := 16) rfl ?_); refine goesL_ (some 33) rfl rfl Try.func16 (by kernel_rfl) rfl #[.string (a1.extract (x7_1 : Int).toNat a1.size)] rfl (by (try simp only [List.map_toArray, List.map_cons, List.map_nil]); first | done | rfl | (simp only [List.length_drop, List.length_take]; rfl)) ?_; (with_reducible refine (siloref01_ReadCount.calls k1 (a1.extract (x7_1 : Int).toNat a1.size) t139 t140 t141 _ A9.out).mono ?_); rintro e w' ⟨rfl, ⟨nd, rfl⟩⟩; refine ⟨_, rfl, ?_⟩))
                  go_ret2
                  exact ⟨by first | rfl | (simp; done) | (simp [*]; done), by repeat (first | exact Drawn0.refl _ | apply Drawn0.step)⟩
              · rw [if_neg c8] at H
                exact absurd H (by simp)
            · rw [if_neg c7] at H
              exact absurd H (by simp)
          · rw [if_neg c6] at H
            have c6b0 : decide ((x9_1.size : Int) < t136) = false := decide_eq_false c6
            clear c6
            by_cases c37 : x7_1 < (a1.size : Int)
            · rw [if_pos c37] at H
              have c37b0 : decide (x7_1 < (a1.size : Int)) = true := decide_eq_true c37
              clear c37
              simp only [Option.some.injEq, Prod.mk.injEq] at H
              obtain ⟨rfl, rfl⟩ := H
              go_wp2
              go_ret2
              exact ⟨by first | rfl | (simp; done) | (simp [*]; done), by repeat (first | exact Drawn0.refl _ | apply Drawn0.step)⟩
            · rw [if_neg c37] at H
              have c37b0 : decide (x7_1 < (a1.size : Int)) = false := decide_eq_false c37
              clear c37
              simp only [Option.some.injEq, Prod.mk.injEq] at H
              obtain ⟨rfl, rfl⟩ := H
              go_wp2
              go_ret2
              exact ⟨by first | rfl | (simp; done) | (simp [*]; done), by repeat (first | exact Drawn0.refl _ | apply Drawn0.step)⟩
  · rw [if_neg c4] at H
    have c4b0 : (t138 == 0) = false := beq_eq_false_iff_ne.mpr c4
    have c4b1 : (t138 != 0) = true := bne_iff_ne.mpr c4
    simp only [Option.some.injEq, Prod.mk.injEq] at H
    obtain ⟨rfl, rfl⟩ := H
    go_enter Try.func9, Try.ntmps9
    go_wp2_with (first | ((with_reducible refine gate_callee (f := 16) rfl ?_); refine goesL_ (some 16) rfl rfl Try.func16 (by kernel_rfl) rfl #[.string a1] rfl (by (try simp only [List.map_toArray, List.map_cons, List.map_nil]); first | done | rfl | (simp only [List.length_drop, List.length_take]; rfl)) ?_; (with_reducible refine (siloref01_ReadCount.calls k a1 t136 t137 t138 _ A3.out).mono ?_); rintro e w' ⟨rfl, ⟨nd, rfl⟩⟩; refine ⟨_, rfl, ?_⟩))
    go_ret2
    exact ⟨by first | rfl | (simp; done) | (simp [*]; done), by repeat (first | exact Drawn0.refl _ | apply Drawn0.step)⟩

end Go.Proofs.Ytmeikcifobfolaa.PBase
