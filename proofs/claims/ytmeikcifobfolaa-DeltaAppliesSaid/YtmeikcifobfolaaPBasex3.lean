/- Written by this session's program (wip/tools/myprint.py) out of the translation: functions, and what a call of each comes to. -/
import Derived.Test.YtmeikcifobfolaaPBasex0
import Derived.Test.YtmeikcifobfolaaPBasex1
import Derived.Test.YtmeikcifobfolaaPBasex2
namespace Go.Proofs.Ytmeikcifobfolaa.PBase
open Go.RowKit Go.Proofs.YtmeikcifobfolaaW.PrintWords Go.Proofs.YtmeikcifobfolaaW.PrintLast Go.Proofs.YtmeikcifobfolaaW.PrintMore
attribute [local go_sem] max2_int min2_int max_two min_two max_three min_three max_four min_four   -- for this text's walks alone
set_option linter.unusedVariables false
set_option linter.unusedSimpArgs false

/-! ### six_Reader_Count: function 13 -/
mutual
def six_Reader_Count.j0 : Nat → Int → Int → Int → Bool → ByteArray → Option (Int × Int × ByteArray)
  | 0, _, _, _, _, _ => none
  | k + 1, x4, x6, x7, x19, x1000 => if x19 = true then (six_Reader_Count.j1 k x4 x6 3 x1000) else (six_Reader_Count.j1 k x4 x6 x7 x1000)
def six_Reader_Count.j1 : Nat → Int → Int → Int → ByteArray → Option (Int × Int × ByteArray)
  | 0, _, _, _, _ => none
  | k + 1, x4, x6, x7, x1000 => if x7 = 0 then (if 0 ≤ x6 then (if x6 ≤ (x1000.size : Int) then (some (x4, 0, x1000.extract (x6 : Int).toNat x1000.size)) else (none)) else (none)) else (some (0, x7, x1000))
end
def six_Reader_Count.f (k : Nat) (s0_0 : ByteArray) : Option (Int × Int × ByteArray) := (six_Reader_number.f k s0_0).bind fun bt102 => (if bt102.2.2.2.1 = 0 then (six_Reader_Count.j0 k bt102.1 bt102.2.2.1 bt102.2.2.2.1 bt102.2.1 bt102.2.2.2.2) else (six_Reader_Count.j0 k bt102.1 bt102.2.2.1 bt102.2.2.2.1 false bt102.2.2.2.2))
theorem six_Reader_Count.mono_l : ∀ k, (∀ y0 y1 y2 y3 y4, LeO (six_Reader_Count.j0 k y0 y1 y2 y3 y4) (six_Reader_Count.j0 (k + 1) y0 y1 y2 y3 y4)) ∧ (∀ y0 y1 y2 y3, LeO (six_Reader_Count.j1 k y0 y1 y2 y3) (six_Reader_Count.j1 (k + 1) y0 y1 y2 y3))
  | 0 => ⟨fun _ _ _ _ _ r h => by simp [six_Reader_Count.j0] at h, fun _ _ _ _ r h => by simp [six_Reader_Count.j1] at h⟩
  | k + 1 => by
    obtain ⟨ih0, ih1⟩ := six_Reader_Count.mono_l k
    refine ⟨?_, ?_⟩
    · intro y0 y1 y2 y3 y4
      unfold six_Reader_Count.j0
      repeat' first
      | (with_reducible exact ih0 _ _ _ _ _)
      | (with_reducible exact ih1 _ _ _ _)
      | (with_reducible exact six_Reader_number.mono _ _)
      | (with_reducible exact LeO.refl _)
      | (with_reducible exact LeO.none _)
      | (with_reducible refine LeO.ite ?_ ?_)
      | (with_reducible refine LeO.bind ?_ (fun _ => ?_))
      | exact ih0 _ _ _ _ _
      | exact ih1 _ _ _ _
      | exact six_Reader_number.mono _ _
      | exact LeO.none _
      | refine LeO.ite ?_ ?_
      | refine LeO.bind ?_ (fun _ => ?_)
    · intro y0 y1 y2 y3
      unfold six_Reader_Count.j1
      repeat' first
      | (with_reducible exact ih0 _ _ _ _ _)
      | (with_reducible exact ih1 _ _ _ _)
      | (with_reducible exact six_Reader_number.mono _ _)
      | (with_reducible exact LeO.refl _)
      | (with_reducible exact LeO.none _)
      | (with_reducible refine LeO.ite ?_ ?_)
      | (with_reducible refine LeO.bind ?_ (fun _ => ?_))
      | exact ih0 _ _ _ _ _
      | exact ih1 _ _ _ _
      | exact six_Reader_number.mono _ _
      | exact LeO.none _
      | refine LeO.ite ?_ ?_
      | refine LeO.bind ?_ (fun _ => ?_)
theorem six_Reader_Count.mono : ∀ a0 k, LeO (six_Reader_Count.f k a0) (six_Reader_Count.f (k + 1) a0) := by
  intro a0 k
  obtain ⟨ih0, ih1⟩ := six_Reader_Count.mono_l k
  unfold six_Reader_Count.f
  repeat' first
      | (with_reducible exact ih0 _ _ _ _ _)
      | (with_reducible exact ih1 _ _ _ _)
      | (with_reducible exact six_Reader_number.mono _ _)
      | (with_reducible exact LeO.refl _)
      | (with_reducible exact LeO.none _)
      | (with_reducible refine LeO.ite ?_ ?_)
      | (with_reducible refine LeO.bind ?_ (fun _ => ?_))
      | exact ih0 _ _ _ _ _
      | exact ih1 _ _ _ _
      | exact six_Reader_number.mono _ _
      | exact LeO.none _
      | refine LeO.ite ?_ ?_
      | refine LeO.bind ?_ (fun _ => ?_)
set_option maxHeartbeats 8000000 in
set_option maxRecDepth 100000 in
theorem six_Reader_Count.calls (k : Nat) (g : Nat) (s0_0 : ByteArray) (r1 : Int) (r2 : Int) (r3 : ByteArray) (w0 w : World) (hI : IsS58 w0 w g s0_0) (hB : Below w0.heap.size w0 w) (h : six_Reader_Count.f k s0_0 = some (r1, r2, r3)) :
    Calls Try.prog 13 #[.pointer (some ⟨g, 0, none⟩)] w fun e w' => e = .returned (.tuple #[.int .i64 r1, .int .i64 r2]) ∧ IsS58 w0 w' g r3 ∧ Below w0.heap.size w0 w' ∧ KeepBut w w' g none := by
  have HI0 := Aside0.mk hI
  have HK := Aside0.mk (KeepBut.refl w g none)
  have HL := Aside0.mk hB.size
  clear hI
  have HW0 := Aside0.mk hB.size
  have HB := Aside0.mk hB
  clear hB
  have H : ((six_Reader_number.f k s0_0).bind fun bt102 => (if bt102.2.2.2.1 = 0 then (six_Reader_Count.j0 k bt102.1 bt102.2.2.1 bt102.2.2.2.1 bt102.2.1 bt102.2.2.2.2) else (six_Reader_Count.j0 k bt102.1 bt102.2.2.1 bt102.2.2.2.1 false bt102.2.2.2.2))) = some (r1, r2, r3) := h
  clear h
  replace H := Option.bind_eq_some_iff.mp H
  obtain ⟨⟨t102, t103, t104, t105, t106⟩, A20, H⟩ := H
  replace H : (if t105 = 0 then (six_Reader_Count.j0 k t102 t104 t105 t103 t106) else (six_Reader_Count.j0 k t102 t104 t105 false t106)) = some (r1, r2, r3) := H
  have A2 := Aside0.mk A20
  clear A20
  have HC3 := Aside0.mk H
  clear H
  go_enter Try.func13, Try.ntmps13
  go_upto_region 2 with (first | ((with_reducible refine gate_callee (f := 23) rfl ?_); refine goesL_ (some 10) rfl rfl Try.func23 (by kernel_rfl) rfl #[.pointer (some ⟨g, 0, none⟩)] rfl (by (try simp only [List.map_toArray, List.map_cons, List.map_nil]); first | done | rfl | (simp only [List.length_drop, List.length_take]; rfl)) ?_; (with_reducible refine (six_Reader_number.calls k g s0_0 t102 t103 t104 t105 t106 w0 _ ?side1 ?side2 A2.out).mono ?_); (case side1 => repeat (first | (with_reducible first | exact HI0.out | apply IsS58.alloc | apply IsS58.drewN | apply IsS58.drew | apply IsS58.set_0) | exact HI0.out)); (case side2 => repeat (first | (with_reducible first | exact HB.out | apply below_alloc | apply pw_below_drewN | apply below_drew1 | refine below_set ?_ (IsS58.ge HI0.out)) | exact HB.out)); rintro e w4 ⟨rfl, hi, hb, hk⟩; refine ⟨_, rfl, ?_⟩; have n0_ := Aside0.mk (KeepBut.trans (by repeat (first | (with_reducible first | exact HK.out | apply KeepBut.set_ | apply keep_drewN | apply keep_drew | apply keep_alloc) | exact HK.out)) hk (.inl rfl)); have n1_ := Aside0.mk (hb); have n2_ := Aside0.mk (hi); clear HK; clear HB; clear HI0; have HK := n0_; have HB := n1_; have HI0 := n2_; clear n0_ n1_ n2_; (try clear hb); (try clear hb2); (try clear hk); (try clear hi)))
  (try simp only [Act.put, List.setIfInBounds_toArray, List.set_cons_zero, List.set_cons_succ])
  go_cut [19] (fun v19 wc => ∃ (kq : Nat) (x19_2 : Bool), v19 = .bool x19_2 ∧ Aside0 (six_Reader_Count.j0 kq t102 t104 t105 x19_2 t106 = some (r1, r2, r3)) ∧ Aside0 (kq ≤ k) ∧ Aside0 (IsS58 w0 wc g t106) ∧ Aside0 (KeepBut w wc g none) ∧ Aside0 (Below w0.heap.size w0 wc))
  case first =>
    have H := HC3.out
    clear HC3
    by_cases c5 : t105 = 0
    · rw [if_pos c5] at H
      have c5b0 : (t105 == 0) = true := beq_iff_eq.mpr c5
      have c5b1 : (t105 != 0) = false := bne_eq_false_iff_eq.mpr c5
      clear c5
      (first | rw [c5b0] | (simp only [i64_w, i32_w]; rw [c5b0]) | skip)
      have H' := Aside0.mk H
      clear H
      go_wp2
      go_meet
      case rel => exact ⟨_, (t103), (by first | rfl | (simp; done) | (simp [*]; done)), H', ⟨by first | omega | exact Nat.le_refl _⟩, ⟨by repeat (first | (with_reducible first | exact HI0.out | apply IsS58.alloc | apply IsS58.drewN | apply IsS58.drew | apply IsS58.set_0) | exact HI0.out)⟩, ⟨by repeat (first | (with_reducible first | exact HK.out | apply KeepBut.set_ | apply keep_drewN | apply keep_drew | apply keep_alloc) | exact HK.out)⟩, ⟨by repeat (first | (with_reducible first | exact HB.out | apply below_alloc | apply pw_below_drewN | apply below_drew1 | refine below_set ?_ (IsS58.ge HI0.out)) | exact HB.out)⟩⟩
    · rw [if_neg c5] at H
      have c5b0 : (t105 == 0) = false := beq_eq_false_iff_ne.mpr c5
      have c5b1 : (t105 != 0) = true := bne_iff_ne.mpr c5
      (first | rw [c5b0] | (simp only [i64_w, i32_w]; rw [c5b0]) | skip)
      have H' := Aside0.mk H
      clear H
      go_wp2
      go_meet
      case rel => exact ⟨_, (false), (by first | rfl | (simp; done) | (simp [*]; done)), H', ⟨by first | omega | exact Nat.le_refl _⟩, ⟨by repeat (first | (with_reducible first | exact HI0.out | apply IsS58.alloc | apply IsS58.drewN | apply IsS58.drew | apply IsS58.set_0) | exact HI0.out)⟩, ⟨by repeat (first | (with_reducible first | exact HK.out | apply KeepBut.set_ | apply keep_drewN | apply keep_drew | apply keep_alloc) | exact HK.out)⟩, ⟨by repeat (first | (with_reducible first | exact HB.out | apply below_alloc | apply pw_below_drewN | apply below_drew1 | refine below_set ?_ (IsS58.ge HI0.out)) | exact HB.out)⟩⟩
  case rest =>
    clear HC3
    try clear c1
    try clear c2
    try clear p2
    try clear c5
    try clear c5b0
    try clear c5b1
    obtain ⟨kq, x19_2, rfl, HA, HJ2, HI0, HK, HB⟩ := hcut
    cases kq with
    | zero => exact absurd HA.out (by simp [six_Reader_Count.j0])
    | succ kj2 =>
      have H := HA.out
      clear HA
      simp only [six_Reader_Count.j0] at H
      have HC6 := Aside0.mk H
      clear H
      go_upto_if 19 with (fail)
      go_cut [7] (fun v7 wc => ∃ (kq : Nat) (x7_5 : Int), v7 = .int .i64 x7_5 ∧ Aside0 (six_Reader_Count.j1 kq t102 t104 x7_5 t106 = some (r1, r2, r3)) ∧ Aside0 (kq ≤ kj2) ∧ Aside0 (IsS58 w0 wc g t106) ∧ Aside0 (KeepBut w wc g none) ∧ Aside0 (Below w0.heap.size w0 wc))
      case first =>
        have H := HC6.out
        clear HC6
        by_cases c7 : x19_2 = true
        · subst c7
          have H1 : (six_Reader_Count.j1 kj2 t102 t104 3 t106) = some (r1, r2, r3) := by rw [if_pos rfl] at H; exact H
          clear H
          have H := H1
          clear H1
          have H' := Aside0.mk H
          clear H
          go_wp2
          go_meet
          case rel => exact ⟨_, (3), (by first | rfl | (simp; done) | (simp [*]; done)), H', ⟨by have := HJ2.out; first | omega | exact Nat.le_refl _⟩, ⟨by repeat (first | (with_reducible first | exact HI0.out | apply IsS58.alloc | apply IsS58.drewN | apply IsS58.drew | apply IsS58.set_0) | exact HI0.out)⟩, ⟨by repeat (first | (with_reducible first | exact HK.out | apply KeepBut.set_ | apply keep_drewN | apply keep_drew | apply keep_alloc) | exact HK.out)⟩, ⟨by repeat (first | (with_reducible first | exact HB.out | apply below_alloc | apply pw_below_drewN | apply below_drew1 | refine below_set ?_ (IsS58.ge HI0.out)) | exact HB.out)⟩⟩
        · replace c7 := Bool.eq_false_iff.mpr c7
          subst c7
          have H1 : (six_Reader_Count.j1 kj2 t102 t104 t105 t106) = some (r1, r2, r3) := by rw [if_neg (show ¬ (false = true) by decide)] at H; exact H
          clear H
          have H := H1
          clear H1
          have H' := Aside0.mk H
          clear H
          go_wp2
          go_meet
          case rel => exact ⟨_, (t105), (by first | rfl | (simp; done) | (simp [*]; done)), H', ⟨by have := HJ2.out; first | omega | exact Nat.le_refl _⟩, ⟨by repeat (first | (with_reducible first | exact HI0.out | apply IsS58.alloc | apply IsS58.drewN | apply IsS58.drew | apply IsS58.set_0) | exact HI0.out)⟩, ⟨by repeat (first | (with_reducible first | exact HK.out | apply KeepBut.set_ | apply keep_drewN | apply keep_drew | apply keep_alloc) | exact HK.out)⟩, ⟨by repeat (first | (with_reducible first | exact HB.out | apply below_alloc | apply pw_below_drewN | apply below_drew1 | refine below_set ?_ (IsS58.ge HI0.out)) | exact HB.out)⟩⟩
      case rest =>
        clear HC6
        try clear c1
        try clear c2
        try clear p2
        try clear c5
        try clear c5b0
        try clear c5b1
        try clear c7
        try clear p2
        obtain ⟨kq, x7_5, rfl, HA, HJ5, HI0, HK, HB⟩ := hcut
        cases kq with
        | zero => exact absurd HA.out (by simp [six_Reader_Count.j1])
        | succ kj5 =>
          have H := HA.out
          clear HA
          simp only [six_Reader_Count.j1] at H
          by_cases c8 : x7_5 = 0
          · rw [if_pos c8] at H
            have c8b0 : (x7_5 == 0) = true := beq_iff_eq.mpr c8
            have c8b1 : (x7_5 != 0) = false := bne_eq_false_iff_eq.mpr c8
            clear c8
            by_cases c9 : 0 ≤ t104
            · rw [if_pos c9] at H
              have c9b0 := eq_true c9
              have c9b1 : decide (0 ≤ t104) = true := decide_eq_true c9
              clear c9
              by_cases c10 : t104 ≤ (t106.size : Int)
              · rw [if_pos c10] at H
                have c10b0 := eq_true c10
                have c10b1 : decide (t104 ≤ (t106.size : Int)) = true := decide_eq_true c10
                clear c10
                simp only [Option.some.injEq, Prod.mk.injEq] at H
                obtain ⟨rfl, rfl, rfl⟩ := H
                obtain ⟨HGz11, hgz11⟩ := HI0.out
                have hcz11_0 := cellS58_0 HGz11
                have hfz11_0 := blk_frozen HGz11 0
                clear HGz11 hgz11
                go_wp2
                go_ret2
                exact ⟨by first | rfl | (simp [errW_none, errW_some] <;> rfl) | (simp [*, errW_none, errW_some] <;> rfl), by repeat (first | (with_reducible first | exact HI0.out | apply IsS58.alloc | apply IsS58.drewN | apply IsS58.drew | apply IsS58.set_0) | exact HI0.out), by repeat (first | (with_reducible first | exact HB.out | apply below_alloc | apply pw_below_drewN | apply below_drew1 | refine below_set ?_ (IsS58.ge HI0.out)) | exact HB.out), by repeat (first | (with_reducible first | exact HK.out | apply KeepBut.set_ | apply keep_drewN | apply keep_drew | apply keep_alloc) | exact HK.out)⟩
              · rw [if_neg c10] at H
                exact absurd H (by simp)
            · rw [if_neg c9] at H
              exact absurd H (by simp)
          · rw [if_neg c8] at H
            have c8b0 : (x7_5 == 0) = false := beq_eq_false_iff_ne.mpr c8
            have c8b1 : (x7_5 != 0) = true := bne_iff_ne.mpr c8
            simp only [Option.some.injEq, Prod.mk.injEq] at H
            obtain ⟨rfl, rfl, rfl⟩ := H
            go_wp2
            go_ret2
            exact ⟨by first | rfl | (simp [errW_none, errW_some] <;> rfl) | (simp [*, errW_none, errW_some] <;> rfl), by repeat (first | (with_reducible first | exact HI0.out | apply IsS58.alloc | apply IsS58.drewN | apply IsS58.drew | apply IsS58.set_0) | exact HI0.out), by repeat (first | (with_reducible first | exact HB.out | apply below_alloc | apply pw_below_drewN | apply below_drew1 | refine below_set ?_ (IsS58.ge HI0.out)) | exact HB.out), by repeat (first | (with_reducible first | exact HK.out | apply KeepBut.set_ | apply keep_drewN | apply keep_drew | apply keep_alloc) | exact HK.out)⟩

/-! ### six_Reader_Raw: function 24 -/
def six_Reader_Raw.f (s0_0 : ByteArray) (a1 : Int) : Option (ByteArray × Int × ByteArray) := if a1 < 0 then (some ((⟨#[]⟩ : ByteArray), 1, s0_0)) else (if a1 > (s0_0.size : Int) then (some ((⟨#[]⟩ : ByteArray), 2, s0_0)) else (if 0 ≤ a1 then (if a1 ≤ (s0_0.size : Int) then (some (s0_0.extract 0 (a1 : Int).toNat, 0, s0_0.extract (a1 : Int).toNat s0_0.size)) else (none)) else (none)))
set_option maxHeartbeats 8000000 in
set_option maxRecDepth 100000 in
theorem six_Reader_Raw.calls (g : Nat) (s0_0 : ByteArray) (a1 : Int) (r1 : ByteArray) (r2 : Int) (r3 : ByteArray) (w0 w : World) (hI : IsS58 w0 w g s0_0) (hB : Below w0.heap.size w0 w) (h : six_Reader_Raw.f s0_0 a1 = some (r1, r2, r3)) :
    Calls Try.prog 24 #[.pointer (some ⟨g, 0, none⟩), .int .i64 a1] w fun e w' => e = .returned (.tuple #[.string r1, .int .i64 r2]) ∧ IsS58 w0 w' g r3 ∧ Below w0.heap.size w0 w' ∧ KeepBut w w' g none := by
  have HI0 := Aside0.mk hI
  have HK := Aside0.mk (KeepBut.refl w g none)
  have HL := Aside0.mk hB.size
  clear hI
  have HW0 := Aside0.mk hB.size
  have HB := Aside0.mk hB
  clear hB
  have H : (if a1 < 0 then (some ((⟨#[]⟩ : ByteArray), 1, s0_0)) else (if a1 > (s0_0.size : Int) then (some ((⟨#[]⟩ : ByteArray), 2, s0_0)) else (if 0 ≤ a1 then (if a1 ≤ (s0_0.size : Int) then (some (s0_0.extract 0 (a1 : Int).toNat, 0, s0_0.extract (a1 : Int).toNat s0_0.size)) else (none)) else (none)))) = some (r1, r2, r3) := h
  clear h
  by_cases c3 : a1 < 0
  · rw [if_pos c3] at H
    have c3b0 : decide (a1 < 0) = true := decide_eq_true c3
    clear c3
    simp only [Option.some.injEq, Prod.mk.injEq] at H
    obtain ⟨rfl, rfl, rfl⟩ := H
    go_enter Try.func24, Try.ntmps24
    go_wp2
    go_ret2
    exact ⟨by first | rfl | (simp [errW_none, errW_some] <;> rfl) | (simp [*, errW_none, errW_some] <;> rfl), by repeat (first | (with_reducible first | exact HI0.out | apply IsS58.alloc | apply IsS58.drewN | apply IsS58.drew | apply IsS58.set_0) | exact HI0.out), by repeat (first | (with_reducible first | exact HB.out | apply below_alloc | apply pw_below_drewN | apply below_drew1 | refine below_set ?_ (IsS58.ge HI0.out)) | exact HB.out), by repeat (first | (with_reducible first | exact HK.out | apply KeepBut.set_ | apply keep_drewN | apply keep_drew | apply keep_alloc) | exact HK.out)⟩
  · rw [if_neg c3] at H
    have c3b0 : decide (a1 < 0) = false := decide_eq_false c3
    clear c3
    by_cases c4 : a1 > (s0_0.size : Int)
    · rw [if_pos c4] at H
      have c4b0 : decide ((s0_0.size : Int) < a1) = true := decide_eq_true c4
      clear c4
      simp only [Option.some.injEq, Prod.mk.injEq] at H
      obtain ⟨rfl, rfl, rfl⟩ := H
      obtain ⟨HGz5, hgz5⟩ := HI0.out
      have hcz5_0 := cellS58_0 HGz5
      have hfz5_0 := blk_frozen HGz5 0
      clear HGz5 hgz5
      go_enter Try.func24, Try.ntmps24
      go_wp2
      go_ret2
      exact ⟨by first | rfl | (simp [errW_none, errW_some] <;> rfl) | (simp [*, errW_none, errW_some] <;> rfl), by repeat (first | (with_reducible first | exact HI0.out | apply IsS58.alloc | apply IsS58.drewN | apply IsS58.drew | apply IsS58.set_0) | exact HI0.out), by repeat (first | (with_reducible first | exact HB.out | apply below_alloc | apply pw_below_drewN | apply below_drew1 | refine below_set ?_ (IsS58.ge HI0.out)) | exact HB.out), by repeat (first | (with_reducible first | exact HK.out | apply KeepBut.set_ | apply keep_drewN | apply keep_drew | apply keep_alloc) | exact HK.out)⟩
    · rw [if_neg c4] at H
      have c4b0 : decide ((s0_0.size : Int) < a1) = false := decide_eq_false c4
      clear c4
      by_cases c6 : 0 ≤ a1
      · rw [if_pos c6] at H
        have c6b0 := eq_true c6
        have c6b1 : decide (0 ≤ a1) = true := decide_eq_true c6
        clear c6
        by_cases c7 : a1 ≤ (s0_0.size : Int)
        · rw [if_pos c7] at H
          have c7b0 := eq_true c7
          have c7b1 : decide (a1 ≤ (s0_0.size : Int)) = true := decide_eq_true c7
          clear c7
          have c8b0 := eq_true (of_decide_eq_true (by first | (with_reducible assumption) | assumption) : 0 ≤ a1)
          have c9b0 := eq_true (of_decide_eq_true (by first | (with_reducible assumption) | assumption) : a1 ≤ (s0_0.size : Int))
          simp only [Option.some.injEq, Prod.mk.injEq] at H
          obtain ⟨rfl, rfl, rfl⟩ := H
          obtain ⟨HGz10, hgz10⟩ := HI0.out
          have hcz10_0 := cellS58_0 HGz10
          have hfz10_0 := blk_frozen HGz10 0
          clear HGz10 hgz10
          go_enter Try.func24, Try.ntmps24
          go_wp2
          go_ret2
          exact ⟨by first | rfl | (simp [errW_none, errW_some] <;> rfl) | (simp [*, errW_none, errW_some] <;> rfl), by repeat (first | (with_reducible first | exact HI0.out | apply IsS58.alloc | apply IsS58.drewN | apply IsS58.drew | apply IsS58.set_0) | exact HI0.out), by repeat (first | (with_reducible first | exact HB.out | apply below_alloc | apply pw_below_drewN | apply below_drew1 | refine below_set ?_ (IsS58.ge HI0.out)) | exact HB.out), by repeat (first | (with_reducible first | exact HK.out | apply KeepBut.set_ | apply keep_drewN | apply keep_drew | apply keep_alloc) | exact HK.out)⟩
        · rw [if_neg c7] at H
          exact absurd H (by simp)
      · rw [if_neg c6] at H
        exact absurd H (by simp)

end Go.Proofs.Ytmeikcifobfolaa.PBase
