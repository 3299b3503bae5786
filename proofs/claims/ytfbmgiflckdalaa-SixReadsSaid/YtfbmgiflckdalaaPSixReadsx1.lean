/- Written by this session's program (wip/tools/myprint.py) out of the translation: functions, and what a call of each comes to. -/
import Derived.Test.YtfbmgiflckdalaaPSixReadsx0
namespace Go.Proofs.Ytfbmgiflckdalaa.PSixReads
open Go.RowKit Go.Proofs.YtfbmgiflckdalaaW.PrintWords Go.Proofs.YtfbmgiflckdalaaW.PrintLast Go.Proofs.YtfbmgiflckdalaaW.PrintMore Go.Proofs.Ytfbmgiflckdalaa.PSix
attribute [local go_sem] max2_int min2_int max_two min_two max_three min_three max_four min_four   -- for this text's walks alone
set_option linter.unusedVariables false
set_option linter.unusedSimpArgs false

-- in the base: function 9 (six_Over)

-- in the base: function 13 (six_Reader_End)

-- in the base: function 14 (six_New)

-- in the base: function 39 (six_groups)

-- NOT PRINTED: function 15 (six_Writer_Whole)

-- NOT PRINTED: function 16 (six_Writer_Text)

-- NOT PRINTED: function 17 (six_Writer_Bytes)

-- in the base: function 40 (six_Reader_number)

-- in the base: function 18 (six_Reader_Whole)

-- in the base: function 30 (six_Reader_Count)

-- in the base: function 31 (six_Reader_Raw)

-- in the base: function 19 (six_Reader_Text)

-- NOT PRINTED: function 20 (six_Writer_Count)

/-! ### silolaw01_awake: function 10: by hand (the walk stands in SixAwake) -/
def silolaw01_awake.f : Option (Bool) := some true
theorem silolaw01_awake.calls (r : Bool) (w : World) (h : silolaw01_awake.f = some r) :
    Calls Try.prog 10 #[] w fun e w' => e = .returned (.bool r) ∧ Below w.heap.size w w' := by
  injection h with h
  subst h
  exact Go.Proofs.Ytfbmgiflckdalaa.SixAwake.awake_w w

-- in the base: function 11 (six_Reader_Rest)

-- in the base: function 36 (siloref01_ReadWhole)

-- in the base: function 35 (siloref01_ReadCount)

-- in the base: function 38 (siloref01_ReadRaw)

-- in the base: function 37 (siloref01_ReadText)

-- in the base: function 12 (silolaw01_went)

/-! ### silolaw01_SixReads: function 3 -/
mutual
def silolaw01_SixReads.j0 : Nat → List Int → Int → Bool → ByteArray → Option (Bool)
  | 0, _, _, _, _ => none
  | k + 1, x1, x2, x23, x164000 => if x23 = true then (some false) else (silolaw01_SixReads.l0 k x1 x2 0 x164000)
def silolaw01_SixReads.l0 : Nat → List Int → Int → Int → ByteArray → Option (Bool)
  | 0, _, _, _, _ => none
  | k + 1, x1, x2, x8, x164000 => if x8 < (x1.length : Int) then (silolaw01_SixReads.j2 k x1 x2 x8 (decide (x8 < 300)) x164000) else (silolaw01_SixReads.j2 k x1 x2 x8 false x164000)
def silolaw01_SixReads.j2 : Nat → List Int → Int → Int → Bool → ByteArray → Option (Bool)
  | 0, _, _, _, _, _ => none
  | k + 1, x1, x2, x8, x31, x164000 => if x31 = true then (if 0 ≤ x8 then (if x8 < (x1.length : Int) then ((silolaw01_went.f k x164000 (wrap64 (rd x1 x8)) x2).bind fun bt168 => (if bt168.1 = true then (silolaw01_SixReads.l0 k x1 x2 (wrap64 (x8 + 1)) bt168.2) else (some false))) else (none)) else (none)) else ((six_Reader_End.f x164000).bind fun bt170 => ((six_Reader_Rest.f bt170.2).bind fun bt172 => (if ((bt170.1 == 0) == (bt172.1.toList == ([] : List UInt8))) = true then (if bt170.1 = 0 then (some true) else (some (bt170.1 == 5))) else (some false))))
end
def silolaw01_SixReads.f (k : Nat) (a0 : ByteArray) (l1 : List Int) (a2 : Int) : Option (Bool) := (six_Over.f a0).bind fun t162 => ((silolaw01_awake.f).bind fun t164 => (if t164 = true then ((six_Reader_Rest.f t162).bind fun bt165 => (silolaw01_SixReads.j0 k l1 a2 (bt165.1.toList != a0.toList) bt165.2)) else (silolaw01_SixReads.j0 k l1 a2 true t162)))
theorem silolaw01_SixReads.mono_l : ∀ k, (∀ y0 y1 y2 y3, LeO (silolaw01_SixReads.j0 k y0 y1 y2 y3) (silolaw01_SixReads.j0 (k + 1) y0 y1 y2 y3)) ∧ (∀ y0 y1 y2 y3, LeO (silolaw01_SixReads.l0 k y0 y1 y2 y3) (silolaw01_SixReads.l0 (k + 1) y0 y1 y2 y3)) ∧ (∀ y0 y1 y2 y3 y4, LeO (silolaw01_SixReads.j2 k y0 y1 y2 y3 y4) (silolaw01_SixReads.j2 (k + 1) y0 y1 y2 y3 y4))
  | 0 => ⟨fun _ _ _ _ r h => by simp [silolaw01_SixReads.j0] at h, fun _ _ _ _ r h => by simp [silolaw01_SixReads.l0] at h, fun _ _ _ _ _ r h => by simp [silolaw01_SixReads.j2] at h⟩
  | k + 1 => by
    obtain ⟨ih0, ih1, ih2⟩ := silolaw01_SixReads.mono_l k
    refine ⟨?_, ?_, ?_⟩
    · intro y0 y1 y2 y3
      unfold silolaw01_SixReads.j0
      repeat' first
      | (with_reducible exact ih0 _ _ _ _)
      | (with_reducible exact ih1 _ _ _ _)
      | (with_reducible exact ih2 _ _ _ _ _)
      | (with_reducible exact silolaw01_went.mono _ _ _ _)
      | (with_reducible exact LeO.refl _)
      | (with_reducible exact LeO.none _)
      | (with_reducible refine LeO.ite ?_ ?_)
      | (with_reducible refine LeO.bind ?_ (fun _ => ?_))
      | exact ih0 _ _ _ _
      | exact ih1 _ _ _ _
      | exact ih2 _ _ _ _ _
      | exact silolaw01_went.mono _ _ _ _
      | exact LeO.none _
      | refine LeO.ite ?_ ?_
      | refine LeO.bind ?_ (fun _ => ?_)
    · intro y0 y1 y2 y3
      unfold silolaw01_SixReads.l0
      repeat' first
      | (with_reducible exact ih0 _ _ _ _)
      | (with_reducible exact ih1 _ _ _ _)
      | (with_reducible exact ih2 _ _ _ _ _)
      | (with_reducible exact silolaw01_went.mono _ _ _ _)
      | (with_reducible exact LeO.refl _)
      | (with_reducible exact LeO.none _)
      | (with_reducible refine LeO.ite ?_ ?_)
      | (with_reducible refine LeO.bind ?_ (fun _ => ?_))
      | exact ih0 _ _ _ _
      | exact ih1 _ _ _ _
      | exact ih2 _ _ _ _ _
      | exact silolaw01_went.mono _ _ _ _
      | exact LeO.none _
      | refine LeO.ite ?_ ?_
      | refine LeO.bind ?_ (fun _ => ?_)
    · intro y0 y1 y2 y3 y4
      unfold silolaw01_SixReads.j2
      repeat' first
      | (with_reducible exact ih0 _ _ _ _)
      | (with_reducible exact ih1 _ _ _ _)
      | (with_reducible exact ih2 _ _ _ _ _)
      | (with_reducible exact silolaw01_went.mono _ _ _ _)
      | (with_reducible exact LeO.refl _)
      | (with_reducible exact LeO.none _)
      | (with_reducible refine LeO.ite ?_ ?_)
      | (with_reducible refine LeO.bind ?_ (fun _ => ?_))
      | exact ih0 _ _ _ _
      | exact ih1 _ _ _ _
      | exact ih2 _ _ _ _ _
      | exact silolaw01_went.mono _ _ _ _
      | exact LeO.none _
      | refine LeO.ite ?_ ?_
      | refine LeO.bind ?_ (fun _ => ?_)
theorem silolaw01_SixReads.mono : ∀ a0 a1 a2 k, LeO (silolaw01_SixReads.f k a0 a1 a2) (silolaw01_SixReads.f (k + 1) a0 a1 a2) := by
  intro a0 a1 a2 k
  obtain ⟨ih0, ih1, ih2⟩ := silolaw01_SixReads.mono_l k
  unfold silolaw01_SixReads.f
  repeat' first
      | (with_reducible exact ih0 _ _ _ _)
      | (with_reducible exact ih1 _ _ _ _)
      | (with_reducible exact ih2 _ _ _ _ _)
      | (with_reducible exact silolaw01_went.mono _ _ _ _)
      | (with_reducible exact LeO.refl _)
      | (with_reducible exact LeO.none _)
      | (with_reducible refine LeO.ite ?_ ?_)
      | (with_reducible refine LeO.bind ?_ (fun _ => ?_))
      | exact ih0 _ _ _ _
      | exact ih1 _ _ _ _
      | exact ih2 _ _ _ _ _
      | exact silolaw01_went.mono _ _ _ _
      | exact LeO.none _
      | refine LeO.ite ?_ ?_
      | refine LeO.bind ?_ (fun _ => ?_)
set_option maxHeartbeats 8000000 in
set_option maxRecDepth 100000 in
theorem silolaw01_SixReads.calls (k : Nat) (a0 : ByteArray) (A1 : Option Addr) (c1 : Nat) (l1 : List Int) (a2 : Int) (r : Bool) (w : World) (hr1 : Kd.C (Kd.int .u8) w A1 l1.length l1) (hc1 : l1.length ≤ c1) (h : silolaw01_SixReads.f k a0 l1 a2 = some r) :
    Calls Try.prog 3 #[.string a0, .slice A1 l1.length c1, .int .i64 a2] w fun e w' => e = .returned (.bool r) ∧ Below w.heap.size w w' := by
  have HR1 := Aside0.mk hr1
  have HC1 := Aside0.mk hc1
  clear hr1 hc1
  have HB := Aside0.mk (Below.refl w.heap.size w)
  have H : ((six_Over.f a0).bind fun t162 => ((silolaw01_awake.f).bind fun t164 => (if t164 = true then ((six_Reader_Rest.f t162).bind fun bt165 => (silolaw01_SixReads.j0 k l1 a2 (bt165.1.toList != a0.toList) bt165.2)) else (silolaw01_SixReads.j0 k l1 a2 true t162)))) = some r := h
  clear h
  replace H := Option.bind_eq_some_iff.mp H
  obtain ⟨t162, A40, H⟩ := H
  replace H : ((silolaw01_awake.f).bind fun t164 => (if t164 = true then ((six_Reader_Rest.f t162).bind fun bt165 => (silolaw01_SixReads.j0 k l1 a2 (bt165.1.toList != a0.toList) bt165.2)) else (silolaw01_SixReads.j0 k l1 a2 true t162))) = some r := H
  have A4 := Aside0.mk A40
  clear A40
  have HC5 := Aside0.mk H
  clear H
  go_enter Try.func3, Try.ntmps3
  go_upto_region 2 with (first | ((with_reducible refine gate_callee (f := 9) rfl ?_); refine goesL_ (some 11) rfl rfl Try.func9 (by kernel_rfl) rfl #[.string a0] rfl (by (try simp only [List.map_toArray, List.map_cons, List.map_nil]); first | done | rfl | (simp only [List.length_drop, List.length_take]; rfl)) ?_; (with_reducible refine (six_Over.calls a0 t162 w _ ?side1 A4.out).mono ?_); (case side1 => repeat (first | (with_reducible first | exact HB.out | apply below_alloc | apply pw_below_drewN | apply below_drew1) | exact HB.out)); rintro e w6 ⟨g163, rfl, hi, hb, hb2⟩; refine ⟨_, rfl, ?_⟩; have n0_ := Aside0.mk (hb); have n1_ := Aside0.mk (hi); clear HB; have HB := n0_; have HI163 := n1_; clear n0_ n1_; (try clear hb); (try clear hb2); (try clear hk); (try clear hi)))
  (try simp only [Act.put, List.setIfInBounds_toArray, List.set_cons_zero, List.set_cons_succ])
  go_cut [23] (fun v23 wc => ∃ (kq : Nat) (x23_4 : Bool) (x164000_4 : ByteArray), v23 = .bool x23_4 ∧ Aside0 (silolaw01_SixReads.j0 kq l1 a2 x23_4 x164000_4 = some r) ∧ Aside0 (kq ≤ k) ∧ Aside0 (IsS62 w wc g163 x164000_4) ∧ Aside0 (Below w.heap.size w wc))
  case first =>
    have H := HC5.out
    clear HC5
    replace H := Option.bind_eq_some_iff.mp H
    obtain ⟨t164, A70, H⟩ := H
    replace H : (if t164 = true then ((six_Reader_Rest.f t162).bind fun bt165 => (silolaw01_SixReads.j0 k l1 a2 (bt165.1.toList != a0.toList) bt165.2)) else (silolaw01_SixReads.j0 k l1 a2 true t162)) = some r := H
    have A7 := Aside0.mk A70
    clear A70
    by_cases c8 : t164 = true
    · subst c8
      have H1 : ((six_Reader_Rest.f t162).bind fun bt165 => (silolaw01_SixReads.j0 k l1 a2 (bt165.1.toList != a0.toList) bt165.2)) = some r := by rw [if_pos rfl] at H; exact H
      clear H
      have H := H1
      clear H1
      replace H := Option.bind_eq_some_iff.mp H
      obtain ⟨⟨t165, t166⟩, A90, H⟩ := H
      replace H : (silolaw01_SixReads.j0 k l1 a2 (t165.toList != a0.toList) t166) = some r := H
      have A9 := Aside0.mk A90
      clear A90
      have H' := Aside0.mk H
      clear H
      go_wp2_with (first | ((with_reducible refine gate_callee (f := 10) rfl ?_); refine goesL_ (some 12) rfl rfl Try.func10 (by kernel_rfl) rfl #[] rfl (by (try simp only [List.map_toArray, List.map_cons, List.map_nil]); first | done | rfl | (simp only [List.length_drop, List.length_take]; rfl)) ?_; (with_reducible refine (silolaw01_awake.calls  true _ A7.out).mono ?_); rintro e w10 ⟨rfl, hb⟩; refine ⟨_, rfl, ?_⟩; have n0_ := Aside0.mk (IsS62.below (by repeat (first | (with_reducible first | exact HI163.out | apply IsS62.alloc | apply IsS62.drewN | apply IsS62.drew | apply IsS62.set_0) | exact HI163.out)) hb); have n1_ := Aside0.mk (below_step (by repeat (first | (with_reducible first | exact HB.out | apply below_alloc | apply pw_below_drewN | apply below_drew1 | refine below_set ?_ (IsS62.ge HI163.out)) | exact HB.out)) hb); clear HI163; clear HB; have HI163 := n0_; have HB := n1_; clear n0_ n1_; (try clear hb); (try clear hb2); (try clear hk); (try clear hi)) | (go_at_call 11; (with_reducible refine (six_Reader_Rest.calls g163 t162 t165 t166 w _ ?side1 ?side2 A9.out).mono ?_); (case side1 => repeat (first | (with_reducible first | exact HI163.out | apply IsS62.alloc | apply IsS62.drewN | apply IsS62.drew | apply IsS62.set_0) | exact HI163.out)); (case side2 => repeat (first | (with_reducible first | exact HB.out | apply below_alloc | apply pw_below_drewN | apply below_drew1 | refine below_set ?_ (IsS62.ge HI163.out)) | exact HB.out)); rintro e w11 ⟨rfl, hi, hb, hk⟩; have n0_ := Aside0.mk (hb); have n1_ := Aside0.mk (hi); clear HB; clear HI163; have HB := n0_; have HI163 := n1_; clear n0_ n1_; (try clear hb); (try clear hb2); (try clear hk); (try clear hi)))
      go_meet
      case rel => exact ⟨_, ((t165.toList != a0.toList)), (t166), (by first | rfl | (simp; done) | (simp [*]; done)), H', ⟨by first | omega | exact Nat.le_refl _⟩, ⟨by repeat (first | (with_reducible first | exact HI163.out | apply IsS62.alloc | apply IsS62.drewN | apply IsS62.drew | apply IsS62.set_0) | exact HI163.out)⟩, ⟨by repeat (first | (with_reducible first | exact HB.out | apply below_alloc | apply pw_below_drewN | apply below_drew1 | refine below_set ?_ (IsS62.ge HI163.out)) | exact HB.out)⟩⟩
    · replace c8 := Bool.eq_false_iff.mpr c8
      subst c8
      have H1 : (silolaw01_SixReads.j0 k l1 a2 true t162) = some r := by rw [if_neg (show ¬ (false = true) by decide)] at H; exact H
      clear H
      have H := H1
      clear H1
      have H' := Aside0.mk H
      clear H
      go_wp2_with (first | ((with_reducible refine gate_callee (f := 10) rfl ?_); refine goesL_ (some 12) rfl rfl Try.func10 (by kernel_rfl) rfl #[] rfl (by (try simp only [List.map_toArray, List.map_cons, List.map_nil]); first | done | rfl | (simp only [List.length_drop, List.length_take]; rfl)) ?_; (with_reducible refine (silolaw01_awake.calls  false _ A7.out).mono ?_); rintro e w12 ⟨rfl, hb⟩; refine ⟨_, rfl, ?_⟩; have n0_ := Aside0.mk (IsS62.below (by repeat (first | (with_reducible first | exact HI163.out | apply IsS62.alloc | apply IsS62.drewN | apply IsS62.drew | apply IsS62.set_0) | exact HI163.out)) hb); have n1_ := Aside0.mk (below_step (by repeat (first | (with_reducible first | exact HB.out | apply below_alloc | apply pw_below_drewN | apply below_drew1 | refine below_set ?_ (IsS62.ge HI163.out)) | exact HB.out)) hb); clear HI163; clear HB; have HI163 := n0_; have HB := n1_; clear n0_ n1_; (try clear hb); (try clear hb2); (try clear hk); (try clear hi)))
      go_meet
      case rel => exact ⟨_, (true), (t162), (by first | rfl | (simp; done) | (simp [*]; done)), H', ⟨by first | omega | exact Nat.le_refl _⟩, ⟨by repeat (first | (with_reducible first | exact HI163.out | apply IsS62.alloc | apply IsS62.drewN | apply IsS62.drew | apply IsS62.set_0) | exact HI163.out)⟩, ⟨by repeat (first | (with_reducible first | exact HB.out | apply below_alloc | apply pw_below_drewN | apply below_drew1 | refine below_set ?_ (IsS62.ge HI163.out)) | exact HB.out)⟩⟩
  case rest =>
    clear HC5
    try clear c1
    try clear p2
    try clear c3
    try clear c8
    try clear c9
    try clear c10
    obtain ⟨kq, x23_4, x164000_4, rfl, HA, HJ4, HI163, HB⟩ := hcut
    cases kq with
    | zero => exact absurd HA.out (by simp [silolaw01_SixReads.j0])
    | succ kj4 =>
      have H := HA.out
      clear HA
      simp only [silolaw01_SixReads.j0] at H
      by_cases c13 : x23_4 = true
      · subst c13
        have H1 : (some false) = some r := by rw [if_pos rfl] at H; exact H
        clear H
        have H := H1
        clear H1
        obtain rfl := Option.some.inj H
        go_wp2
        go_ret
        exact ⟨by first | rfl | (simp [errW_none, errW_some] <;> rfl) | (simp [*, errW_none, errW_some] <;> rfl), by repeat (first | (with_reducible first | exact HB.out | apply below_alloc | apply pw_below_drewN | apply below_drew1 | refine below_set ?_ (IsS62.ge HI163.out)) | exact HB.out)⟩
      · replace c13 := Bool.eq_false_iff.mpr c13
        subst c13
        have H1 : (silolaw01_SixReads.l0 kj4 l1 a2 0 x164000_4) = some r := by rw [if_neg (show ¬ (false = true) by decide)] at H; exact H
        clear H
        have H := H1
        clear H1
        have H' := Aside0.mk H
        clear H
        go_wp2
        go_loopg [8] kj4 (fun kq v8 w' => ∃ (x8_2 : Int) (x164000_2 : ByteArray), v8 = .int .i64 x8_2 ∧ Aside0 (silolaw01_SixReads.l0 kq l1 a2 x8_2 x164000_2 = some r) ∧ Aside0 (kq ≤ kj4) ∧ Aside0 (IsS62 w w' g163 x164000_2) ∧ Aside0 (Below w.heap.size w w'))
        case atStart => exact ⟨(0), (x164000_4), (by first | rfl | (simp; done) | (simp [*]; done)), H', ⟨Nat.le_refl _⟩, ⟨by repeat (first | (with_reducible first | exact HI163.out | apply IsS62.alloc | apply IsS62.drewN | apply IsS62.drew | apply IsS62.set_0) | exact HI163.out)⟩, ⟨by repeat (first | (with_reducible first | exact HB.out | apply below_alloc | apply pw_below_drewN | apply below_drew1 | refine below_set ?_ (IsS62.ge HI163.out)) | exact HB.out)⟩⟩
        case round =>
          clear H'
          try clear c1
          try clear p2
          try clear c3
          try clear c8
          try clear c9
          try clear c10
          try clear c13
          try clear p2
          obtain ⟨x8_2, x164000_2, rfl, HA, HK2, HI163, HB⟩ := hrel
          cases gk with
          | zero => exact absurd HA.out (by simp [silolaw01_SixReads.l0])
          | succ k2 =>
            have H := HA.out
            clear HA
            simp only [silolaw01_SixReads.l0] at H
            have HC14 := Aside0.mk H
            clear H
            go_upto_region 5 with (fail)
            go_cut [31] (fun v31 wc => ∃ (kq : Nat) (x31_13 : Bool), v31 = .bool x31_13 ∧ Aside0 (silolaw01_SixReads.j2 kq l1 a2 x8_2 x31_13 x164000_2 = some r) ∧ Aside0 (kq ≤ k2) ∧ Aside0 (IsS62 w wc g163 x164000_2) ∧ Aside0 (Below w.heap.size w wc))
            case first =>
              have H := HC14.out
              clear HC14
              by_cases c15 : x8_2 < (l1.length : Int)
              · rw [if_pos c15] at H
                have c15b0 : decide (x8_2 < (l1.length : Int)) = true := decide_eq_true c15
                clear c15
                (first | rw [c15b0] | (simp only [i64_w, i32_w]; rw [c15b0]) | skip)
                have H' := Aside0.mk H
                clear H
                go_wp2
                go_meet
                case rel => exact ⟨_, (decide (x8_2 < 300)), (by first | rfl | (simp; done) | (simp [*]; done)), H', ⟨by have := HJ4.out; have := HK2.out; first | omega | exact Nat.le_refl _⟩, ⟨by repeat (first | (with_reducible first | exact HI163.out | apply IsS62.alloc | apply IsS62.drewN | apply IsS62.drew | apply IsS62.set_0) | exact HI163.out)⟩, ⟨by repeat (first | (with_reducible first | exact HB.out | apply below_alloc | apply pw_below_drewN | apply below_drew1 | refine below_set ?_ (IsS62.ge HI163.out)) | exact HB.out)⟩⟩
              · rw [if_neg c15] at H
                have c15b0 : decide (x8_2 < (l1.length : Int)) = false := decide_eq_false c15
                clear c15
                (first | rw [c15b0] | (simp only [i64_w, i32_w]; rw [c15b0]) | skip)
                have H' := Aside0.mk H
                clear H
                go_wp2
                go_meet
                case rel => exact ⟨_, (false), (by first | rfl | (simp; done) | (simp [*]; done)), H', ⟨by have := HJ4.out; have := HK2.out; first | omega | exact Nat.le_refl _⟩, ⟨by repeat (first | (with_reducible first | exact HI163.out | apply IsS62.alloc | apply IsS62.drewN | apply IsS62.drew | apply IsS62.set_0) | exact HI163.out)⟩, ⟨by repeat (first | (with_reducible first | exact HB.out | apply below_alloc | apply pw_below_drewN | apply below_drew1 | refine below_set ?_ (IsS62.ge HI163.out)) | exact HB.out)⟩⟩
            case rest =>
              clear HC14
              try clear c1
              try clear p2
              try clear c3
              try clear c8
              try clear c9
              try clear c10
              try clear c13
              try clear c15
              try clear c15b0
              try clear p2
              obtain ⟨kq, x31_13, rfl, HA, HJ13, HI163, HB⟩ := hcut
              cases kq with
              | zero => exact absurd HA.out (by simp [silolaw01_SixReads.j2])
              | succ kj13 =>
                have H := HA.out
                clear HA
                simp only [silolaw01_SixReads.j2] at H
                by_cases c16 : x31_13 = true
                · subst c16
                  have H1 : (if 0 ≤ x8_2 then (if x8_2 < (l1.length : Int) then ((silolaw01_went.f kj13 x164000_2 (wrap64 (rd l1 x8_2)) a2).bind fun bt168 => (if bt168.1 = true then (silolaw01_SixReads.l0 kj13 l1 a2 (wrap64 (x8_2 + 1)) bt168.2) else (some false))) else (none)) else (none)) = some r := by rw [if_pos rfl] at H; exact H
                  clear H
                  have H := H1
                  clear H1
                  by_cases c17 : 0 ≤ x8_2
                  · rw [if_pos c17] at H
                    have c17b0 : decide (0 ≤ x8_2) = true := decide_eq_true c17
                    clear c17
                    by_cases c18 : x8_2 < (l1.length : Int)
                    · rw [if_pos c18] at H
                      have c18b0 : decide (x8_2 < (l1.length : Int)) = true := decide_eq_true c18
                      clear c18
                      replace H := Option.bind_eq_some_iff.mp H
                      obtain ⟨⟨t168, t169⟩, A190, H⟩ := H
                      replace H : (if t168 = true then (silolaw01_SixReads.l0 kj13 l1 a2 (wrap64 (x8_2 + 1)) t169) else (some false)) = some r := H
                      have A19 := Aside0.mk A190
                      clear A190
                      by_cases c20 : t168 = true
                      · subst c20
                        have H1 : (silolaw01_SixReads.l0 kj13 l1 a2 (wrap64 (x8_2 + 1)) t169) = some r := by rw [if_pos rfl] at H; exact H
                        clear H
                        have H := H1
                        clear H1
                        have H' := Aside0.mk H
                        clear H
                        have p167 : 0 ≤ (x8_2 : Int) := of_decide_eq_true (by first | (with_reducible assumption) | assumption)
                        have q167 : x8_2 < (l1.length : Int) := of_decide_eq_true (by first | (with_reducible assumption) | assumption)
                        obtain ⟨ad167, e167, hx167_0⟩ := Kd.at_int HR1.out x8_2 p167 q167
                        cases e167
                        replace hx167_0 := (HB.out.cell (World.block_lt_of_cell? w _ hx167_0)).trans hx167_0
                        replace p167 := eq_true p167
                        replace q167 := eq_true q167
                        go_wp2_with (first | ((with_reducible refine gate_callee (f := 12) rfl ?_); refine goesL_ (some 41) rfl rfl Try.func12 (by kernel_rfl) rfl #[.pointer (some ⟨g163, 0, none⟩), .int .i64 (wrap64 (rd l1 x8_2)), .int .i64 a2] rfl (by (try simp only [List.map_toArray, List.map_cons, List.map_nil]); first | done | rfl | (simp only [List.length_drop, List.length_take]; rfl)) ?_; (with_reducible refine (silolaw01_went.calls kj13 g163 x164000_2 (wrap64 (rd l1 x8_2)) a2 true t169 w _ ?side1 ?side2 A19.out).mono ?_); (case side1 => repeat (first | (with_reducible first | exact HI163.out | apply IsS62.alloc | apply IsS62.drewN | apply IsS62.drew | apply IsS62.set_0) | exact HI163.out)); (case side2 => repeat (first | (with_reducible first | exact HB.out | apply below_alloc | apply pw_below_drewN | apply below_drew1 | refine below_set ?_ (IsS62.ge HI163.out)) | exact HB.out)); rintro e w21 ⟨rfl, hi, hb, hk⟩; refine ⟨_, rfl, ?_⟩; have n0_ := Aside0.mk (hb); have n1_ := Aside0.mk (hi); clear HB; clear HI163; have HB := n0_; have HI163 := n1_; clear n0_ n1_; (try clear hb); (try clear hb2); (try clear hk); (try clear hi)))
                        go_roundg kj13
                        case measure => have := HJ4.out; have := HK2.out; have := HJ13.out; omega
                        case rel => exact ⟨(wrap64 (x8_2 + 1)), (t169), (by first | rfl | (simp; done) | (simp [*]; done)), H', ⟨by have := HJ4.out; have := HK2.out; have := HJ13.out; omega⟩, ⟨by repeat (first | (with_reducible first | exact HI163.out | apply IsS62.alloc | apply IsS62.drewN | apply IsS62.drew | apply IsS62.set_0) | exact HI163.out)⟩, ⟨by repeat (first | (with_reducible first | exact HB.out | apply below_alloc | apply pw_below_drewN | apply below_drew1 | refine below_set ?_ (IsS62.ge HI163.out)) | exact HB.out)⟩⟩
                      · replace c20 := Bool.eq_false_iff.mpr c20
                        subst c20
                        have H1 : (some false) = some r := by rw [if_neg (show ¬ (false = true) by decide)] at H; exact H
                        clear H
                        have H := H1
                        clear H1
                        obtain rfl := Option.some.inj H
                        have p167 : 0 ≤ (x8_2 : Int) := of_decide_eq_true (by first | (with_reducible assumption) | assumption)
                        have q167 : x8_2 < (l1.length : Int) := of_decide_eq_true (by first | (with_reducible assumption) | assumption)
                        obtain ⟨ad167, e167, hx167_0⟩ := Kd.at_int HR1.out x8_2 p167 q167
                        cases e167
                        replace hx167_0 := (HB.out.cell (World.block_lt_of_cell? w _ hx167_0)).trans hx167_0
                        replace p167 := eq_true p167
                        replace q167 := eq_true q167
                        go_wp2_with (first | ((with_reducible refine gate_callee (f := 12) rfl ?_); refine goesL_ (some 41) rfl rfl Try.func12 (by kernel_rfl) rfl #[.pointer (some ⟨g163, 0, none⟩), .int .i64 (wrap64 (rd l1 x8_2)), .int .i64 a2] rfl (by (try simp only [List.map_toArray, List.map_cons, List.map_nil]); first | done | rfl | (simp only [List.length_drop, List.length_take]; rfl)) ?_; (with_reducible refine (silolaw01_went.calls kj13 g163 x164000_2 (wrap64 (rd l1 x8_2)) a2 false t169 w _ ?side1 ?side2 A19.out).mono ?_); (case side1 => repeat (first | (with_reducible first | exact HI163.out | apply IsS62.alloc | apply IsS62.drewN | apply IsS62.drew | apply IsS62.set_0) | exact HI163.out)); (case side2 => repeat (first | (with_reducible first | exact HB.out | apply below_alloc | apply pw_below_drewN | apply below_drew1 | refine below_set ?_ (IsS62.ge HI163.out)) | exact HB.out)); rintro e w22 ⟨rfl, hi, hb, hk⟩; refine ⟨_, rfl, ?_⟩; have n0_ := Aside0.mk (hb); have n1_ := Aside0.mk (hi); clear HB; clear HI163; have HB := n0_; have HI163 := n1_; clear n0_ n1_; (try clear hb); (try clear hb2); (try clear hk); (try clear hi)))
                        go_ret
                        exact ⟨by first | rfl | (simp [errW_none, errW_some] <;> rfl) | (simp [*, errW_none, errW_some] <;> rfl), by repeat (first | (with_reducible first | exact HB.out | apply below_alloc | apply pw_below_drewN | apply below_drew1 | refine below_set ?_ (IsS62.ge HI163.out)) | exact HB.out)⟩
                    · rw [if_neg c18] at H
                      exact absurd H (by simp)
                  · rw [if_neg c17] at H
                    exact absurd H (by simp)
                · replace c16 := Bool.eq_false_iff.mpr c16
                  subst c16
                  have H1 : ((six_Reader_End.f x164000_2).bind fun bt170 => ((six_Reader_Rest.f bt170.2).bind fun bt172 => (if ((bt170.1 == 0) == (bt172.1.toList == ([] : List UInt8))) = true then (if bt170.1 = 0 then (some true) else (some (bt170.1 == 5))) else (some false)))) = some r := by rw [if_neg (show ¬ (false = true) by decide)] at H; exact H
                  clear H
                  have H := H1
                  clear H1
                  replace H := Option.bind_eq_some_iff.mp H
                  obtain ⟨⟨t170, t171⟩, A230, H⟩ := H
                  replace H : ((six_Reader_Rest.f t171).bind fun bt172 => (if ((t170 == 0) == (bt172.1.toList == ([] : List UInt8))) = true then (if t170 = 0 then (some true) else (some (t170 == 5))) else (some false))) = some r := H
                  have A23 := Aside0.mk A230
                  clear A230
                  replace H := Option.bind_eq_some_iff.mp H
                  obtain ⟨⟨t172, t173⟩, A240, H⟩ := H
                  replace H : (if ((t170 == 0) == (t172.toList == ([] : List UInt8))) = true then (if t170 = 0 then (some true) else (some (t170 == 5))) else (some false)) = some r := H
                  have A24 := Aside0.mk A240
                  clear A240
                  by_cases c25 : ((t170 == 0) == (t172.toList == ([] : List UInt8))) = true
                  · rw [if_pos c25] at H
                    have c25b0 : ((t170 == 0) == (t172.toList == ([] : List UInt8))) = true := c25
                    (try (have c25b1 : ((t170 == 0) == t172.toList.isEmpty) = true := by simpa using c25))
                    (try (have c25b2 : decide ((t170 == 0) = (t172.toList == ([] : List UInt8))) = true := by simpa using c25))
                    (try (have c25b3 : ((t170 == 0) == (t172.toList == ([] : List UInt8))) = true := by simpa using c25))
                    clear c25
                    by_cases c26 : t170 = 0
                    · rw [if_pos c26] at H
                      have c26b0 : (t170 == 0) = true := beq_iff_eq.mpr c26
                      have c26b1 : (t170 != 0) = false := bne_eq_false_iff_eq.mpr c26
                      have c26z : t172.toList = [] := by simpa [c26b0] using c25b0
                      clear c26
                      obtain rfl := Option.some.inj H
                      go_wp2_with (first | ((with_reducible refine gate_callee (f := 13) rfl ?_); refine goesL_ (some 44) rfl rfl Try.func13 (by kernel_rfl) rfl #[.pointer (some ⟨g163, 0, none⟩)] rfl (by (try simp only [List.map_toArray, List.map_cons, List.map_nil]); first | done | rfl | (simp only [List.length_drop, List.length_take]; rfl)) ?_; (with_reducible refine (six_Reader_End.calls g163 x164000_2 t170 t171 w _ ?side1 ?side2 A23.out).mono ?_); (case side1 => repeat (first | (with_reducible first | exact HI163.out | apply IsS62.alloc | apply IsS62.drewN | apply IsS62.drew | apply IsS62.set_0) | exact HI163.out)); (case side2 => repeat (first | (with_reducible first | exact HB.out | apply below_alloc | apply pw_below_drewN | apply below_drew1 | refine below_set ?_ (IsS62.ge HI163.out)) | exact HB.out)); rintro e w27 ⟨rfl, hi, hb, hk⟩; refine ⟨_, rfl, ?_⟩; have n0_ := Aside0.mk (hb); have n1_ := Aside0.mk (hi); clear HB; clear HI163; have HB := n0_; have HI163 := n1_; clear n0_ n1_; (try clear hb); (try clear hb2); (try clear hk); (try clear hi)) | ((with_reducible refine gate_callee (f := 11) rfl ?_); refine goesL_ (some 48) rfl rfl Try.func11 (by kernel_rfl) rfl #[.pointer (some ⟨g163, 0, none⟩)] rfl (by (try simp only [List.map_toArray, List.map_cons, List.map_nil]); first | done | rfl | (simp only [List.length_drop, List.length_take]; rfl)) ?_; (with_reducible refine (six_Reader_Rest.calls g163 t171 t172 t173 w _ ?side1 ?side2 A24.out).mono ?_); (case side1 => repeat (first | (with_reducible first | exact HI163.out | apply IsS62.alloc | apply IsS62.drewN | apply IsS62.drew | apply IsS62.set_0) | exact HI163.out)); (case side2 => repeat (first | (with_reducible first | exact HB.out | apply below_alloc | apply pw_below_drewN | apply below_drew1 | refine below_set ?_ (IsS62.ge HI163.out)) | exact HB.out)); rintro e w28 ⟨rfl, hi, hb, hk⟩; refine ⟨_, rfl, ?_⟩; have n0_ := Aside0.mk (hb); have n1_ := Aside0.mk (hi); clear HB; clear HI163; have HB := n0_; have HI163 := n1_; clear n0_ n1_; (try clear hb); (try clear hb2); (try clear hk); (try clear hi)))
                      go_ret
                      exact ⟨by first | rfl | (simp [errW_none, errW_some] <;> rfl) | (simp [*, errW_none, errW_some] <;> rfl), by repeat (first | (with_reducible first | exact HB.out | apply below_alloc | apply pw_below_drewN | apply below_drew1 | refine below_set ?_ (IsS62.ge HI163.out)) | exact HB.out)⟩
                    · rw [if_neg c26] at H
                      have c26b0 : (t170 == 0) = false := beq_eq_false_iff_ne.mpr c26
                      have c26b1 : (t170 != 0) = true := bne_iff_ne.mpr c26
                      have c26z : ¬ t172.toList = [] := by simpa [c26b0] using c25b0
                      obtain rfl := Option.some.inj H
                      go_wp2_with (first | ((with_reducible refine gate_callee (f := 13) rfl ?_); refine goesL_ (some 44) rfl rfl Try.func13 (by kernel_rfl) rfl #[.pointer (some ⟨g163, 0, none⟩)] rfl (by (try simp only [List.map_toArray, List.map_cons, List.map_nil]); first | done | rfl | (simp only [List.length_drop, List.length_take]; rfl)) ?_; (with_reducible refine (six_Reader_End.calls g163 x164000_2 t170 t171 w _ ?side1 ?side2 A23.out).mono ?_); (case side1 => repeat (first | (with_reducible first | exact HI163.out | apply IsS62.alloc | apply IsS62.drewN | apply IsS62.drew | apply IsS62.set_0) | exact HI163.out)); (case side2 => repeat (first | (with_reducible first | exact HB.out | apply below_alloc | apply pw_below_drewN | apply below_drew1 | refine below_set ?_ (IsS62.ge HI163.out)) | exact HB.out)); rintro e w29 ⟨rfl, hi, hb, hk⟩; refine ⟨_, rfl, ?_⟩; have n0_ := Aside0.mk (hb); have n1_ := Aside0.mk (hi); clear HB; clear HI163; have HB := n0_; have HI163 := n1_; clear n0_ n1_; (try clear hb); (try clear hb2); (try clear hk); (try clear hi)) | ((with_reducible refine gate_callee (f := 11) rfl ?_); refine goesL_ (some 48) rfl rfl Try.func11 (by kernel_rfl) rfl #[.pointer (some ⟨g163, 0, none⟩)] rfl (by (try simp only [List.map_toArray, List.map_cons, List.map_nil]); first | done | rfl | (simp only [List.length_drop, List.length_take]; rfl)) ?_; (with_reducible refine (six_Reader_Rest.calls g163 t171 t172 t173 w _ ?side1 ?side2 A24.out).mono ?_); (case side1 => repeat (first | (with_reducible first | exact HI163.out | apply IsS62.alloc | apply IsS62.drewN | apply IsS62.drew | apply IsS62.set_0) | exact HI163.out)); (case side2 => repeat (first | (with_reducible first | exact HB.out | apply below_alloc | apply pw_below_drewN | apply below_drew1 | refine below_set ?_ (IsS62.ge HI163.out)) | exact HB.out)); rintro e w30 ⟨rfl, hi, hb, hk⟩; refine ⟨_, rfl, ?_⟩; have n0_ := Aside0.mk (hb); have n1_ := Aside0.mk (hi); clear HB; clear HI163; have HB := n0_; have HI163 := n1_; clear n0_ n1_; (try clear hb); (try clear hb2); (try clear hk); (try clear hi)))
                      go_ret
                      exact ⟨by first | rfl | (simp [errW_none, errW_some] <;> rfl) | (simp [*, errW_none, errW_some] <;> rfl), by repeat (first | (with_reducible first | exact HB.out | apply below_alloc | apply pw_below_drewN | apply below_drew1 | refine below_set ?_ (IsS62.ge HI163.out)) | exact HB.out)⟩
                  · rw [if_neg c25] at H
                    have c25b0 : ((t170 == 0) == (t172.toList == ([] : List UInt8))) = false := by simpa using c25
                    (try (have c25b1 : ((t170 == 0) == t172.toList.isEmpty) = false := by simpa using c25))
                    (try (have c25b2 : decide ((t170 == 0) = (t172.toList == ([] : List UInt8))) = false := by simpa using c25))
                    (try (have c25b3 : ((t170 == 0) == (t172.toList == ([] : List UInt8))) = false := by simpa using c25))
                    (try (have c25b4 : ¬ ((t170 == 0) = (t172.toList == ([] : List UInt8))) := by simpa using c25))
                    clear c25
                    obtain rfl := Option.some.inj H
                    go_wp2_with (first | ((with_reducible refine gate_callee (f := 13) rfl ?_); refine goesL_ (some 44) rfl rfl Try.func13 (by kernel_rfl) rfl #[.pointer (some ⟨g163, 0, none⟩)] rfl (by (try simp only [List.map_toArray, List.map_cons, List.map_nil]); first | done | rfl | (simp only [List.length_drop, List.length_take]; rfl)) ?_; (with_reducible refine (six_Reader_End.calls g163 x164000_2 t170 t171 w _ ?side1 ?side2 A23.out).mono ?_); (case side1 => repeat (first | (with_reducible first | exact HI163.out | apply IsS62.alloc | apply IsS62.drewN | apply IsS62.drew | apply IsS62.set_0) | exact HI163.out)); (case side2 => repeat (first | (with_reducible first | exact HB.out | apply below_alloc | apply pw_below_drewN | apply below_drew1 | refine below_set ?_ (IsS62.ge HI163.out)) | exact HB.out)); rintro e w31 ⟨rfl, hi, hb, hk⟩; refine ⟨_, rfl, ?_⟩; have n0_ := Aside0.mk (hb); have n1_ := Aside0.mk (hi); clear HB; clear HI163; have HB := n0_; have HI163 := n1_; clear n0_ n1_; (try clear hb); (try clear hb2); (try clear hk); (try clear hi)) | ((with_reducible refine gate_callee (f := 11) rfl ?_); refine goesL_ (some 48) rfl rfl Try.func11 (by kernel_rfl) rfl #[.pointer (some ⟨g163, 0, none⟩)] rfl (by (try simp only [List.map_toArray, List.map_cons, List.map_nil]); first | done | rfl | (simp only [List.length_drop, List.length_take]; rfl)) ?_; (with_reducible refine (six_Reader_Rest.calls g163 t171 t172 t173 w _ ?side1 ?side2 A24.out).mono ?_); (case side1 => repeat (first | (with_reducible first | exact HI163.out | apply IsS62.alloc | apply IsS62.drewN | apply IsS62.drew | apply IsS62.set_0) | exact HI163.out)); (case side2 => repeat (first | (with_reducible first | exact HB.out | apply below_alloc | apply pw_below_drewN | apply below_drew1 | refine below_set ?_ (IsS62.ge HI163.out)) | exact HB.out)); rintro e w32 ⟨rfl, hi, hb, hk⟩; refine ⟨_, rfl, ?_⟩; have n0_ := Aside0.mk (hb); have n1_ := Aside0.mk (hi); clear HB; clear HI163; have HB := n0_; have HI163 := n1_; clear n0_ n1_; (try clear hb); (try clear hb2); (try clear hk); (try clear hi)))
                    go_ret
                    exact ⟨by first | rfl | (simp [errW_none, errW_some] <;> rfl) | (simp [*, errW_none, errW_some] <;> rfl), by repeat (first | (with_reducible first | exact HB.out | apply below_alloc | apply pw_below_drewN | apply below_drew1 | refine below_set ?_ (IsS62.ge HI163.out)) | exact HB.out)⟩

/-- THE ONE PURE STATEMENT of silolaw01_SixReads: yours. -/
def silolaw01_SixReads.Pure : Prop := ∀ (a0 : ByteArray) (l1 : List Int) (a2 : Int), a0.size ≤ 140737488351232 → l1.length ≤ maxLen → l1.length * 1 ≤ 140737488351232 → (∀ x ∈ l1, (Lit.int .u8 x).wf = true) → (Lit.int .i64 a2).wf = true → ∃ k, silolaw01_SixReads.f k a0 l1 a2 = some true
theorem silolaw01_SixReads.walk (P : silolaw01_SixReads.Pure) (a0 : ByteArray) (a1 : Option Addr) (len1 cap1 : Nat) (z1 : List Int) (a2 : Int) (w : World) (w0 : a0.size ≤ 140737488351232) (w1 : (a1 = none ∧ len1 = 0 ∧ cap1 = 0 ∧ z1 = []) ∨ ∃ x, a1 = some x ∧ len1 ≤ cap1 ∧ cap1 ≤ maxLen ∧ z1.length = cap1 ∧ (∀ i, i < z1.length → w.cell? (x.add i) = some (.int .u8 (z1.getD i 0))) ∧ ∀ n ∈ z1, (Lit.int .u8 n).wf = true) (y1 : len1 * 1 ≤ 140737488351232) (w2 : (Lit.int .i64 a2).wf = true) :
    Calls Try.prog 3 #[.string a0, .slice a1 len1 cap1, .int .i64 a2] w fun e w' => e = .returned (.bool true) ∧ Below w.heap.size w w' := by
  obtain ⟨l1, rfl, hr1, hm1, hw1, hc1⟩ := ReadsInt.ofRowC w1
  obtain ⟨k, h⟩ := P a0 l1 a2 w0 hm1 y1 hw1 w2
  refine (silolaw01_SixReads.calls k a0 _ _ l1 a2 true w (Kd.C_of_reads (d := (0 : Int)) (h1 := fun _ => rfl) hr1) hc1 h).mono ?_
  rintro e w' ⟨rfl, hd⟩
  exact ⟨rfl, hd⟩

end Go.Proofs.Ytfbmgiflckdalaa.PSixReads
