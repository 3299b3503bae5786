/- Written by this session's program (wip/tools/myprint.py) out of the translation: functions, and what a call of each comes to. -/
import Derived.Test.YtlkljeghhahedaaPWalFramesx0
import Derived.Test.YtlkljeghhahedaaPWalFramesx1
namespace Go.Proofs.Ytlkljeghhahedaa.PWalFrames
open Go.RowKit Go.Proofs.YtlkljeghhahedaaW.PrintWords Go.Proofs.YtlkljeghhahedaaW.PrintLast Go.Proofs.YtlkljeghhahedaaW.PrintMore Go.Proofs.Ytlkljeghhahedaa.PBase
attribute [local go_sem] max2_int min2_int max_two min_two max_three min_three max_four min_four   -- for this text's walks alone
set_option linter.unusedVariables false
set_option linter.unusedSimpArgs false

/-! ### wal_Split: function 12 -/
mutual
def wal_Split.l0 : Nat → ByteArray → List ByteArray → ByteArray → Option (List ByteArray × Int)
  | 0, _, _, _ => none
  | k + 1, x0, x4, x130000 => (six_Reader_Rest.f x130000).bind fun bt130 => ((six_Reader_Text.f k bt130.2).bind fun bt132 => (if bt132.2.1 = 0 then ((six_Reader_Raw.f bt132.2.2 4).bind fun bt135 => (wal_Split.j1 k x0 x4 bt130.1 bt132.1 bt135.2.1 bt135.2.2)) else (wal_Split.j1 k x0 x4 bt130.1 bt132.1 bt132.2.1 bt132.2.2)))
def wal_Split.j1 : Nat → ByteArray → List ByteArray → ByteArray → ByteArray → Int → ByteArray → Option (List ByteArray × Int)
  | 0, _, _, _, _, _, _ => none
  | k + 1, x0, x4, x6, x7, x8, x130000 => if x8 = 0 then (if (x7.size : Int) > 1048576 then (wal_Split.j2 k x0 x4 x6 x7 true x130000) else ((wal_Frame.f k x7).bind fun t138 => ((six_Reader_Rest.f x130000).bind fun bt139 => (if 0 ≤ (wrap64 ((x6.size : Int) - (bt139.1.size : Int))) then (if (wrap64 ((x6.size : Int) - (bt139.1.size : Int))) ≤ (x6.size : Int) then (wal_Split.j2 k x0 x4 x6 x7 (t138.toList != (x6.extract 0 ((wrap64 ((x6.size : Int) - (bt139.1.size : Int))) : Int).toNat).toList) bt139.2) else (none)) else (none))))) else (wal_Split.j2 k x0 x4 x6 x7 true x130000)
def wal_Split.j2 : Nat → ByteArray → List ByteArray → ByteArray → ByteArray → Bool → ByteArray → Option (List ByteArray × Int)
  | 0, _, _, _, _, _, _ => none
  | k + 1, x0, x4, x6, x7, x44, x130000 => if x44 = true then (some (x4, wrap64 ((x0.size : Int) - (x6.size : Int)))) else (if x4.length < 8796093022208 then (wal_Split.l0 k x0 (x4 ++ [x7]) x130000) else (none))
end
def wal_Split.f (k : Nat) (a0 : ByteArray) : Option (List ByteArray × Int) := (six_Over.f a0).bind fun t128 => (wal_Split.l0 k a0 ([] : List ByteArray) t128)
theorem wal_Split.mono_l : ∀ k, (∀ y0 y1 y2, LeO (wal_Split.l0 k y0 y1 y2) (wal_Split.l0 (k + 1) y0 y1 y2)) ∧ (∀ y0 y1 y2 y3 y4 y5, LeO (wal_Split.j1 k y0 y1 y2 y3 y4 y5) (wal_Split.j1 (k + 1) y0 y1 y2 y3 y4 y5)) ∧ (∀ y0 y1 y2 y3 y4 y5, LeO (wal_Split.j2 k y0 y1 y2 y3 y4 y5) (wal_Split.j2 (k + 1) y0 y1 y2 y3 y4 y5))
  | 0 => ⟨fun _ _ _ r h => by simp [wal_Split.l0] at h, fun _ _ _ _ _ _ r h => by simp [wal_Split.j1] at h, fun _ _ _ _ _ _ r h => by simp [wal_Split.j2] at h⟩
  | k + 1 => by
    obtain ⟨ih0, ih1, ih2⟩ := wal_Split.mono_l k
    refine ⟨?_, ?_, ?_⟩
    · intro y0 y1 y2
      unfold wal_Split.l0
      repeat' first
      | (with_reducible exact ih0 _ _ _)
      | (with_reducible exact ih1 _ _ _ _ _ _)
      | (with_reducible exact ih2 _ _ _ _ _ _)
      | (with_reducible exact six_Reader_Text.mono _ _)
      | (with_reducible exact wal_Frame.mono _ _)
      | (with_reducible exact LeO.refl _)
      | (with_reducible exact LeO.none _)
      | (with_reducible refine LeO.ite ?_ ?_)
      | (with_reducible refine LeO.bind ?_ (fun _ => ?_))
      | exact ih0 _ _ _
      | exact ih1 _ _ _ _ _ _
      | exact ih2 _ _ _ _ _ _
      | exact six_Reader_Text.mono _ _
      | exact wal_Frame.mono _ _
      | exact LeO.none _
      | refine LeO.ite ?_ ?_
      | refine LeO.bind ?_ (fun _ => ?_)
    · intro y0 y1 y2 y3 y4 y5
      unfold wal_Split.j1
      repeat' first
      | (with_reducible exact ih0 _ _ _)
      | (with_reducible exact ih1 _ _ _ _ _ _)
      | (with_reducible exact ih2 _ _ _ _ _ _)
      | (with_reducible exact six_Reader_Text.mono _ _)
      | (with_reducible exact wal_Frame.mono _ _)
      | (with_reducible exact LeO.refl _)
      | (with_reducible exact LeO.none _)
      | (with_reducible refine LeO.ite ?_ ?_)
      | (with_reducible refine LeO.bind ?_ (fun _ => ?_))
      | exact ih0 _ _ _
      | exact ih1 _ _ _ _ _ _
      | exact ih2 _ _ _ _ _ _
      | exact six_Reader_Text.mono _ _
      | exact wal_Frame.mono _ _
      | exact LeO.none _
      | refine LeO.ite ?_ ?_
      | refine LeO.bind ?_ (fun _ => ?_)
    · intro y0 y1 y2 y3 y4 y5
      unfold wal_Split.j2
      repeat' first
      | (with_reducible exact ih0 _ _ _)
      | (with_reducible exact ih1 _ _ _ _ _ _)
      | (with_reducible exact ih2 _ _ _ _ _ _)
      | (with_reducible exact six_Reader_Text.mono _ _)
      | (with_reducible exact wal_Frame.mono _ _)
      | (with_reducible exact LeO.refl _)
      | (with_reducible exact LeO.none _)
      | (with_reducible refine LeO.ite ?_ ?_)
      | (with_reducible refine LeO.bind ?_ (fun _ => ?_))
      | exact ih0 _ _ _
      | exact ih1 _ _ _ _ _ _
      | exact ih2 _ _ _ _ _ _
      | exact six_Reader_Text.mono _ _
      | exact wal_Frame.mono _ _
      | exact LeO.none _
      | refine LeO.ite ?_ ?_
      | refine LeO.bind ?_ (fun _ => ?_)
theorem wal_Split.mono : ∀ a0 k, LeO (wal_Split.f k a0) (wal_Split.f (k + 1) a0) := by
  intro a0 k
  obtain ⟨ih0, ih1, ih2⟩ := wal_Split.mono_l k
  unfold wal_Split.f
  repeat' first
      | (with_reducible exact ih0 _ _ _)
      | (with_reducible exact ih1 _ _ _ _ _ _)
      | (with_reducible exact ih2 _ _ _ _ _ _)
      | (with_reducible exact six_Reader_Text.mono _ _)
      | (with_reducible exact wal_Frame.mono _ _)
      | (with_reducible exact LeO.refl _)
      | (with_reducible exact LeO.none _)
      | (with_reducible refine LeO.ite ?_ ?_)
      | (with_reducible refine LeO.bind ?_ (fun _ => ?_))
      | exact ih0 _ _ _
      | exact ih1 _ _ _ _ _ _
      | exact ih2 _ _ _ _ _ _
      | exact six_Reader_Text.mono _ _
      | exact wal_Frame.mono _ _
      | exact LeO.none _
      | refine LeO.ite ?_ ?_
      | refine LeO.bind ?_ (fun _ => ?_)
set_option maxHeartbeats 8000000 in
set_option maxRecDepth 100000 in
theorem wal_Split.calls (k : Nat) (a0 : ByteArray) (r1 : List ByteArray) (r2 : Int) (w : World) (h : wal_Split.f k a0 = some (r1, r2)) :
    Calls Try.prog 12 #[.string a0] w fun e w' => ∃ v0_ : Value, e = .returned (.tuple #[v0_, .int .i64 r2]) ∧ Kd.R Kd.string 9 w' w.heap.size (fun _ => True) v0_ r1 ∧ Below w.heap.size w w' := by
  have HB := Aside0.mk (Below.refl w.heap.size w)
  have H : ((six_Over.f a0).bind fun t128 => (wal_Split.l0 k a0 ([] : List ByteArray) t128)) = some (r1, r2) := h
  clear h
  replace H := Option.bind_eq_some_iff.mp H
  obtain ⟨t128, A20, H⟩ := H
  replace H : (wal_Split.l0 k a0 ([] : List ByteArray) t128) = some (r1, r2) := H
  have A2 := Aside0.mk A20
  clear A20
  have H' := Aside0.mk H
  clear H
  go_enter Try.func12, Try.ntmps12
  go_wp2_with (first | ((with_reducible refine gate_callee (f := 37) rfl ?_); refine goesL_ (some 10) rfl rfl Try.func37 (by kernel_rfl) rfl #[.string a0] rfl (by (try simp only [List.map_toArray, List.map_cons, List.map_nil]); first | done | rfl | (simp only [List.length_drop, List.length_take]; rfl)) ?_; (with_reducible refine (six_Over.calls a0 t128 w _ ?side1 A2.out).mono ?_); (case side1 => repeat (first | (with_reducible first | exact HB.out | apply below_alloc | apply pw_below_drewN | apply below_drew1) | exact HB.out)); rintro e w3 ⟨g129, rfl, hi, hb, hb2⟩; refine ⟨_, rfl, ?_⟩; have n0_ := Aside0.mk (hb); have n1_ := Aside0.mk (hi); clear HB; have HB := n0_; have HI129 := n1_; clear n0_ n1_; (try clear hb); (try clear hb2); (try clear hk); (try clear hi)))
  go_loopg [4] k (fun kq v4 w' => ∃ (x4_1 : List ByteArray) (x130000_1 : ByteArray), Aside0 (wal_Split.l0 kq a0 x4_1 x130000_1 = some (r1, r2)) ∧ Aside0 (kq ≤ k) ∧ Aside0 (Kd.R Kd.string 9 w' w.heap.size (fun _ => True) v4 x4_1) ∧ Aside0 (IsS104 w w' g129 x130000_1) ∧ Aside0 (Below w.heap.size w w'))
  case atStart => exact ⟨(([] : List ByteArray)), (t128), H', ⟨Nat.le_refl _⟩, ⟨by first | exact Kd.R_nil _ _ _ _ _ | exact Kd.N_nil _ _ _ _ _ | exact Kd.V_nil _ _ _ _ _ | exact Kd.Q_nil _ _ _ _ _ | exact Kd.S_nil _ _ _ _ _⟩, ⟨by repeat (first | (with_reducible first | exact HI129.out | apply IsS104.alloc | apply IsS104.drewN | apply IsS104.drew | apply IsS104.set_0) | exact HI129.out)⟩, ⟨by repeat (first | (with_reducible first | exact HB.out | apply below_alloc | apply pw_below_drewN | apply below_drew1 | refine below_set ?_ (IsS104.ge HI129.out)) | exact HB.out)⟩⟩
  case round =>
    clear H'
    try clear c1
    try clear p2
    try clear c3
    obtain ⟨x4_1, x130000_1, HA, HK1, HO_4, HI129, HB⟩ := hrel
    cases gk with
    | zero => exact absurd HA.out (by simp [wal_Split.l0])
    | succ k1 =>
      have H := HA.out
      clear HA
      simp only [wal_Split.l0] at H
      replace H := Option.bind_eq_some_iff.mp H
      obtain ⟨⟨t130, t131⟩, A40, H⟩ := H
      replace H : ((six_Reader_Text.f k1 t131).bind fun bt132 => (if bt132.2.1 = 0 then ((six_Reader_Raw.f bt132.2.2 4).bind fun bt135 => (wal_Split.j1 k1 a0 x4_1 t130 bt132.1 bt135.2.1 bt135.2.2)) else (wal_Split.j1 k1 a0 x4_1 t130 bt132.1 bt132.2.1 bt132.2.2))) = some (r1, r2) := H
      have A4 := Aside0.mk A40
      clear A40
      replace H := Option.bind_eq_some_iff.mp H
      obtain ⟨⟨t132, t133, t134⟩, A50, H⟩ := H
      replace H : (if t133 = 0 then ((six_Reader_Raw.f t134 4).bind fun bt135 => (wal_Split.j1 k1 a0 x4_1 t130 t132 bt135.2.1 bt135.2.2)) else (wal_Split.j1 k1 a0 x4_1 t130 t132 t133 t134)) = some (r1, r2) := H
      have A5 := Aside0.mk A50
      clear A50
      have HC6 := Aside0.mk H
      clear H
      go_upto_if 19 with (first | ((with_reducible refine gate_callee (f := 38) rfl ?_); refine goesL_ (some 12) rfl rfl Try.func38 (by kernel_rfl) rfl #[.pointer (some ⟨g129, 0, none⟩)] rfl (by (try simp only [List.map_toArray, List.map_cons, List.map_nil]); first | done | rfl | (simp only [List.length_drop, List.length_take]; rfl)) ?_; (with_reducible refine (six_Reader_Rest.calls g129 x130000_1 t130 t131 w _ ?side1 ?side2 A4.out).mono ?_); (case side1 => repeat (first | (with_reducible first | exact HI129.out | apply IsS104.alloc | apply IsS104.drewN | apply IsS104.drew | apply IsS104.set_0) | exact HI129.out)); (case side2 => repeat (first | (with_reducible first | exact HB.out | apply below_alloc | apply pw_below_drewN | apply below_drew1 | refine below_set ?_ (IsS104.ge HI129.out)) | exact HB.out)); rintro e w7 ⟨rfl, hi, hb, hk⟩; refine ⟨_, rfl, ?_⟩; have n0_ := Aside0.mk (Kd.R_mono (Kd.R_keep (IsS104.apart (show IsS104 w _ g129 x130000_1 from by repeat (first | (with_reducible first | exact HI129.out | apply IsS104.alloc | apply IsS104.drewN | apply IsS104.drew | apply IsS104.set_0) | exact HI129.out)) (by (with_reducible repeat (first | apply Kd.R_alloc | apply Kd.R_drewN | apply Kd.R_drew)); exact HO_4.out) (by decide)) hk (fun _ h => h.2)) (fun _ h => h.1)); have n1_ := Aside0.mk (hb); have n2_ := Aside0.mk (hi); clear HO_4; clear HB; clear HI129; have HO_4 := n0_; have HB := n1_; have HI129 := n2_; clear n0_ n1_ n2_; (try clear hb); (try clear hb2); (try clear hk); (try clear hi)) | ((with_reducible refine gate_callee (f := 39) rfl ?_); refine goesL_ (some 15) rfl rfl Try.func39 (by kernel_rfl) rfl #[.pointer (some ⟨g129, 0, none⟩)] rfl (by (try simp only [List.map_toArray, List.map_cons, List.map_nil]); first | done | rfl | (simp only [List.length_drop, List.length_take]; rfl)) ?_; (with_reducible refine (six_Reader_Text.calls k1 g129 t131 t132 t133 t134 w _ ?side1 ?side2 A5.out).mono ?_); (case side1 => repeat (first | (with_reducible first | exact HI129.out | apply IsS104.alloc | apply IsS104.drewN | apply IsS104.drew | apply IsS104.set_0) | exact HI129.out)); (case side2 => repeat (first | (with_reducible first | exact HB.out | apply below_alloc | apply pw_below_drewN | apply below_drew1 | refine below_set ?_ (IsS104.ge HI129.out)) | exact HB.out)); rintro e w8 ⟨rfl, hi, hb, hk⟩; refine ⟨_, rfl, ?_⟩; have n0_ := Aside0.mk (Kd.R_mono (Kd.R_keep (IsS104.apart (show IsS104 w _ g129 t131 from by repeat (first | (with_reducible first | exact HI129.out | apply IsS104.alloc | apply IsS104.drewN | apply IsS104.drew | apply IsS104.set_0) | exact HI129.out)) (by (with_reducible repeat (first | apply Kd.R_alloc | apply Kd.R_drewN | apply Kd.R_drew)); exact HO_4.out) (by decide)) hk (fun _ h => h.2)) (fun _ h => h.1)); have n1_ := Aside0.mk (hb); have n2_ := Aside0.mk (hi); clear HO_4; clear HB; clear HI129; have HO_4 := n0_; have HB := n1_; have HI129 := n2_; clear n0_ n1_ n2_; (try clear hb); (try clear hb2); (try clear hk); (try clear hi)))
      (try simp only [Act.put, List.setIfInBounds_toArray, List.set_cons_zero, List.set_cons_succ])
      go_cut [8] (fun v8 wc => ∃ (kq : Nat) (x8_5 : Int) (x130000_5 : ByteArray), v8 = .int .i64 x8_5 ∧ Aside0 (wal_Split.j1 kq a0 x4_1 t130 t132 x8_5 x130000_5 = some (r1, r2)) ∧ Aside0 (kq ≤ k1) ∧ Aside0 (Kd.R Kd.string 9 wc w.heap.size (fun _ => True) u4 x4_1) ∧ Aside0 (IsS104 w wc g129 x130000_5) ∧ Aside0 (Below w.heap.size w wc))
      case first =>
        have H := HC6.out
        clear HC6
        by_cases c9 : t133 = 0
        · rw [if_pos c9] at H
          have c9b0 : (t133 == 0) = true := beq_iff_eq.mpr c9
          have c9b1 : (t133 != 0) = false := bne_eq_false_iff_eq.mpr c9
          clear c9
          (first | rw [c9b0] | (simp only [i64_w, i32_w]; rw [c9b0]) | skip)
          replace H := Option.bind_eq_some_iff.mp H
          obtain ⟨⟨t135, t136, t137⟩, A100, H⟩ := H
          replace H : (wal_Split.j1 k1 a0 x4_1 t130 t132 t136 t137) = some (r1, r2) := H
          have A10 := Aside0.mk A100
          clear A100
          have H' := Aside0.mk H
          clear H
          go_wp2_with (first | ((with_reducible refine gate_callee (f := 40) rfl ?_); refine goesL_ (some 22) rfl rfl Try.func40 (by kernel_rfl) rfl #[.pointer (some ⟨g129, 0, none⟩), .int .i64 4] rfl (by (try simp only [List.map_toArray, List.map_cons, List.map_nil]); first | done | rfl | (simp only [List.length_drop, List.length_take]; rfl)) ?_; (with_reducible refine (six_Reader_Raw.calls g129 t134 4 t135 t136 t137 w _ ?side1 ?side2 A10.out).mono ?_); (case side1 => repeat (first | (with_reducible first | exact HI129.out | apply IsS104.alloc | apply IsS104.drewN | apply IsS104.drew | apply IsS104.set_0) | exact HI129.out)); (case side2 => repeat (first | (with_reducible first | exact HB.out | apply below_alloc | apply pw_below_drewN | apply below_drew1 | refine below_set ?_ (IsS104.ge HI129.out)) | exact HB.out)); rintro e w11 ⟨rfl, hi, hb, hk⟩; refine ⟨_, rfl, ?_⟩; have n0_ := Aside0.mk (Kd.R_mono (Kd.R_keep (IsS104.apart (show IsS104 w _ g129 t134 from by repeat (first | (with_reducible first | exact HI129.out | apply IsS104.alloc | apply IsS104.drewN | apply IsS104.drew | apply IsS104.set_0) | exact HI129.out)) (by (with_reducible repeat (first | apply Kd.R_alloc | apply Kd.R_drewN | apply Kd.R_drew)); exact HO_4.out) (by decide)) hk (fun _ h => h.2)) (fun _ h => h.1)); have n1_ := Aside0.mk (hb); have n2_ := Aside0.mk (hi); clear HO_4; clear HB; clear HI129; have HO_4 := n0_; have HB := n1_; have HI129 := n2_; clear n0_ n1_ n2_; (try clear hb); (try clear hb2); (try clear hk); (try clear hi)))
          go_meet
          case rel => exact ⟨_, (t136), (t137), (by first | rfl | (simp; done) | (simp [*]; done)), H', ⟨by have := HK1.out; first | omega | exact Nat.le_refl _⟩, ⟨by (with_reducible repeat (first | apply Kd.R_alloc | apply Kd.R_drewN | apply Kd.R_drew)); exact HO_4.out⟩, ⟨by repeat (first | (with_reducible first | exact HI129.out | apply IsS104.alloc | apply IsS104.drewN | apply IsS104.drew | apply IsS104.set_0) | exact HI129.out)⟩, ⟨by repeat (first | (with_reducible first | exact HB.out | apply below_alloc | apply pw_below_drewN | apply below_drew1 | refine below_set ?_ (IsS104.ge HI129.out)) | exact HB.out)⟩⟩
        · rw [if_neg c9] at H
          have c9b0 : (t133 == 0) = false := beq_eq_false_iff_ne.mpr c9
          have c9b1 : (t133 != 0) = true := bne_iff_ne.mpr c9
          (first | rw [c9b0] | (simp only [i64_w, i32_w]; rw [c9b0]) | skip)
          have H' := Aside0.mk H
          clear H
          go_wp2
          go_meet
          case rel => exact ⟨_, (t133), (t134), (by first | rfl | (simp; done) | (simp [*]; done)), H', ⟨by have := HK1.out; first | omega | exact Nat.le_refl _⟩, ⟨by (with_reducible repeat (first | apply Kd.R_alloc | apply Kd.R_drewN | apply Kd.R_drew)); exact HO_4.out⟩, ⟨by repeat (first | (with_reducible first | exact HI129.out | apply IsS104.alloc | apply IsS104.drewN | apply IsS104.drew | apply IsS104.set_0) | exact HI129.out)⟩, ⟨by repeat (first | (with_reducible first | exact HB.out | apply below_alloc | apply pw_below_drewN | apply below_drew1 | refine below_set ?_ (IsS104.ge HI129.out)) | exact HB.out)⟩⟩
      case rest =>
        clear HC6
        try clear c1
        try clear p2
        try clear c3
        try clear c4
        try clear c9
        try clear c9b0
        try clear c9b1
        try clear p2
        obtain ⟨kq, x8_5, x130000_5, rfl, HA, HJ5, HO_4, HI129, HB⟩ := hcut
        cases kq with
        | zero => exact absurd HA.out (by simp [wal_Split.j1])
        | succ kj5 =>
          have H := HA.out
          clear HA
          simp only [wal_Split.j1] at H
          have HC12 := Aside0.mk H
          clear H
          go_upto_region 7 with (fail)
          go_cut [44] (fun v44 wc => ∃ (kq : Nat) (x44_11 : Bool) (x130000_11 : ByteArray), v44 = .bool x44_11 ∧ Aside0 (wal_Split.j2 kq a0 x4_1 t130 t132 x44_11 x130000_11 = some (r1, r2)) ∧ Aside0 (kq ≤ kj5) ∧ Aside0 (Kd.R Kd.string 9 wc w.heap.size (fun _ => True) u4 x4_1) ∧ Aside0 (IsS104 w wc g129 x130000_11) ∧ Aside0 (Below w.heap.size w wc))
          case first =>
            have H := HC12.out
            clear HC12
            by_cases c13 : x8_5 = 0
            · rw [if_pos c13] at H
              have c13b0 : (x8_5 == 0) = true := beq_iff_eq.mpr c13
              have c13b1 : (x8_5 != 0) = false := bne_eq_false_iff_eq.mpr c13
              clear c13
              (first | rw [c13b0] | (simp only [i64_w, i32_w]; rw [c13b0]) | skip)
              by_cases c14 : (t132.size : Int) > 1048576
              · rw [if_pos c14] at H
                have c14b0 : decide (1048576 < (t132.size : Int)) = true := decide_eq_true c14
                have c14b1 : decide (1048576 < t132.size) = true := decide_eq_true (by omega)
                clear c14
                have H' := Aside0.mk H
                clear H
                go_wp2
                go_meet
                case rel => exact ⟨_, (true), (x130000_5), (by first | rfl | (simp; done) | (simp [*]; done)), H', ⟨by have := HK1.out; have := HJ5.out; first | omega | exact Nat.le_refl _⟩, ⟨by (with_reducible repeat (first | apply Kd.R_alloc | apply Kd.R_drewN | apply Kd.R_drew)); exact HO_4.out⟩, ⟨by repeat (first | (with_reducible first | exact HI129.out | apply IsS104.alloc | apply IsS104.drewN | apply IsS104.drew | apply IsS104.set_0) | exact HI129.out)⟩, ⟨by repeat (first | (with_reducible first | exact HB.out | apply below_alloc | apply pw_below_drewN | apply below_drew1 | refine below_set ?_ (IsS104.ge HI129.out)) | exact HB.out)⟩⟩
              · rw [if_neg c14] at H
                have c14b0 : decide (1048576 < (t132.size : Int)) = false := decide_eq_false c14
                have c14b1 : decide (1048576 < t132.size) = false := decide_eq_false (by omega)
                clear c14
                replace H := Option.bind_eq_some_iff.mp H
                obtain ⟨t138, A150, H⟩ := H
                replace H : ((six_Reader_Rest.f x130000_5).bind fun bt139 => (if 0 ≤ (wrap64 ((t130.size : Int) - (bt139.1.size : Int))) then (if (wrap64 ((t130.size : Int) - (bt139.1.size : Int))) ≤ (t130.size : Int) then (wal_Split.j2 kj5 a0 x4_1 t130 t132 (t138.toList != (t130.extract 0 ((wrap64 ((t130.size : Int) - (bt139.1.size : Int))) : Int).toNat).toList) bt139.2) else (none)) else (none))) = some (r1, r2) := H
                have A15 := Aside0.mk A150
                clear A150
                replace H := Option.bind_eq_some_iff.mp H
                obtain ⟨⟨t139, t140⟩, A160, H⟩ := H
                replace H : (if 0 ≤ (wrap64 ((t130.size : Int) - (t139.size : Int))) then (if (wrap64 ((t130.size : Int) - (t139.size : Int))) ≤ (t130.size : Int) then (wal_Split.j2 kj5 a0 x4_1 t130 t132 (t138.toList != (t130.extract 0 ((wrap64 ((t130.size : Int) - (t139.size : Int))) : Int).toNat).toList) t140) else (none)) else (none)) = some (r1, r2) := H
                have A16 := Aside0.mk A160
                clear A160
                obtain ⟨ji17, hji17⟩ : ∃ j_ : Int, (wrap64 ((t130.size : Int) - (t139.size : Int))) = j_ := ⟨_, rfl⟩
                replace H : (if 0 ≤ (ji17) then (if (ji17) ≤ (t130.size : Int) then (wal_Split.j2 kj5 a0 x4_1 t130 t132 (t138.toList != (t130.extract 0 ((ji17) : Int).toNat).toList) t140) else (none)) else (none)) = some (r1, r2) := by first | (rw [hji17] at H; exact H) | (simp only [hji17] at H ⊢; exact H)
                (try rw [hji17] at A15)
                (try rw [hji17] at A16)
                have hji17w : (IntKind.i64.wrap ((t130.size : Int) - (t139.size : Int))) = ji17 := (i64_w _).trans hji17
                by_cases c18 : 0 ≤ (ji17)
                · rw [if_pos c18] at H
                  have c18b0 := eq_true c18
                  have c18b1 : decide (0 ≤ (ji17)) = true := decide_eq_true c18
                  clear c18
                  by_cases c19 : (ji17) ≤ (t130.size : Int)
                  · rw [if_pos c19] at H
                    have c19b0 := eq_true c19
                    have c19b1 : decide ((ji17) ≤ (t130.size : Int)) = true := decide_eq_true c19
                    clear c19
                    have H' := Aside0.mk H
                    clear H
                    go_wp2_with (first | (go_at_call 11; (with_reducible refine (wal_Frame.calls kj5 t132 t138 _ A15.out).mono ?_); rintro e w20 ⟨rfl, hb⟩; have n0_ := Aside0.mk (Kd.R_below (by (with_reducible repeat (first | apply Kd.R_alloc | apply Kd.R_drewN | apply Kd.R_drew)); exact HO_4.out) hb); have n1_ := Aside0.mk (IsS104.below (by repeat (first | (with_reducible first | exact HI129.out | apply IsS104.alloc | apply IsS104.drewN | apply IsS104.drew | apply IsS104.set_0) | exact HI129.out)) hb); have n2_ := Aside0.mk (below_step (by repeat (first | (with_reducible first | exact HB.out | apply below_alloc | apply pw_below_drewN | apply below_drew1 | refine below_set ?_ (IsS104.ge HI129.out)) | exact HB.out)) hb); clear HO_4; clear HI129; clear HB; have HO_4 := n0_; have HI129 := n1_; have HB := n2_; clear n0_ n1_ n2_; (try clear hb); (try clear hb2); (try clear hk); (try clear hi)) | (go_at_call 38; (with_reducible refine (six_Reader_Rest.calls g129 x130000_5 t139 t140 w _ ?side1 ?side2 A16.out).mono ?_); (case side1 => repeat (first | (with_reducible first | exact HI129.out | apply IsS104.alloc | apply IsS104.drewN | apply IsS104.drew | apply IsS104.set_0) | exact HI129.out)); (case side2 => repeat (first | (with_reducible first | exact HB.out | apply below_alloc | apply pw_below_drewN | apply below_drew1 | refine below_set ?_ (IsS104.ge HI129.out)) | exact HB.out)); rintro e w21 ⟨rfl, hi, hb, hk⟩; have n0_ := Aside0.mk (Kd.R_mono (Kd.R_keep (IsS104.apart (show IsS104 w _ g129 x130000_5 from by repeat (first | (with_reducible first | exact HI129.out | apply IsS104.alloc | apply IsS104.drewN | apply IsS104.drew | apply IsS104.set_0) | exact HI129.out)) (by (with_reducible repeat (first | apply Kd.R_alloc | apply Kd.R_drewN | apply Kd.R_drew)); exact HO_4.out) (by decide)) hk (fun _ h => h.2)) (fun _ h => h.1)); have n1_ := Aside0.mk (hb); have n2_ := Aside0.mk (hi); clear HO_4; clear HB; clear HI129; have HO_4 := n0_; have HB := n1_; have HI129 := n2_; clear n0_ n1_ n2_; (try clear hb); (try clear hb2); (try clear hk); (try clear hi)))
                    go_meet
                    case rel => exact ⟨_, ((t138.toList != (t130.extract 0 ((ji17) : Int).toNat).toList)), (t140), (by first | rfl | (simp; done) | (simp only [← hji17] <;> (first | rfl | simp)) | (simp [*]; done)), H', ⟨by have := HK1.out; have := HJ5.out; first | omega | exact Nat.le_refl _⟩, ⟨by (with_reducible repeat (first | apply Kd.R_alloc | apply Kd.R_drewN | apply Kd.R_drew)); exact HO_4.out⟩, ⟨by repeat (first | (with_reducible first | exact HI129.out | apply IsS104.alloc | apply IsS104.drewN | apply IsS104.drew | apply IsS104.set_0) | exact HI129.out)⟩, ⟨by repeat (first | (with_reducible first | exact HB.out | apply below_alloc | apply pw_below_drewN | apply below_drew1 | refine below_set ?_ (IsS104.ge HI129.out)) | exact HB.out)⟩⟩
                  · rw [if_neg c19] at H
                    exact absurd H (by simp)
                · rw [if_neg c18] at H
                  exact absurd H (by simp)
            · rw [if_neg c13] at H
              have c13b0 : (x8_5 == 0) = false := beq_eq_false_iff_ne.mpr c13
              have c13b1 : (x8_5 != 0) = true := bne_iff_ne.mpr c13
              (first | rw [c13b0] | (simp only [i64_w, i32_w]; rw [c13b0]) | skip)
              have H' := Aside0.mk H
              clear H
              go_wp2
              go_meet
              case rel => exact ⟨_, (true), (x130000_5), (by first | rfl | (simp; done) | (simp [*]; done)), H', ⟨by have := HK1.out; have := HJ5.out; first | omega | exact Nat.le_refl _⟩, ⟨by (with_reducible repeat (first | apply Kd.R_alloc | apply Kd.R_drewN | apply Kd.R_drew)); exact HO_4.out⟩, ⟨by repeat (first | (with_reducible first | exact HI129.out | apply IsS104.alloc | apply IsS104.drewN | apply IsS104.drew | apply IsS104.set_0) | exact HI129.out)⟩, ⟨by repeat (first | (with_reducible first | exact HB.out | apply below_alloc | apply pw_below_drewN | apply below_drew1 | refine below_set ?_ (IsS104.ge HI129.out)) | exact HB.out)⟩⟩
          case rest =>
            clear HC12
            try clear c1
            try clear p2
            try clear c3
            try clear c4
            try clear p6
            try clear c9
            try clear c9b0
            try clear c9b1
            try clear c12
            try clear c13
            try clear c13b0
            try clear c13b1
            try clear c14
            try clear c14b0
            try clear c14b1
            try clear c18
            try clear c18b0
            try clear c18b1
            try clear c19
            try clear c19b0
            try clear c19b1
            try clear p2
            obtain ⟨kq, x44_11, x130000_11, rfl, HA, HJ11, HO_4, HI129, HB⟩ := hcut
            cases kq with
            | zero => exact absurd HA.out (by simp [wal_Split.j2])
            | succ kj11 =>
              have H := HA.out
              clear HA
              simp only [wal_Split.j2] at H
              by_cases c22 : x44_11 = true
              · subst c22
                have H1 : (some (x4_1, wrap64 ((a0.size : Int) - (t130.size : Int)))) = some (r1, r2) := by rw [if_pos rfl] at H; exact H
                clear H
                have H := H1
                clear H1
                simp only [Option.some.injEq, Prod.mk.injEq] at H
                obtain ⟨rfl, rfl⟩ := H
                go_wp2
                go_ret2
                exact ⟨_, by first | rfl | (simp [errW_none, errW_some] <;> rfl) | (simp [*, errW_none, errW_some] <;> rfl), by (with_reducible repeat (first | apply Kd.R_alloc | apply Kd.R_drewN | apply Kd.R_drew)); exact HO_4.out, by repeat (first | (with_reducible first | exact HB.out | apply below_alloc | apply pw_below_drewN | apply below_drew1 | refine below_set ?_ (IsS104.ge HI129.out)) | exact HB.out)⟩
              · replace c22 := Bool.eq_false_iff.mpr c22
                subst c22
                have H1 : (if x4_1.length < 8796093022208 then (wal_Split.l0 kj11 a0 (x4_1 ++ [t132]) x130000_11) else (none)) = some (r1, r2) := by rw [if_neg (show ¬ (false = true) by decide)] at H; exact H
                clear H
                have H := H1
                clear H1
                by_cases c23 : x4_1.length < 8796093022208
                · rw [if_pos c23] at H
                  have LMc23 := Aside0.mk c23
                  clear c23
                  obtain ⟨y141, hy141⟩ : ∃ y_ : List ByteArray, y_ = (x4_1 ++ [t132]) := ⟨_, rfl⟩
                  replace H : (wal_Split.l0 kj11 a0 y141 x130000_11) = some (r1, r2) := by first | (rw [hy141]; with_reducible exact H) | (have H2_ := (Option.bind_some _ _).symm.trans H; rw [hy141]; with_reducible exact H2_) | (have H2_ := (Option.bind_some _ _).symm.trans H; with_reducible exact H2_) | with_reducible exact H | (rw [hy141]; exact H) | exact H
                  have Ny141 := Aside0.mk hy141
                  clear hy141
                  have H' := Aside0.mk H
                  clear H
                  go_wp2_with (first | ((with_reducible refine gate_builtin (b := .append) (xs := #[.tmp 51, .tmp 53]) rfl ?_); (try (refine gate_guard (by rfl) ?_; dsimp only)); at_builtin; refine Kd.R_append Kd.string (w0 := w) w.heap.size rfl (.tmp 51) (.tmp 53) 22 9 (.string ⟨#[]⟩) 16 rfl Try.underlying22 info9 rfl (by decide) (by omega) u4 x4_1 t132 [.string t132] (fun _ => True) (fun _ => False) rfl rfl ?aP (fun _ hk => hk.elim) ?aF ?aO ?aB ?aS ?aL ?_; (case aP => exact rfl); (case aB => exact (by repeat (first | (with_reducible first | exact HB.out | apply below_alloc | apply pw_below_drewN | apply below_drew1 | refine below_set ?_ (IsS104.ge HI129.out)) | exact HB.out))); (case aF => exact (fun _ _ => trivial)); (case aO => exact (by (with_reducible repeat (first | apply Kd.R_alloc | apply Kd.R_drewN | apply Kd.R_drew)); exact HO_4.out)); (case aS => exact (below_size (by repeat (first | (with_reducible first | exact HB.out | apply below_alloc | apply pw_below_drewN | apply below_drew1 | refine below_set ?_ (IsS104.ge HI129.out)) | exact HB.out)))); (case aL => have := LMc23.out; omega); intro v142 w24 ho hb hg hat; rw [← Ny141.out] at ho; have n0_ := Aside0.mk (IsS104.grown (by repeat (first | (with_reducible first | exact HI129.out | apply IsS104.alloc | apply IsS104.drewN | apply IsS104.drew | apply IsS104.set_0) | exact HI129.out)) hg (IsS104.own_ne HI129.out HO_4.out (by decide))); have n1_ := Aside0.mk (hb); have n2_ := Aside0.mk (ho); clear HI129; clear HB; clear HO_4; have HI129 := n0_; have HB := n1_; have HO143 := n2_; clear n0_ n1_ n2_; clear ho hb hg hat))
                  go_roundg kj11
                  case measure => have := HK1.out; have := HJ5.out; have := HJ11.out; omega
                  case rel => exact ⟨(y141), (x130000_11), H', ⟨by have := HK1.out; have := HJ5.out; have := HJ11.out; omega⟩, ⟨by (with_reducible repeat (first | apply Kd.R_alloc | apply Kd.R_drewN | apply Kd.R_drew)); exact HO143.out⟩, ⟨by repeat (first | (with_reducible first | exact HI129.out | apply IsS104.alloc | apply IsS104.drewN | apply IsS104.drew | apply IsS104.set_0) | exact HI129.out)⟩, ⟨by repeat (first | (with_reducible first | exact HB.out | apply below_alloc | apply pw_below_drewN | apply below_drew1 | refine below_set ?_ (IsS104.ge HI129.out)) | exact HB.out)⟩⟩
                · rw [if_neg c23] at H
                  exact absurd H (by simp)

end Go.Proofs.Ytlkljeghhahedaa.PWalFrames
