/- What the printed readers of six, and the reference's, come to: the plain ones over lists of bytes. -/
import Derived.Test.YtmeikcifobfolaaPBasex
import Derived.Test.YtmeikcifobfolaaSixFn
import Derived.Laws.Bits64
namespace Go.Proofs.Ytmeikcifobfolaa.SixEv
open Go Go.RowKit Go.Proofs.YtmeikcifobfolaaW.PrintWords Go.Proofs.Ytmeikcifobfolaa.PBase Go.Proofs.Ytmeikcifobfolaa.Base Go.Proofs.Ytmeikcifobfolaa.SixFn

theorem wraps_u64 (n : Int) (h₀ : 0 ≤ n) (h₁ : n < 2 ^ 64) : IntKind.u64.wrap n = n := by rw [IntKind.wrap_u64]; omega
theorem join6 (x : Nat) (c : UInt8) (hx : x ≤ 144115188075855871) :
    Go.bits .or .u64 (IntKind.u64.wrap ((x : Int) * 64)) (IntKind.u64.wrap (Go.bits .and .u8 (c.toNat : Int) 63)) = ((64 * x + c.toNat % 64 : Nat) : Int) := by
  have hc := c.toNat_lt
  rw [u8_and63 _ (by omega) (by omega), wraps_u64 _ (by omega) (by omega), wraps_u64 _ (by omega) (by omega)]
  rw [bits_join .u64 64 (by decide) wraps_u64 6 _ _ (by omega) (by omega) (by omega) (by omega) (by omega) (by omega)]
  omega
def numOut (R : Num) (s : ByteArray) : Int × Bool × Int × Int × ByteArray := ((R.n : Int), R.below, (R.size : Int), R.e, s)
theorem ev_number_l0 (s : ByteArray) (hs : s.size ≤ 9223372036854775806) (d : Nat) : ∀ (x i : Nat), i + d = s.size → x ≤ 9223372036854775807 →
    Ev (fun k => six_Reader_number.l0 k (x : Int) (i : Int) s) (numOut (num x i ((toL s).drop i)) s) := by
  induction d with
  | zero =>
    intro x i hi hx
    rw [List.drop_of_length_le (by rw [← size_eq]; omega)]
    refine Ev.step (f := fun _ => some (numOut (num x i []) s)) (fun k => ?_) (Ev.now _)
    simp only [six_Reader_number.l0]
    rw [if_neg (by omega)]
    rfl
  | succ d ih =>
    intro x i hi hx
    have hlt : i < (toL s).length := by rw [← size_eq]; omega
    have hb : bt s (i : Int) = (((toL s)[i]).toNat : Int) := by
      rw [bt_eq, List.getD_eq_getElem?_getD, List.getElem?_eq_getElem hlt]; rfl
    rw [List.drop_eq_getElem_cons hlt]
    generalize (toL s)[i] = c at hb ⊢
    have hc := c.toNat_lt
    unfold num
    by_cases h3 : 192 ≤ c.toNat ∨ 144115188075855871 < x ∨ (i = 0 ∧ c.toNat = 0)
    · rw [if_pos h3]
      refine Ev.step (f := fun k => six_Reader_number.j1 k (x : Int) (i : Int) (c.toNat : Int) true s) (fun k => ?_) (Ev.step (f := fun _ => some (numOut ⟨3, 0, false, 0⟩ s)) (fun k => ?_) (Ev.now _))
      · simp only [six_Reader_number.l0, hb]
        rw [if_pos (by omega), if_pos (by omega)]
        by_cases a : (c.toNat : Int) > 191
        · rw [if_pos a]
        · rw [if_neg a]
          by_cases b : (x : Int) > 144115188075855871
          · rw [if_pos b]
          · rw [if_neg b, if_pos (by omega)]
            have : ((c.toNat : Int) == 0) = true := beq_iff_eq.2 (by omega)
            rw [this]
      · simp only [six_Reader_number.j1]
        rw [if_pos trivial]
        rfl
    · rw [if_neg h3]
      refine Ev.step (f := fun k => six_Reader_number.j1 k (x : Int) (i : Int) (c.toNat : Int) false s) (fun k => ?_) ?_
      · simp only [six_Reader_number.l0, hb]
        rw [if_pos (by omega), if_pos (by omega), if_neg (by omega), if_neg (by omega)]
        by_cases b : (i : Int) = 0
        · rw [if_pos b]
          have : ((c.toNat : Int) == 0) = false := beq_eq_false_iff_ne.2 (by omega)
          rw [this]
        · rw [if_neg b]
      · by_cases h4 : 64 ≤ c.toNat
        · rw [if_pos h4]
          refine Ev.step (f := fun _ => some (numOut ⟨0, 64 * x + c.toNat % 64, decide (127 < c.toNat), i + 1⟩ s)) (fun k => ?_) (Ev.now _)
          simp only [six_Reader_number.j1]
          rw [if_neg (by decide), if_pos (by omega), join6 x c (by omega), wrap64_small (by omega) (by omega), wrap64_small (by omega) (by omega)]
          unfold numOut
          congr 3
          simp only [decide_eq_decide]
          omega
        · rw [if_neg h4]
          refine Ev.step (f := fun k => six_Reader_number.l0 k ((64 * x + c.toNat % 64 : Nat) : Int) ((i + 1 : Nat) : Int) s) (fun k => ?_) (ih _ (i + 1) (by omega) (by omega))
          simp only [six_Reader_number.j1]
          rw [if_neg (by decide), if_neg (by omega), join6 x c (by omega), wrap64_small (by omega) (by omega)]
          rfl
theorem ev_number (s : ByteArray) (hs : s.size ≤ 9223372036854775806) : Ev (fun k => six_Reader_number.f k s) (numOut (num 0 0 (toL s)) s) :=
  ev_number_l0 s hs s.size 0 0 (by omega) (by omega)
theorem ev_Count (s : ByteArray) (hs : s.size ≤ 9223372036854775806) :
    Ev (fun k => six_Reader_Count.f k s) ((count (toL s)).1, (count (toL s)).2.2, ofL ((toL s).drop (count (toL s)).2.1)) := by
  unfold six_Reader_Count.f
  refine Ev.bind (ev_number s hs) ?_
  have hsz := size_eq s
  unfold numOut count
  dsimp only
  rcases num_spec (toL s) 0 0 with h | ⟨h, h1, h2, h3⟩
  · have hz := num_size (toL s) 0 0 h
    simp only [h, if_true]
    cases hb : (num 0 0 (toL s)).below with
    | true =>
      refine Ev.step (f := fun k => six_Reader_Count.j1 k ((num 0 0 (toL s)).n : Int) ((num 0 0 (toL s)).size : Int) 3 s) (fun k => ?_) (Ev.step (f := fun _ => some (0, 3, s)) (fun k => ?_) (Ev.now _))
      · simp only [six_Reader_Count.j0, if_true]
      · simp only [six_Reader_Count.j1]
        rw [if_neg (by decide)]
    | false =>
      refine Ev.step (f := fun k => six_Reader_Count.j1 k ((num 0 0 (toL s)).n : Int) ((num 0 0 (toL s)).size : Int) 0 s) (fun k => ?_) (Ev.step (f := fun _ => some (((num 0 0 (toL s)).n : Int), 0, ofL ((toL s).drop (num 0 0 (toL s)).size))) (fun k => ?_) (Ev.now _))
      · simp only [six_Reader_Count.j0, Bool.false_eq_true, if_false]
      · simp only [six_Reader_Count.j1]
        rw [if_pos trivial, if_pos (by omega), if_pos (by omega), Int.toNat_natCast, extract_drop]
  · have hne : ¬ (num 0 0 (toL s)).e = 0 := by omega
    simp only [hne, if_false, h1, h2, h3]
    refine Ev.step (f := fun k => six_Reader_Count.j1 k 0 0 (num 0 0 (toL s)).e s) (fun k => ?_) (Ev.step (f := fun _ => some (0, (num 0 0 (toL s)).e, s)) (fun k => ?_) (Ev.now _))
    · simp only [six_Reader_Count.j0, Bool.false_eq_true, if_false]
      rfl
    · simp only [six_Reader_Count.j1]
      rw [if_neg hne]
theorem raw_eq (s : ByteArray) (n : Int) : six_Reader_Raw.f s n = some (ofL (raw (toL s) n).1, (raw (toL s) n).2.2, ofL ((toL s).drop (raw (toL s) n).2.1)) := by
  unfold six_Reader_Raw.f raw
  have hsz := size_eq s
  by_cases h0 : n < 0
  · rw [if_pos h0, if_pos h0]
    rfl
  · rw [if_neg h0, if_neg h0]
    by_cases h1 : ((toL s).length : Int) < n
    · rw [if_pos (by omega), if_pos h1]
      rfl
    · rw [if_neg (by omega), if_neg h1, if_pos (by omega), if_pos (by omega), extract_take, extract_drop]
theorem end_eq (s : ByteArray) : six_Reader_End.f s = some (if toL s = [] then 0 else 5, s) := by
  unfold six_Reader_End.f
  rw [toList_eq]
  split <;> rfl

/-! the reference's -/
theorem ref6 (x : Nat) (c : UInt8) (hx : x ≤ 144115188075855871) :
    IntKind.u64.wrap ((IntKind.u64.wrap (64 * (x : Int))) + (IntKind.u64.wrap (Int.tmod (c.toNat : Int) 64))) = ((64 * x + c.toNat % 64 : Nat) : Int) := by
  have hc := c.toNat_lt
  rw [Int.tmod_eq_emod_of_nonneg (by omega), wraps_u64 (64 * (x : Int)) (by omega) (by omega), wraps_u64 ((c.toNat : Int) % 64) (by omega) (by omega), wraps_u64 _ (by omega) (by omega)]
  omega
def refOut (R : Num) : Int × Int × Int := if R.e = 0 then ((if R.below then -1 - (R.n : Int) else (R.n : Int)), (R.size : Int), 0) else (0, 0, R.e)
theorem ev_ReadWhole_l0 (s : ByteArray) (hs : s.size ≤ 9223372036854775806) (d : Nat) : ∀ (x i : Nat), i + d = s.size → x ≤ 9223372036854775807 →
    Ev (fun k => siloref01_ReadWhole.l0 k s (x : Int) (i : Int)) (refOut (num x i ((toL s).drop i))) := by
  induction d with
  | zero =>
    intro x i hi hx
    rw [List.drop_of_length_le (by rw [← size_eq]; omega)]
    refine Ev.step (f := fun _ => some (refOut (num x i []))) (fun k => ?_) (Ev.now _)
    simp only [siloref01_ReadWhole.l0]
    rw [if_neg (by omega)]
    rfl
  | succ d ih =>
    intro x i hi hx
    have hlt : i < (toL s).length := by rw [← size_eq]; omega
    have hb : bt s (i : Int) = (((toL s)[i]).toNat : Int) := by
      rw [bt_eq, List.getD_eq_getElem?_getD, List.getElem?_eq_getElem hlt]; rfl
    rw [List.drop_eq_getElem_cons hlt]
    generalize (toL s)[i] = c at hb ⊢
    have hc := c.toNat_lt
    have hw : wrap64 (c.toNat : Int) = (c.toNat : Int) := wrap64_small (by omega) (by omega)
    unfold num
    by_cases h3 : 192 ≤ c.toNat ∨ 144115188075855871 < x ∨ (i = 0 ∧ c.toNat = 0)
    · rw [if_pos h3]
      refine Ev.step (f := fun k => siloref01_ReadWhole.j1 k s (x : Int) (i : Int) (c.toNat : Int) true) (fun k => ?_) (Ev.step (f := fun _ => some (refOut ⟨3, 0, false, 0⟩)) (fun k => ?_) (Ev.now _))
      · simp only [siloref01_ReadWhole.l0, hb, hw]
        rw [if_pos (by omega), if_pos (by omega)]
        by_cases a : (c.toNat : Int) ≥ 192
        · rw [if_pos a]
        · rw [if_neg a]
          by_cases b : (x : Int) > 144115188075855871
          · have e : decide ((x : Int) > 144115188075855871) = true := decide_eq_true b
            rw [e]
            split
            · split <;> rfl
            · rfl
          · rw [if_pos (by omega), if_pos (by omega)]
      · simp only [siloref01_ReadWhole.j1, if_true]
        rfl
    · rw [if_neg h3]
      refine Ev.step (f := fun k => siloref01_ReadWhole.j1 k s (x : Int) (i : Int) (c.toNat : Int) false) (fun k => ?_) ?_
      · simp only [siloref01_ReadWhole.l0, hb, hw]
        rw [if_pos (by omega), if_pos (by omega), if_neg (by omega)]
        have e : decide ((x : Int) > 144115188075855871) = false := decide_eq_false (by omega)
        rw [e]
        split
        · rw [if_neg (by omega)]
        · rfl
      · by_cases h4 : 64 ≤ c.toNat
        · rw [if_pos h4]
          refine Ev.step (f := fun _ => some (refOut ⟨0, 64 * x + c.toNat % 64, decide (127 < c.toNat), i + 1⟩)) (fun k => ?_) (Ev.now _)
          simp only [siloref01_ReadWhole.j1, Bool.false_eq_true, if_false]
          rw [ref6 x c (by omega)]
          unfold refOut
          by_cases h5 : (c.toNat : Int) ≥ 128
          · rw [if_pos h5, if_pos rfl]
            have e : decide (127 < c.toNat) = true := decide_eq_true (by omega)
            simp only [e, if_true]
            rw [wrap64_small (x := (((64 * x + c.toNat % 64 : Nat)) : Int)) (by omega) (by omega), wrap64_small (by omega) (by omega), wrap64_small (by omega) (by omega)]
            rfl
          · rw [if_neg h5, if_pos (by omega), if_pos rfl]
            have e : decide (127 < c.toNat) = false := decide_eq_false (by omega)
            simp only [e, Bool.false_eq_true, if_false]
            rw [wrap64_small (x := (((64 * x + c.toNat % 64 : Nat)) : Int)) (by omega) (by omega), wrap64_small (by omega) (by omega)]
            rfl
        · rw [if_neg h4]
          refine Ev.step (f := fun k => siloref01_ReadWhole.l0 k s ((64 * x + c.toNat % 64 : Nat) : Int) ((i + 1 : Nat) : Int)) (fun k => ?_) (ih _ (i + 1) (by omega) (by omega))
          simp only [siloref01_ReadWhole.j1, Bool.false_eq_true, if_false]
          rw [if_neg (by omega), if_neg (by omega), ref6 x c (by omega), wrap64_small (by omega) (by omega)]
          rfl
theorem ev_ReadWhole (s : ByteArray) (hs : s.size ≤ 9223372036854775806) : Ev (fun k => siloref01_ReadWhole.f k s) ((whole (toL s)).1, ((whole (toL s)).2.1 : Int), (whole (toL s)).2.2) := by
  have h := ev_ReadWhole_l0 s hs s.size 0 0 (by omega) (by omega)
  rw [List.drop_zero] at h
  have e : refOut (num 0 0 (toL s)) = ((whole (toL s)).1, ((whole (toL s)).2.1 : Int), (whole (toL s)).2.2) := by
    unfold refOut whole
    split <;> rfl
  rw [e] at h
  exact h
theorem count_whole (l : List UInt8) : count l = if (whole l).2.2 = 0 then (if (whole l).1 < 0 then (0, 0, 3) else whole l) else whole l := by
  unfold count whole
  by_cases h : (num 0 0 l).e = 0
  · simp only [h, if_true]
    cases hb : (num 0 0 l).below with
    | true => simp only [if_true]; rw [if_pos (by omega)]
    | false => simp only [Bool.false_eq_true, if_false]; rw [if_neg (by omega)]
  · simp only [h, if_false]
theorem ev_ReadCount (s : ByteArray) (hs : s.size ≤ 9223372036854775806) : Ev (fun k => siloref01_ReadCount.f k s) ((count (toL s)).1, ((count (toL s)).2.1 : Int), (count (toL s)).2.2) := by
  unfold siloref01_ReadCount.f
  refine Ev.bind (ev_ReadWhole s hs) (Ev.congr (fun k => ?_) (Ev.now _))
  rw [count_whole]
  dsimp only
  by_cases h : (whole (toL s)).2.2 = 0
  · rw [if_pos h, if_pos h]
    by_cases h2 : (whole (toL s)).1 < 0
    · rw [if_pos h2, if_pos h2]; rfl
    · rw [if_neg h2, if_neg h2]
  · rw [if_neg h, if_neg h]
end Go.Proofs.Ytmeikcifobfolaa.SixEv
