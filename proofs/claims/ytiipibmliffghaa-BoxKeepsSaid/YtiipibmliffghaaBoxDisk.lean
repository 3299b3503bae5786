/- The box on a disk: Begin, Read, Add, Size. -/
import Derived.Test.YtiipibmliffghaaBoxOpens
import Derived.Test.YtiipibmliffghaaDskOne
import Derived.Test.YtiipibmliffghaaDskAdd
import Derived.Test.YtiipibmliffghaaFAlloc
namespace Go.Proofs.Ytiipibmliffghaa.Box
open Go Go.RowKit Go.Proofs.Ytiipibmliffghaa.Eng Go.Proofs.Ytiipibmliffghaa.Six Go.Proofs.Ytiipibmliffghaa.CrcFn Go.Proofs.Ytiipibmliffghaa.Crc Go.Proofs.Ytiipibmliffghaa.Dsk
set_option linter.unusedVariables false
set_option maxRecDepth 100000
def plC (f a n : Int) : List Value := [iV f, iV a, iV n]
abbrev plV (f a n : Int) : Value := .agg (plC f a n).toArray
theorem pl_one (f a n : Int) : ∀ v ∈ plC f a n, v.oneCell' = true := by
  intro v hv
  simp only [plC, List.mem_cons, List.not_mem_nil, or_false] at hv
  rcases hv with rfl | rfl | rfl <;> rfl
theorem pl_len (f a n : Int) : (plC f a n).length = 3 := rfl
theorem bpl0 : Program.built Try.prog 53 [] = some (plC 0 0 0).toArray := built_of I53 (places := [(0, 1), (1, 1), (2, 1)]) (by kernel_rfl) rfl rfl
theorem bpl3 (f a n : Int) : Program.built Try.prog 53 [(0, iV f), (1, iV a), (2, iV n)] = some (plC f a n).toArray := by
  refine built_of I53 (places := [(0, 1), (1, 1), (2, 1)]) (by kernel_rfl) (cs := plC 0 0 0) rfl ?_
  refine fill_step (off := 0) (l := [iV f]) rfl rfl (by simp [plC]) ?_
  refine fill_step (off := 1) (l := [iV a]) rfl rfl (by simp [plC]) ?_
  exact fill_step (off := 2) (l := [iV n]) rfl rfl (by simp [plC]) rfl
theorem bpl1 (f : Int) : Program.built Try.prog 53 [(0, iV f)] = some (plC f 0 0).toArray := by
  refine built_of I53 (places := [(0, 1), (1, 1), (2, 1)]) (by kernel_rfl) (cs := plC 0 0 0) rfl ?_
  exact fill_step (off := 0) (l := [iV f]) rfl rfl (by simp [plC]) rfl
theorem built_box (b : Nat) (file : Int) : Program.built Try.prog 107 [(0, dp b), (1, iV file)] = some [dp b, iV file, iV 0].toArray := by
  refine built_of I107 (places := [(0, 1), (1, 1), (2, 1)]) (by kernel_rfl) (cs := [.pointer none, iV 0, iV 0]) rfl ?_
  refine fill_step (off := 0) (l := [dp b]) rfl rfl (by simp) ?_
  exact fill_step (off := 1) (l := [iV file]) rfl rfl (by simp) rfl
def boxH (bl b : Nat) (file sz : Int) : HP := blk bl [dp b, iV file, iV sz] 107
noncomputable def breadR (S : DiskS) (f a n : Int) : Rec × Int := if (readS S f a n).2 ≠ 0 then (Rec.zero, (readS S f a n).2) else openR (readS S f a n).1
theorem breadR_ok (S : DiskS) (f a n : Int) : (breadR S f a n).1.ok := by
  unfold breadR
  split
  · exact zero_ok
  · exact openR_ok _
set_option maxHeartbeats 4000000 in
theorem bread_c (b : Nat) (S : DiskS) (hg : GoodS S) (f a n : Int) (ha : -9223372036854775808 ≤ a ∧ a ≤ 9223372036854775807) (hn : -9223372036854775808 ≤ n ∧ n ≤ 9223372036854775807) (w0 w : World) (R : List HP) (hs : Eng.Sep w0 w (diskH b S :: R)) :
    Calls Try.prog 22 #[dp b, plV f a n] w fun e w' => e = .returned (.tuple #[rV (breadR S f a n).1, iV (breadR S f a n).2]) ∧ Below w.heap.size w w' := by
  have hzl := recC_length zero_ok
  have hrl : (readS S f a n).1.length ≤ 67108864 := by
    by_cases h : findE S f = 0
    · obtain ⟨_, x, hx⟩ := find_zero h
      have := (hg.size hx).1
      rw [read_yes h hx]
      split
      · simp
      · dsimp only; rw [List.length_take, List.length_drop]; omega
    · rw [read_no h]; simp
  unfold breadR
  refine enter (P := Try.prog) Try.func22 rfl rfl ?_
  have hb0 : Below w.heap.size w w := Below.refl _ _
  have hs0 := Sep.init w
  have hsd := hs
  have hs := hs0
  refine c_rseq ?_
  refine l_box hs rfl ?_
  intro b3 w3 hs hB3 hlt3
  refine l_alloc hs I30 ?_
  intro b4 w4 hs hB4 hlt4
  refine l_v (by first | exact (r_assign (v := iV _) rfl) | exact (r_assign rfl)) ?_
  refine l_nil (nrm_then ?_)
  refine c_rseq ?_
  refine l_v (r_move (v := .pointer _) rfl) ?_
  refine l_v (by first | exact (r_fieldAddr0 (off := 0) (T := 3) (by kernel_rfl) rfl) | exact (r_fieldAddr (off := 0) (T := 3) (by kernel_rfl) rfl)) ?_
  refine l_v (by first | exact (r_load_at (i := 0) hs rfl Try.underlying3 rfl rfl) | exact (r_load_at (i := 1) hs rfl Try.underlying3 rfl rfl) | exact (r_load_at (i := 2) hs rfl Try.underlying3 rfl rfl) | exact (r_load_at (i := 3) hs rfl Try.underlying3 rfl rfl) | exact (r_load_at (i := 4) hs rfl Try.underlying3 rfl rfl) | exact (r_load_at (i := 5) hs rfl Try.underlying3 rfl rfl) | exact (r_load_at (i := 6) hs rfl Try.underlying3 rfl rfl)) ?_
  refine l_v (by first | exact (r_fieldAddr0 (off := 1) (T := 3) (by kernel_rfl) rfl) | exact (r_fieldAddr (off := 1) (T := 3) (by kernel_rfl) rfl)) ?_
  refine l_v (by first | exact (r_load_at (i := 0) hs rfl Try.underlying3 rfl rfl) | exact (r_load_at (i := 1) hs rfl Try.underlying3 rfl rfl) | exact (r_load_at (i := 2) hs rfl Try.underlying3 rfl rfl) | exact (r_load_at (i := 3) hs rfl Try.underlying3 rfl rfl) | exact (r_load_at (i := 4) hs rfl Try.underlying3 rfl rfl) | exact (r_load_at (i := 5) hs rfl Try.underlying3 rfl rfl) | exact (r_load_at (i := 6) hs rfl Try.underlying3 rfl rfl)) ?_
  refine l_v (by first | exact (r_fieldAddr0 (off := 2) (T := 3) (by kernel_rfl) rfl) | exact (r_fieldAddr (off := 2) (T := 3) (by kernel_rfl) rfl)) ?_
  refine l_v (by first | exact (r_load_at (i := 0) hs rfl Try.underlying3 rfl rfl) | exact (r_load_at (i := 1) hs rfl Try.underlying3 rfl rfl) | exact (r_load_at (i := 2) hs rfl Try.underlying3 rfl rfl) | exact (r_load_at (i := 3) hs rfl Try.underlying3 rfl rfl) | exact (r_load_at (i := 4) hs rfl Try.underlying3 rfl rfl) | exact (r_load_at (i := 5) hs rfl Try.underlying3 rfl rfl) | exact (r_load_at (i := 6) hs rfl Try.underlying3 rfl rfl)) ?_
  have hs : Sep w _ [blk b4 (recC .zero) 30, blk b3 [iV f, iV a, iV n] 53] := hs
  have hsd := hsd.below_ hs.below
  refine l_call (r_call Try.func30 rfl rfl) ?_
  refine Calls.mono (read_c b S hg f a n ha hn w0 _ _ hsd) ?_
  rintro e w_ ⟨rfl, hb⟩
  refine ⟨_, rfl, ?_⟩
  have hs := hs.below_ hb
  generalize readS S f a n = Q at *
  refine l_v (r_move rfl) ?_
  refine l_v (r_extract rfl rfl) ?_
  refine l_v (r_extract rfl rfl) ?_
  refine l_v (by first | exact (r_assign (v := sV _) rfl) | exact (r_assign rfl)) ?_
  refine l_v (by first | exact (r_assign (v := iV _) rfl) | exact (r_assign rfl)) ?_
  refine l_nil (nrm_then ?_)
  refine c_seq ?_
  refine c_rseq ?_
  refine l_v (by first | exact (r_move (v := iV _) rfl) | exact (r_move rfl)) ?_
  refine l_v (r_neqi rfl rfl) ?_
  refine l_nil (nrm_then ?_)
  refine c_cond rfl (fun h1 => ?_) (fun h1 => ?_)
  · replace h1 := of_decide_eq_true h1
    refine c_rseq ?_
    refine l_v (r_build (l := []) rfl bz) ?_
    refine l_v (by first | exact (r_move (v := iV _) rfl) | exact (r_move rfl)) ?_
    refine l_store_whole (i := 0) hs rfl I30 rfl rfl hzl hzl (rec_one _) ?_
    intro w_ hs
    refine l_v (by first | exact (r_assign (v := iV _) rfl) | exact (r_assign rfl)) ?_
    refine l_nil (nrm_then ?_)
    refine c_ret (ret_then ?_)
    show Fin _ _ _ _ _
    refine fin2c rfl rfl (run_loadVar_agg Try.underlying30 rfl I30 hzl (cells_whole (hs.at_ 0).1)) ?_
    rw [if_pos h1]
    exact ⟨rfl, hs.below⟩
  · replace h1 := of_decide_eq_false h1
    refine c_skip (nrm_then ?_)
    refine c_rseq ?_
    refine l_v (by first | exact (r_move (v := sV _) rfl) | exact (r_move rfl)) ?_
    rw [if_neg h1]
    refine l_call (r_call Try.func14 rfl rfl) ?_
    refine Calls.mono (open_c (ofL Q.1) (by show Q.1.length ≤ _; omega) _) ?_
    rintro e w_ ⟨rfl, hb⟩
    refine ⟨_, rfl, ?_⟩
    have hs := hs.below_ hb
    rw [Eng.toL_ofL]
    have hok := openR_ok Q.1
    generalize openR Q.1 = M at *
    have hml := recC_length hok
    have hone := rec_one M.1
    refine l_v (r_extract rfl rfl) ?_
    refine l_v (r_extract rfl rfl) ?_
    refine l_store_whole (i := 0) hs rfl I30 rfl rfl hml hzl (rec_one _) ?_
    intro w_ hs
    refine l_v (by first | exact (r_assign (v := iV _) rfl) | exact (r_assign rfl)) ?_
    refine l_nil (nrm_then ?_)
    refine c_ret ?_
    show Fin _ _ _ _ _
    refine fin2c rfl rfl (run_loadVar_agg Try.underlying30 rfl I30 hml (cells_whole (hs.at_ 0).1)) ?_
    exact ⟨rfl, hs.below⟩
set_option maxHeartbeats 4000000 in
theorem bbegin_c (b : Nat) (S : DiskS) (hg : GoodS S) (hst : S.steps ≤ 4611686018427387904) (t n : Int) (w0 w : World) (R : List HP) (hs : Eng.Sep w0 w (diskH b S :: R)) :
    Calls Try.prog 24 #[dp b, iV t, iV n] w fun e w' => ∃ q : Option Nat, e = .returned (.tuple #[.pointer (q.map fun bl => ⟨bl, 0, none⟩), iV (makeS S t n).2]) ∧ (q = none ↔ (makeS S t n).2 ≠ 0) ∧ (match q with
      | none => Eng.Sep w0 w' (diskH b (makeS S t n).1 :: R)
      | some bl => Eng.Sep w0 w' (boxH bl b n 0 :: diskH b (makeS S t n).1 :: R)) := by
  refine enter (P := Try.prog) Try.func24 rfl rfl ?_
  refine c_rseq ?_
  refine l_v (r_assign (v := .pointer _) rfl) ?_
  refine l_v (by first | exact (r_assign (v := iV _) rfl) | exact (r_assign rfl)) ?_
  refine l_nil (nrm_then ?_)
  refine c_seq ?_
  refine c_rseq ?_
  refine l_v (r_move (v := .pointer _) rfl) ?_
  refine l_v (by first | exact (r_move (v := iV _) rfl) | exact (r_move rfl)) ?_
  refine l_v (by first | exact (r_move (v := iV _) rfl) | exact (r_move rfl)) ?_
  refine l_call (r_call Try.func20 rfl rfl) ?_
  refine Calls.mono (make_c b S hg hst t n w0 _ _ hs) ?_
  rintro e w_ ⟨rfl, hs⟩
  refine ⟨_, rfl, ?_⟩
  generalize makeS S t n = M at *
  refine l_v (by first | exact (r_assign (v := iV _) rfl) | exact (r_assign rfl)) ?_
  refine l_nil (nrm_then ?_)
  refine c_rseq ?_
  refine l_v (by first | exact (r_move (v := iV _) rfl) | exact (r_move rfl)) ?_
  refine l_v (r_neqi rfl rfl) ?_
  refine l_nil (nrm_then ?_)
  refine c_cond rfl (fun h1 => ?_) (fun h1 => ?_)
  · replace h1 := of_decide_eq_true h1
    refine c_rseq ?_
    refine l_v (by first | exact (r_move (v := iV _) rfl) | exact (r_move rfl)) ?_
    refine l_v (r_assign (v := .pointer _) rfl) ?_
    refine l_v (by first | exact (r_assign (v := iV _) rfl) | exact (r_assign rfl)) ?_
    refine l_nil (nrm_then ?_)
    refine c_ret (ret_then ?_)
    show Fin _ _ _ _ _
    refine fin2 rfl ?_
    exact ⟨none, rfl, ⟨fun _ => h1, fun _ => rfl⟩, hs⟩
  · have h1' : M.2 = 0 := Decidable.of_not_not (of_decide_eq_false h1)
    replace h1 := of_decide_eq_false h1
    refine c_skip (nrm_then ?_)
    refine c_rseq ?_
    refine l_v (r_move (v := .pointer _) rfl) ?_
    refine l_v (by first | exact (r_move (v := iV _) rfl) | exact (r_move rfl)) ?_
    refine l_v (r_build (l := [(0, dp b), (1, iV n)]) rfl (built_box b n)) ?_
    refine l_box hs rfl ?_
    intro b19 w19 hs hB19 hlt19
    refine l_v (r_assign (v := .pointer _) rfl) ?_
    refine l_v (by first | exact (r_assign (v := iV _) rfl) | exact (r_assign rfl)) ?_
    refine l_nil (nrm_then ?_)
    refine c_ret ?_
    show Fin _ _ _ _ _
    refine fin2 rfl ?_
    rw [h1']
    exact ⟨some b19, rfl, ⟨fun h => (by cases h), fun h => absurd rfl h⟩, hs⟩
theorem bsize_c (bl b : Nat) (file sz : Int) (w0 w : World) (R : List HP) (hs : Eng.Sep w0 w (boxH bl b file sz :: R)) :
    Calls Try.prog 26 #[dp bl] w fun e w' => e = .returned (iV sz) ∧ w' = w := by
  have hs : Eng.Sep w0 w (blk bl [dp b, iV file, iV sz] 107 :: R) := hs
  refine enter (P := Try.prog) Try.func26 rfl rfl ?_
  refine c_rseq ?_
  refine l_v (by first | exact (r_assign (v := iV _) rfl) | exact (r_assign rfl)) ?_
  refine l_nil (nrm_then ?_)
  refine c_seq ?_
  refine c_rseq ?_
  refine l_v (r_move (v := .pointer _) rfl) ?_
  refine l_v (by first | exact (r_eqlp_some Try.underlying64 rfl rfl) | exact (r_eqlp_none Try.underlying64 rfl rfl)) ?_
  refine l_nil (nrm_then ?_)
  refine c_false rfl (rfl) ?_
  refine c_skip (nrm_then ?_)
  refine c_rseq ?_
  refine l_v (r_move (v := .pointer _) rfl) ?_
  refine l_v (by first | exact (r_nilCheck_p rfl) | exact (r_nilCheck_f rfl)) ?_
  refine l_v (by first | exact (r_fieldAddr0 (off := 2) (T := 3) (by kernel_rfl) rfl) | exact (r_fieldAddr (off := 2) (T := 3) (by kernel_rfl) rfl)) ?_
  refine l_v (by first | exact (r_load_at (i := 0) hs rfl Try.underlying3 rfl rfl) | exact (r_load_at (i := 1) hs rfl Try.underlying3 rfl rfl) | exact (r_load_at (i := 2) hs rfl Try.underlying3 rfl rfl) | exact (r_load_at (i := 3) hs rfl Try.underlying3 rfl rfl) | exact (r_load_at (i := 4) hs rfl Try.underlying3 rfl rfl) | exact (r_load_at (i := 5) hs rfl Try.underlying3 rfl rfl) | exact (r_load_at (i := 6) hs rfl Try.underlying3 rfl rfl)) ?_
  refine l_v (by first | exact (r_assign (v := iV _) rfl) | exact (r_assign rfl)) ?_
  refine l_nil (nrm_then ?_)
  refine c_ret ?_
  show Fin _ _ _ _ _
  refine fin1 rfl ?_
  exact ⟨rfl, rfl⟩
noncomputable def baddX (S : DiskS) (file : Int) (r : Rec) : DiskS × Int := if (packR r).2 ≠ 0 then (S, (packR r).2) else addS S file (packR r).1
noncomputable def baddV (S : DiskS) (file sz : Int) (r : Rec) : Value := if (baddX S file r).2 ≠ 0 then plV 0 0 0 else plV file sz (packR r).1.length
noncomputable def baddN (S : DiskS) (file sz : Int) (r : Rec) : Int := if (baddX S file r).2 ≠ 0 then sz else sz + (packR r).1.length
set_option maxHeartbeats 8000000 in
theorem badd_c (bl b : Nat) (file sz : Int) (S : DiskS) (hg : GoodS S) (hst : S.steps ≤ 4611686018427387904) (hsz : 0 ≤ sz ∧ sz ≤ 4611686018427387904) (r : Rec) (h : r.ok) (hz : r.body.length ≤ 9223372036854775807) (w0 w : World) (R : List HP) (hs : Eng.Sep w0 w (boxH bl b file sz :: diskH b S :: R)) :
    Calls Try.prog 23 #[dp bl, rV r] w fun e w' => e = .returned (.tuple #[baddV S file sz r, iV (baddX S file r).2]) ∧ Eng.Sep w0 w' (boxH bl b file (baddN S file sz r) :: diskH b (baddX S file r).1 :: R) := by
  have hol := recC_length h
  have hone := rec_one r
  have hpl : (packR r).1.length ≤ 1000000 := by
    unfold packR
    split
    · simp
    · split
      · simp
      · have := body_len r h
        unfold put
        rw [List.length_append, four_length]
        omega
  unfold baddV baddN
  have hX0 : (packR r).2 ≠ 0 → baddX S file r = (S, (packR r).2) := fun h => if_pos h
  have hX1 : (packR r).2 = 0 → baddX S file r = addS S file (packR r).1 := fun h => if_neg (fun h' => h' h)
  generalize baddX S file r = X at *
  refine enter (P := Try.prog) Try.func23 rfl rfl ?_
  refine c_rseq ?_
  refine l_box hs rfl ?_
  intro b3 w3 hs hB3 hlt3
  refine l_alloc hs I53 ?_
  intro b4 w4 hs hB4 hlt4
  refine l_v (by first | exact (r_assign (v := iV _) rfl) | exact (r_assign rfl)) ?_
  refine l_nil (nrm_then ?_)
  refine c_seq ?_
  refine c_rseq ?_
  refine l_v (r_move (v := .pointer _) rfl) ?_
  refine l_v (by first | exact (r_eqlp_some Try.underlying64 rfl rfl) | exact (r_eqlp_none Try.underlying64 rfl rfl)) ?_
  refine l_nil (nrm_then ?_)
  have hs : Eng.Sep w0 w4 (blk b4 (plC 0 0 0) 53 :: blk b3 (recC r) 30 :: blk bl [dp b, iV file, iV sz] 107 :: diskH b S :: R) := hs
  refine c_false rfl (rfl) ?_
  refine c_skip (nrm_then ?_)
  refine c_rseq ?_
  refine l_v (r_load_whole (i := 1) hs rfl Try.underlying30 I30 rfl hol) ?_
  refine l_call (r_call Try.func10 rfl rfl) ?_
  refine Calls.mono (pack_c r h hz _) ?_
  rintro e w_ ⟨rfl, hb⟩
  refine ⟨_, rfl, ?_⟩
  have hs := hs.below_ hb
  generalize packR r = K at *
  have hKz : (ofL K.1).size = K.1.length := rfl
  refine l_v (r_move rfl) ?_
  refine l_v (r_extract rfl rfl) ?_
  refine l_v (r_extract rfl rfl) ?_
  refine l_v (by first | exact (r_assign (v := sV _) rfl) | exact (r_assign rfl)) ?_
  refine l_v (by first | exact (r_assign (v := iV _) rfl) | exact (r_assign rfl)) ?_
  refine l_nil (nrm_then ?_)
  refine c_seq ?_
  refine c_rseq ?_
  refine l_v (by first | exact (r_move (v := iV _) rfl) | exact (r_move rfl)) ?_
  refine l_v (r_eqli rfl rfl) ?_
  refine l_nil (nrm_then ?_)
  refine c_cond rfl (fun h1 => ?_) (fun h1 => ?_)
  · have h1' : K.2 = 0 := of_decide_eq_true h1
    have hX1 := hX1 h1'
    replace h1 := of_decide_eq_true h1
    refine c_float [] 9 (by kernel_rfl) (by kernel_rfl) ?_
    intro hbF
    show OkF _ _ _ _ _ _ (_ :: _) 0 _ _
    refine f_v (fun wl hbl => by have hs := hs.below_ hbl; exact (r_move (v := .pointer _) rfl)) ?_
    refine f_v (fun wl hbl => by have hs := hs.below_ hbl; first | exact (r_nilCheck_p rfl) | exact (r_nilCheck_f rfl)) ?_
    refine f_v (fun wl hbl => by have hs := hs.below_ hbl; first | exact (r_fieldAddr0 (off := 0) (T := 54) (by kernel_rfl) rfl) | exact (r_fieldAddr (off := 0) (T := 54) (by kernel_rfl) rfl)) ?_
    refine f_v (fun wl hbl => by have hs := hs.below_ hbl; first | exact (r_load_at (i := 0) hs rfl Try.underlying54 rfl rfl) | exact (r_load_at (i := 1) hs rfl Try.underlying54 rfl rfl) | exact (r_load_at (i := 2) hs rfl Try.underlying54 rfl rfl) | exact (r_load_at (i := 3) hs rfl Try.underlying54 rfl rfl) | exact (r_load_at (i := 4) hs rfl Try.underlying54 rfl rfl) | exact (r_load_at (i := 5) hs rfl Try.underlying54 rfl rfl) | exact (r_load_at (i := 6) hs rfl Try.underlying54 rfl rfl)) ?_
    refine f_v (fun wl hbl => by have hs := hs.below_ hbl; exact (r_move (v := .pointer _) rfl)) ?_
    refine f_v (fun wl hbl => by have hs := hs.below_ hbl; first | exact (r_nilCheck_p rfl) | exact (r_nilCheck_f rfl)) ?_
    refine f_v (fun wl hbl => by have hs := hs.below_ hbl; first | exact (r_fieldAddr0 (off := 1) (T := 3) (by kernel_rfl) rfl) | exact (r_fieldAddr (off := 1) (T := 3) (by kernel_rfl) rfl)) ?_
    refine f_v (fun wl hbl => by have hs := hs.below_ hbl; first | exact (r_load_at (i := 0) hs rfl Try.underlying3 rfl rfl) | exact (r_load_at (i := 1) hs rfl Try.underlying3 rfl rfl) | exact (r_load_at (i := 2) hs rfl Try.underlying3 rfl rfl) | exact (r_load_at (i := 3) hs rfl Try.underlying3 rfl rfl) | exact (r_load_at (i := 4) hs rfl Try.underlying3 rfl rfl) | exact (r_load_at (i := 5) hs rfl Try.underlying3 rfl rfl) | exact (r_load_at (i := 6) hs rfl Try.underlying3 rfl rfl)) ?_
    refine f_v (fun wl hbl => by have hs := hs.below_ hbl; first | exact (r_move (v := sV _) rfl) | exact (r_move rfl)) ?_
    refine f_nil ?_
    have hs := hs.below_ hbF
    show OkL _ _ _ _ (_ :: _) _ _
    refine l_call (r_call Try.func21 rfl rfl) ?_
    refine Calls.mono (add_c b S hg hst file (ofL K.1) (by show K.1.length ≤ _; omega) w0 _ _ (hs.pull 3)) ?_
    rintro e w_ ⟨rfl, hs⟩
    refine ⟨_, rfl, ?_⟩
    rw [Eng.toL_ofL]
    rw [Eng.toL_ofL] at hs
    rw [← hX1]
    rw [← hX1] at hs
    have hs := hs.pull 3
    refine l_v (by first | exact (r_assign (v := iV _) rfl) | exact (r_assign rfl)) ?_
    refine l_nil (nrm_then ?_)
    refine c_seq ?_
    refine c_rseq ?_
    refine l_v (by first | exact (r_move (v := iV _) rfl) | exact (r_move rfl)) ?_
    refine l_v (r_neqi rfl rfl) ?_
    refine l_nil (nrm_then ?_)
    refine c_cond rfl (fun h2 => ?_) (fun h2 => ?_)
    · have h2' : X.2 ≠ 0 := of_decide_eq_true h2
      rw [if_pos h2', if_pos h2']
      have hs := hs.pull 2
      have hs : Eng.Sep w0 w_ (blk b4 (plC 0 0 0) 53 :: blk bl [dp b, iV file, iV sz] 107 :: diskH b X.1 :: blk b3 (recC r) 30 :: R) := hs
      replace h2 := of_decide_eq_true h2
      refine c_rseq ?_
      refine l_v (r_build (l := []) rfl bpl0) ?_
      refine l_v (by first | exact (r_move (v := iV _) rfl) | exact (r_move rfl)) ?_
      refine l_store_whole (i := 0) hs rfl I53 rfl rfl (pl_len _ _ _) (pl_len _ _ _) (pl_one _ _ _) ?_
      intro w_ hs
      refine l_v (by first | exact (r_assign (v := iV _) rfl) | exact (r_assign rfl)) ?_
      refine l_nil (nrm_then ?_)
      refine c_ret (ret_then ?_)
      show Fin _ _ _ _ _
      refine fin2c rfl rfl (run_loadVar_agg Try.underlying53 rfl I53 (pl_len _ _ _) (cells_whole (hs.at_ 0).1)) ?_
      exact ⟨rfl, (hs.drop.pull 2).drop⟩
    · have h2' : X.2 = 0 := Decidable.of_not_not (of_decide_eq_false h2)
      rw [if_neg (fun h => h h2'), if_neg (fun h => h h2'), h2']
      have hs := hs.pull 2
      have hs : Eng.Sep w0 w_ (blk b4 (plC 0 0 0) 53 :: blk bl [dp b, iV file, iV sz] 107 :: diskH b X.1 :: blk b3 (recC r) 30 :: R) := hs
      replace h2 := of_decide_eq_false h2
      refine c_skip (nrm_then ?_)
      refine c_seq ?_
      refine c_float [11] 12 (by kernel_rfl) (by kernel_rfl) ?_
      intro hbF
      show OkF _ _ _ _ _ _ (_ :: _) 0 _ _
      refine f_v (fun wl hbl => by have hs := hs.below_ hbl; exact (r_move (v := .pointer _) rfl)) ?_
      refine f_v (fun wl hbl => by have hs := hs.below_ hbl; first | exact (r_nilCheck_p rfl) | exact (r_nilCheck_f rfl)) ?_
      refine f_v (fun wl hbl => by have hs := hs.below_ hbl; first | exact (r_fieldAddr0 (off := 1) (T := 3) (by kernel_rfl) rfl) | exact (r_fieldAddr (off := 1) (T := 3) (by kernel_rfl) rfl)) ?_
      refine f_v (fun wl hbl => by have hs := hs.below_ hbl; first | exact (r_load_at (i := 0) hs rfl Try.underlying3 rfl rfl) | exact (r_load_at (i := 1) hs rfl Try.underlying3 rfl rfl) | exact (r_load_at (i := 2) hs rfl Try.underlying3 rfl rfl) | exact (r_load_at (i := 3) hs rfl Try.underlying3 rfl rfl) | exact (r_load_at (i := 4) hs rfl Try.underlying3 rfl rfl) | exact (r_load_at (i := 5) hs rfl Try.underlying3 rfl rfl) | exact (r_load_at (i := 6) hs rfl Try.underlying3 rfl rfl)) ?_
      refine f_v (fun wl hbl => by have hs := hs.below_ hbl; exact (r_move (v := .pointer _) rfl)) ?_
      refine f_v (fun wl hbl => by have hs := hs.below_ hbl; first | exact (r_nilCheck_p rfl) | exact (r_nilCheck_f rfl)) ?_
      refine f_v (fun wl hbl => by have hs := hs.below_ hbl; first | exact (r_fieldAddr0 (off := 2) (T := 3) (by kernel_rfl) rfl) | exact (r_fieldAddr (off := 2) (T := 3) (by kernel_rfl) rfl)) ?_
      refine f_v (fun wl hbl => by have hs := hs.below_ hbl; first | exact (r_load_at (i := 0) hs rfl Try.underlying3 rfl rfl) | exact (r_load_at (i := 1) hs rfl Try.underlying3 rfl rfl) | exact (r_load_at (i := 2) hs rfl Try.underlying3 rfl rfl) | exact (r_load_at (i := 3) hs rfl Try.underlying3 rfl rfl) | exact (r_load_at (i := 4) hs rfl Try.underlying3 rfl rfl) | exact (r_load_at (i := 5) hs rfl Try.underlying3 rfl rfl) | exact (r_load_at (i := 6) hs rfl Try.underlying3 rfl rfl)) ?_
      refine f_v (fun wl hbl => by have hs := hs.below_ hbl; first | exact (r_move (v := sV _) rfl) | exact (r_move rfl)) ?_
      refine f_v (fun wl hbl => by have hs := hs.below_ hbl; exact (r_len_s Try.underlying9 rfl)) ?_
      refine f_v (fun wl hbl => by have hs := hs.below_ hbl; exact (r_build (l := [(0, iV file), (1, iV sz), (2, iV (K.1.length : Int))]) rfl (bpl3 _ _ _))) ?_
      refine f_alloc (hs.below_ hbF) I53 ?_
      intro b8 w8 hsN hB8 hlt8
      have hbF := hbF.trans (Below.mono hB8 hbF.size)
      refine f_nil ?_
      have hs := hsN
      show OkL _ _ _ _ (_ :: _) _ _
      refine l_store_whole (i := 0) hs rfl I53 rfl rfl (pl_len _ _ _) (pl_len 0 0 0) (pl_one _ _ _) ?_
      intro w_ hs
      have hs : Eng.Sep w0 w_ (blk b8 (plC file sz (K.1.length : Int)) 53 :: blk b4 (plC 0 0 0) 53 :: blk bl [dp b, iV file, iV sz] 107 :: diskH b X.1 :: blk b3 (recC r) 30 :: R) := hs
      refine l_nil (nrm_then ?_)
      refine c_rseq ?_
      refine l_v (r_move (v := .pointer _) rfl) ?_
      refine l_v (by first | exact (r_nilCheck_p rfl) | exact (r_nilCheck_f rfl)) ?_
      refine l_v (by first | exact (r_fieldAddr0 (off := 2) (T := 3) (by kernel_rfl) rfl) | exact (r_fieldAddr (off := 2) (T := 3) (by kernel_rfl) rfl)) ?_
      refine l_v (by first | exact (r_load_at (i := 0) hs rfl Try.underlying3 rfl rfl) | exact (r_load_at (i := 1) hs rfl Try.underlying3 rfl rfl) | exact (r_load_at (i := 2) hs rfl Try.underlying3 rfl rfl) | exact (r_load_at (i := 3) hs rfl Try.underlying3 rfl rfl) | exact (r_load_at (i := 4) hs rfl Try.underlying3 rfl rfl) | exact (r_load_at (i := 5) hs rfl Try.underlying3 rfl rfl) | exact (r_load_at (i := 6) hs rfl Try.underlying3 rfl rfl)) ?_
      refine l_v (by first | exact (r_move (v := sV _) rfl) | exact (r_move rfl)) ?_
      refine l_v (r_len_s Try.underlying9 rfl) ?_
      refine l_v (r_addi rfl rfl (by omega)) ?_
      refine l_v (by first | exact (r_nilCheck_p rfl) | exact (r_nilCheck_f rfl)) ?_
      refine l_v (by first | exact (r_fieldAddr0 (off := 2) (T := 3) (by kernel_rfl) rfl) | exact (r_fieldAddr (off := 2) (T := 3) (by kernel_rfl) rfl)) ?_
      refine l_store (i := 2) (v := iV _) hs rfl I3 rfl rfl (by simp) ?_
      intro w_ hs
      refine l_nil (nrm_then ?_)
      refine c_rseq ?_
      refine l_v (r_load_whole (i := 0) hs rfl Try.underlying53 I53 rfl (pl_len _ _ _)) ?_
      refine l_store_whole (i := 1) hs rfl I53 rfl rfl (pl_len _ _ _) (pl_len 0 0 0) (pl_one _ _ _) ?_
      intro w_ hs
      refine l_v (by first | exact (r_assign (v := iV _) rfl) | exact (r_assign rfl)) ?_
      refine l_nil (nrm_then ?_)
      refine c_ret ?_
      show Fin _ _ _ _ _
      refine fin2c rfl rfl (run_loadVar_agg Try.underlying53 rfl I53 (pl_len _ _ _) (cells_whole (hs.at_ 1).1)) ?_
      exact ⟨rfl, ((hs.drop).drop.pull 2).drop⟩
  · have h1' : K.2 ≠ 0 := of_decide_eq_false h1
    have hX0 := hX0 h1'
    rw [hX0]
    rw [if_pos h1', if_pos h1']
    replace h1 := of_decide_eq_false h1
    refine c_skip (nrm_then ?_)
    refine c_seq ?_
    refine c_rseq ?_
    refine l_v (by first | exact (r_move (v := iV _) rfl) | exact (r_move rfl)) ?_
    refine l_v (r_neqi rfl rfl) ?_
    refine l_nil (nrm_then ?_)
    refine c_true rfl ((decide_eq_true h1')) ?_
    refine c_rseq ?_
    refine l_v (r_build (l := []) rfl bpl0) ?_
    refine l_v (by first | exact (r_move (v := iV _) rfl) | exact (r_move rfl)) ?_
    refine l_store_whole (i := 0) hs rfl I53 rfl rfl (pl_len _ _ _) (pl_len _ _ _) (pl_one _ _ _) ?_
    intro w_ hs
    refine l_v (by first | exact (r_assign (v := iV _) rfl) | exact (r_assign rfl)) ?_
    refine l_nil (nrm_then ?_)
    refine c_ret (ret_then ?_)
    show Fin _ _ _ _ _
    refine fin2c rfl rfl (run_loadVar_agg Try.underlying53 rfl I53 (pl_len _ _ _) (cells_whole (hs.at_ 0).1)) ?_
    exact ⟨rfl, hs.drop.drop⟩
end Go.Proofs.Ytiipibmliffghaa.Box
