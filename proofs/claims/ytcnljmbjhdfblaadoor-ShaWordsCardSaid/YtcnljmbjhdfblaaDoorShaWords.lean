/- The walk of the law ShaWords. -/
import Derived.Test.YtcnljmbjhdfblaaDoorShaAwake
namespace Go.Proofs.YtcnljmbjhdfblaaDoor.Sha
open Go Go.RowKit Go.Proofs.YtcnljmbjhdfblaaDoor.Eng
set_option linter.unusedVariables false
set_option maxRecDepth 100000
def sameW (a b : List UInt8) (n : Nat) : Bool := (List.range n).all fun i => decide (wordAt a i = wordAt b i)
theorem sameW_succ (a b : List UInt8) (n : Nat) : sameW a b (n + 1) = (sameW a b n && decide (wordAt a n = wordAt b n)) := by
  unfold sameW
  rw [List.range_succ, List.all_append]; simp
theorem word_bytes (k : List UInt8) (i : Nat) : (wordAt k i).toNat = (((k.getD (4 * i) 0).toNat * 256 + (k.getD (4 * i + 1) 0).toNat) * 256 + (k.getD (4 * i + 2) 0).toNat) * 256 + (k.getD (4 * i + 3) 0).toNat := by
  have h0 := (k.getD (4 * i) 0).toNat_lt
  have h1 := (k.getD (4 * i + 1) 0).toNat_lt
  have h2 := (k.getD (4 * i + 2) 0).toNat_lt
  have h3 := (k.getD (4 * i + 3) 0).toNat_lt
  unfold wordAt
  simp only [word, cat8_eq, Nat.add_zero, BitVec.toNat_add, BitVec.toNat_mul, BitVec.toNat_ofNat]
  generalize (k.getD (4 * i) 0).toNat = x0 at *
  generalize (k.getD (4 * i + 1) 0).toNat = x1 at *
  generalize (k.getD (4 * i + 2) 0).toNat = x2 at *
  generalize (k.getD (4 * i + 3) 0).toNat = x3 at *
  have e : (256 : BitVec 32).toNat = 256 := rfl
  have e0 : (0 : BitVec 32).toNat = 0 := rfl
  simp only [e, e0]
  omega
theorem words_all (a b : List UInt8) (ha : a.length = 32) (hb : b.length = 32) (h : sameW a b 8 = true) : a = b := by
  unfold sameW at h
  rw [List.all_eq_true] at h
  have key : ∀ j, j < 32 → a.getD j 0 = b.getD j 0 := by
    intro j hj
    have hi := of_decide_eq_true (h (j / 4) (List.mem_range.2 (by omega)))
    have e := congrArg BitVec.toNat hi
    rw [word_bytes, word_bytes] at e
    have hj4 : 4 * (j / 4) + j % 4 = j := by omega
    generalize j / 4 = i at *
    have a0 := (a.getD (4 * i) 0).toNat_lt
    have a1 := (a.getD (4 * i + 1) 0).toNat_lt
    have a2 := (a.getD (4 * i + 2) 0).toNat_lt
    have a3 := (a.getD (4 * i + 3) 0).toNat_lt
    have b0 := (b.getD (4 * i) 0).toNat_lt
    have b1 := (b.getD (4 * i + 1) 0).toNat_lt
    have b2 := (b.getD (4 * i + 2) 0).toNat_lt
    have b3 := (b.getD (4 * i + 3) 0).toNat_lt
    apply UInt8.toNat_inj.1
    rcases (by omega : j % 4 = 0 ∨ j % 4 = 1 ∨ j % 4 = 2 ∨ j % 4 = 3) with hm | hm | hm | hm
    · obtain rfl : j = 4 * i := by omega
      omega
    · obtain rfl : j = 4 * i + 1 := by omega
      omega
    · obtain rfl : j = 4 * i + 2 := by omega
      omega
    · obtain rfl : j = 4 * i + 3 := by omega
      omega
  apply List.ext_getElem (by omega)
  intro j h1 h2
  have := key j (by omega)
  rwa [List.getD_eq_getElem?_getD, List.getD_eq_getElem?_getD, List.getElem?_eq_getElem h1, List.getElem?_eq_getElem h2] at this
theorem words_eq (a b : List UInt8) (ha : a.length = 32) (hb : b.length = 32) : sameW a b 8 = decide (a = b) := by
  by_cases h : a = b
  · subst h
    rw [decide_eq_true rfl]
    unfold sameW
    simp
  · rw [decide_eq_false h]
    cases hs : sameW a b 8 with
    | false => rfl
    | true => exact absurd (words_all a b ha hb hs) h
set_option maxHeartbeats 2000000 in
theorem shaWords_walk (a : List UInt8) (ha : a.length = 32) (b : List UInt8) (hb' : b.length = 32) {w : World} (h0 : Ok0 w) :
    Calls Tryd.prog 4 #[kV a, kV b] w fun e w' => e = .returned (bV true) ∧ Below w.heap.size w w' := by
  have ha32 : (a.map u8V).length = 32 := (List.length_map u8V).trans ha
  have hb32 : (b.map u8V).length = 32 := (List.length_map u8V).trans hb'
  refine enter (P := Tryd.prog) Tryd.func4 rfl rfl ?_
  have hs := Sep.init w
  refine c_rseq ?_
  refine l_box hs rfl ?_
  intro b2 w2 hs hB2 hlt2
  refine l_box hs rfl ?_
  intro b3 w3 hs hB3 hlt3
  refine l_v (by first | exact (r_assign (v := bV _) rfl) | exact (r_assign rfl)) ?_
  refine l_nil (nrm_then ?_)
  refine c_rseq ?_
  refine l_v (by first | exact (r_assign (v := bV _) rfl) | exact (r_assign rfl)) ?_
  refine l_nil (nrm_then ?_)
  refine c_seq ?_
  refine c_rseq ?_
  refine l_v (by first | exact (r_assign (v := iV _) rfl) | exact (r_assign rfl)) ?_
  refine l_nil (nrm_then ?_)
  refine c_block ?_
  refine c_loopn [2, 3] (fun m f' w' => ∃ i, i + m = 8 ∧ f' 6 = iV (i : Int) ∧ f' 5 = bV (sameW a b i) ∧ Sep w w' [blk b3 (b.map u8V) 25, blk b2 (a.map u8V) 25]) ?_ ?_
  · exact ⟨8, 0, rfl, rfl, rfl, hs⟩
  · rintro m g w_ ⟨i, hi, h6, h5, hs⟩
    refine OkC.env ?_ (fixH (L := [(6, _), (5, _)]) ⟨h6, h5, trivial⟩)
    clear h6 h5
    refine c_seq ?_
    refine c_rseq ?_
    refine l_v (by first | exact (r_move (v := iV _) rfl) | exact (r_move rfl)) ?_
    refine l_v (r_lssi rfl rfl) ?_
    refine l_nil (nrm_then ?_)
    refine c_cond rfl (fun h => ?_) (fun h => ?_)
    · replace h := of_decide_eq_true h
      refine c_skip (nrm_then ?_)
      refine c_seq ?_
      refine c_block ?_
      refine c_seq ?_
      have hi8 : i < 8 := by have := h; omega
      have hbi : (-9223372036854775808 : Int) ≤ (i : Int) ∧ (i : Int) ≤ 9223372036854775807 := by omega
      refine c_mid [2, 3, 4, 6] ((fun f' w' => f' 5 = bV (sameW a b (i + 1)) ∧ Sep w w' [blk b3 (b.map u8V) 25, blk b2 (a.map u8V) 25])) ?_ ?_
      · skip
        have hss := sameW_succ a b i
        cases hsm : sameW a b i with
        | true =>
          rw [hsm, Bool.true_and] at hss
          refine c_float [4] 7 (by kernel_rfl) (by kernel_rfl) ?_
          intro hbF
          show OkF _ _ _ _ _ _ (_ :: _) 0 _ _
          refine f_v (fun wl hbl => by have hs := hs.below_ hbl; first | exact (r_move (v := bV _) rfl) | exact (r_move rfl)) ?_
          refine f_v (fun wl hbl => by have hs := hs.below_ hbl; first | exact (r_move (v := bV _) rfl) | exact (r_move rfl)) ?_
          refine f_vg (fun wl hbl => by have hs := hs.below_ hbl; first | exact (r_load_whole (i := 0) hs rfl Tryd.underlying25 I25 rfl (by first | assumption | (simp; done))) | exact (r_load_whole (i := 1) hs rfl Tryd.underlying25 I25 rfl (by first | assumption | (simp; done))) | exact (r_load_whole (i := 2) hs rfl Tryd.underlying25 I25 rfl (by first | assumption | (simp; done))) | exact (r_load_whole (i := 3) hs rfl Tryd.underlying25 I25 rfl (by first | assumption | (simp; done))) | exact (r_load_whole (i := 4) hs rfl Tryd.underlying25 I25 rfl (by first | assumption | (simp; done))) | exact (r_load_whole (i := 5) hs rfl Tryd.underlying25 I25 rfl (by first | assumption | (simp; done))) | exact (r_load_whole (i := 6) hs rfl Tryd.underlying25 I25 rfl (by first | assumption | (simp; done)))) rfl (rfl) ?_
          refine f_vg (fun wl hbl => by have hs := hs.below_ hbl; first | exact (r_move (v := iV _) rfl) | exact (r_move rfl)) rfl (rfl) ?_
          refine f_callg (r_call Tryd.func10 rfl rfl) rfl (rfl) ?_
          refine Calls.mono (word_c a ha i hbi _) ?_
          rintro e w_ ⟨rfl, hb⟩
          have hbF := hbF.trans (Below.mono hb hbF.size)
          refine ⟨_, rfl, hb, ?_⟩
          refine f_vg (fun wl hbl => by have hs := hs.below_ hbl; first | exact (r_load_whole (i := 0) hs rfl Tryd.underlying25 I25 rfl (by first | assumption | (simp; done))) | exact (r_load_whole (i := 1) hs rfl Tryd.underlying25 I25 rfl (by first | assumption | (simp; done))) | exact (r_load_whole (i := 2) hs rfl Tryd.underlying25 I25 rfl (by first | assumption | (simp; done))) | exact (r_load_whole (i := 3) hs rfl Tryd.underlying25 I25 rfl (by first | assumption | (simp; done))) | exact (r_load_whole (i := 4) hs rfl Tryd.underlying25 I25 rfl (by first | assumption | (simp; done))) | exact (r_load_whole (i := 5) hs rfl Tryd.underlying25 I25 rfl (by first | assumption | (simp; done))) | exact (r_load_whole (i := 6) hs rfl Tryd.underlying25 I25 rfl (by first | assumption | (simp; done)))) rfl (rfl) ?_
          refine f_vg (fun wl hbl => by have hs := hs.below_ hbl; first | exact (r_move (v := iV _) rfl) | exact (r_move rfl)) rfl (rfl) ?_
          refine f_nil ?_
          have hs := hs.below_ hbF
          show OkL _ _ _ _ (_ :: _) _ _
          refine l_callg (r_call Tryd.func10 rfl rfl) rfl (rfl) ?_
          refine Calls.mono (word_c b hb' i hbi _) ?_
          rintro e w_ ⟨rfl, hb⟩
          refine ⟨_, rfl, ?_⟩
          have hs := hs.below_ hb
          refine l_vg (r_eql32 rfl rfl) rfl (rfl) ?_
          refine l_v (r_pick_t rfl rfl rfl) ?_
          refine l_v (by first | exact (r_assign (v := bV _) rfl) | exact (r_assign rfl)) ?_
          refine l_nil (nrm_then ?_)
          refine And.intro (by refine ⟨?_, ?_, ?_, ?_, trivial⟩ <;> ((conv => lhs; whnf); (try conv => rhs; whnf))) ?_
          refine ⟨?_, hs⟩
          rw [hss, Int.emod_eq_of_lt (by omega) (by omega), Int.toNat_natCast]
          rfl
        | false =>
          rw [hsm, Bool.false_and] at hss
          refine c_float [4] 7 (by kernel_rfl) (by kernel_rfl) ?_
          intro hbF
          show OkF _ _ _ _ _ _ (_ :: _) 0 _ _
          refine f_v (fun wl hbl => by have hs := hs.below_ hbl; first | exact (r_move (v := bV _) rfl) | exact (r_move rfl)) ?_
          refine f_v (fun wl hbl => by have hs := hs.below_ hbl; first | exact (r_move (v := bV _) rfl) | exact (r_move rfl)) ?_
          refine f_no rfl (rfl) ?_
          refine f_no rfl (rfl) ?_
          refine f_no rfl (rfl) ?_
          refine f_no rfl (rfl) ?_
          refine f_no rfl (rfl) ?_
          refine f_nil ?_
          have hs := hs.below_ hbF
          show OkL _ _ _ _ (_ :: _) _ _
          refine l_no rfl (rfl) ?_
          refine l_no rfl (rfl) ?_
          refine l_v (r_pick_f rfl (rfl) rfl) ?_
          refine l_v (by first | exact (r_assign (v := bV _) rfl) | exact (r_assign rfl)) ?_
          refine l_nil (nrm_then ?_)
          refine And.intro (by refine ⟨?_, ?_, ?_, ?_, trivial⟩ <;> ((conv => lhs; whnf); (try conv => rhs; whnf))) ?_
          exact ⟨by rw [hss]; rfl, hs⟩
      · rintro g w_ ⟨h5, hs⟩
        show OkC _ _ _ _ _ _
        have hA : ((i : Int) + 8) % 8 = (i : Int) % 8 := by omega
        have hB : ((i : Int) - 8) % 8 = (i : Int) % 8 := by omega
        have hWA : decide (wordAt a ((i : Int) % 8).toNat ≠ wordAt a (((i : Int) + 8) % 8).toNat) = false := decide_eq_false (fun h => h (by rw [hA]))
        have hWB : decide (wordAt b ((i : Int) % 8).toNat ≠ wordAt b (((i : Int) - 8) % 8).toNat) = false := decide_eq_false (fun h => h (by rw [hB]))
        refine OkC.env ?_ (fixH (L := [(5, _)]) ⟨h5, trivial⟩)
        clear h5
        refine c_seq ?_
        refine c_float [11, 6, 2] 15 (by kernel_rfl) (by kernel_rfl) ?_
        intro hbF
        show OkF _ _ _ _ _ _ (_ :: _) 0 _ _
        refine f_v (fun wl hbl => by have hs := hs.below_ hbl; first | exact (r_load_whole (i := 0) hs rfl Tryd.underlying25 I25 rfl (by first | assumption | (simp; done))) | exact (r_load_whole (i := 1) hs rfl Tryd.underlying25 I25 rfl (by first | assumption | (simp; done))) | exact (r_load_whole (i := 2) hs rfl Tryd.underlying25 I25 rfl (by first | assumption | (simp; done))) | exact (r_load_whole (i := 3) hs rfl Tryd.underlying25 I25 rfl (by first | assumption | (simp; done))) | exact (r_load_whole (i := 4) hs rfl Tryd.underlying25 I25 rfl (by first | assumption | (simp; done))) | exact (r_load_whole (i := 5) hs rfl Tryd.underlying25 I25 rfl (by first | assumption | (simp; done))) | exact (r_load_whole (i := 6) hs rfl Tryd.underlying25 I25 rfl (by first | assumption | (simp; done)))) ?_
        refine f_v (fun wl hbl => by have hs := hs.below_ hbl; first | exact (r_move (v := iV _) rfl) | exact (r_move rfl)) ?_
        refine f_call (r_call Tryd.func10 rfl rfl) ?_
        refine Calls.mono (word_c a ha i hbi _) ?_
        rintro e w_ ⟨rfl, hb⟩
        have hbF := hbF.trans (Below.mono hb hbF.size)
        refine ⟨_, rfl, hb, ?_⟩
        refine f_v (fun wl hbl => by have hs := hs.below_ hbl; first | exact (r_load_whole (i := 0) hs rfl Tryd.underlying25 I25 rfl (by first | assumption | (simp; done))) | exact (r_load_whole (i := 1) hs rfl Tryd.underlying25 I25 rfl (by first | assumption | (simp; done))) | exact (r_load_whole (i := 2) hs rfl Tryd.underlying25 I25 rfl (by first | assumption | (simp; done))) | exact (r_load_whole (i := 3) hs rfl Tryd.underlying25 I25 rfl (by first | assumption | (simp; done))) | exact (r_load_whole (i := 4) hs rfl Tryd.underlying25 I25 rfl (by first | assumption | (simp; done))) | exact (r_load_whole (i := 5) hs rfl Tryd.underlying25 I25 rfl (by first | assumption | (simp; done))) | exact (r_load_whole (i := 6) hs rfl Tryd.underlying25 I25 rfl (by first | assumption | (simp; done)))) ?_
        refine f_v (fun wl hbl => by have hs := hs.below_ hbl; first | exact (r_move (v := iV _) rfl) | exact (r_move rfl)) ?_
        refine f_v (fun wl hbl => by have hs := hs.below_ hbl; exact (r_addi rfl rfl (by omega))) ?_
        refine f_call (r_call Tryd.func10 rfl rfl) ?_
        refine Calls.mono (word_c a ha (i + 8) (by omega) _) ?_
        rintro e w_ ⟨rfl, hb⟩
        have hbF := hbF.trans (Below.mono hb hbF.size)
        refine ⟨_, rfl, hb, ?_⟩
        refine f_v (fun wl hbl => by have hs := hs.below_ hbl; exact (r_neq32 rfl rfl)) ?_
        refine f_v (fun wl hbl => by have hs := hs.below_ hbl; first | exact (r_move (v := bV _) rfl) | exact (r_move rfl)) ?_
        refine f_vg (fun wl hbl => by have hs := hs.below_ hbl; first | exact (r_load_whole (i := 0) hs rfl Tryd.underlying25 I25 rfl (by first | assumption | (simp; done))) | exact (r_load_whole (i := 1) hs rfl Tryd.underlying25 I25 rfl (by first | assumption | (simp; done))) | exact (r_load_whole (i := 2) hs rfl Tryd.underlying25 I25 rfl (by first | assumption | (simp; done))) | exact (r_load_whole (i := 3) hs rfl Tryd.underlying25 I25 rfl (by first | assumption | (simp; done))) | exact (r_load_whole (i := 4) hs rfl Tryd.underlying25 I25 rfl (by first | assumption | (simp; done))) | exact (r_load_whole (i := 5) hs rfl Tryd.underlying25 I25 rfl (by first | assumption | (simp; done))) | exact (r_load_whole (i := 6) hs rfl Tryd.underlying25 I25 rfl (by first | assumption | (simp; done)))) rfl (hWA) ?_
        refine f_vg (fun wl hbl => by have hs := hs.below_ hbl; first | exact (r_move (v := iV _) rfl) | exact (r_move rfl)) rfl (hWA) ?_
        refine f_callg (r_call Tryd.func10 rfl rfl) rfl (hWA) ?_
        refine Calls.mono (word_c b hb' i hbi _) ?_
        rintro e w_ ⟨rfl, hb⟩
        have hbF := hbF.trans (Below.mono hb hbF.size)
        refine ⟨_, rfl, hb, ?_⟩
        refine f_vg (fun wl hbl => by have hs := hs.below_ hbl; first | exact (r_load_whole (i := 0) hs rfl Tryd.underlying25 I25 rfl (by first | assumption | (simp; done))) | exact (r_load_whole (i := 1) hs rfl Tryd.underlying25 I25 rfl (by first | assumption | (simp; done))) | exact (r_load_whole (i := 2) hs rfl Tryd.underlying25 I25 rfl (by first | assumption | (simp; done))) | exact (r_load_whole (i := 3) hs rfl Tryd.underlying25 I25 rfl (by first | assumption | (simp; done))) | exact (r_load_whole (i := 4) hs rfl Tryd.underlying25 I25 rfl (by first | assumption | (simp; done))) | exact (r_load_whole (i := 5) hs rfl Tryd.underlying25 I25 rfl (by first | assumption | (simp; done))) | exact (r_load_whole (i := 6) hs rfl Tryd.underlying25 I25 rfl (by first | assumption | (simp; done)))) rfl (hWA) ?_
        refine f_vg (fun wl hbl => by have hs := hs.below_ hbl; first | exact (r_move (v := iV _) rfl) | exact (r_move rfl)) rfl (hWA) ?_
        refine f_vg (fun wl hbl => by have hs := hs.below_ hbl; exact (r_subi rfl rfl (by omega))) rfl (hWA) ?_
        refine f_nil ?_
        have hs := hs.below_ hbF
        show OkL _ _ _ _ (_ :: _) _ _
        refine l_callg (r_call Tryd.func10 rfl rfl) rfl (hWA) ?_
        refine Calls.mono (word_c b hb' (i - 8) (by omega) _) ?_
        rintro e w_ ⟨rfl, hb⟩
        refine ⟨_, rfl, ?_⟩
        have hs := hs.below_ hb
        refine l_vg (r_neq32 rfl rfl) rfl (hWA) ?_
        refine l_v (r_pick_f rfl hWA rfl) ?_
        refine l_nil (nrm_then ?_)
        refine c_false rfl (hWB) ?_
        refine c_skip (nrm_block (nrm_then ?_))
        refine c_region ?_
        refine l_v (by first | exact (r_move (v := iV _) rfl) | exact (r_move rfl)) ?_
        refine l_v (r_addi rfl rfl (by omega)) ?_
        refine l_v (by first | exact (r_assign (v := iV _) rfl) | exact (r_assign rfl)) ?_
        refine l_nil (nrm_then ?_)
        refine And.intro (by refine ⟨?_, ?_, trivial⟩ <;> ((conv => lhs; whnf); (try conv => rhs; whnf))) ?_
        exact ⟨7 - i, by omega, i + 1, by omega, rfl, rfl, hs⟩
    · replace h := of_decide_eq_false h
      refine c_exit (ex_then (ex_then (ex_hit (nrm_then ?_))))
      refine c_rseq ?_
      obtain rfl : i = 8 := by omega
      have he := words_eq a b ha hb'
      refine l_call (r_call Tryd.func7 rfl rfl) ?_
      refine Calls.mono (awake_c _ (h0.sep hs)) ?_
      rintro e w_ ⟨rfl, hb⟩
      refine ⟨_, rfl, ?_⟩
      have hs := hs.below_ hb
      refine l_v (by first | exact (r_move (v := bV _) rfl) | exact (r_move rfl)) ?_
      refine l_vg (by first | exact (r_move (v := bV _) rfl) | exact (r_move rfl)) rfl (rfl) ?_
      refine l_vg (by first | exact (r_load_whole (i := 0) hs rfl Tryd.underlying25 I25 rfl (by first | assumption | (simp; done))) | exact (r_load_whole (i := 1) hs rfl Tryd.underlying25 I25 rfl (by first | assumption | (simp; done))) | exact (r_load_whole (i := 2) hs rfl Tryd.underlying25 I25 rfl (by first | assumption | (simp; done))) | exact (r_load_whole (i := 3) hs rfl Tryd.underlying25 I25 rfl (by first | assumption | (simp; done))) | exact (r_load_whole (i := 4) hs rfl Tryd.underlying25 I25 rfl (by first | assumption | (simp; done))) | exact (r_load_whole (i := 5) hs rfl Tryd.underlying25 I25 rfl (by first | assumption | (simp; done))) | exact (r_load_whole (i := 6) hs rfl Tryd.underlying25 I25 rfl (by first | assumption | (simp; done)))) rfl (rfl) ?_
      refine l_vg (by first | exact (r_load_whole (i := 0) hs rfl Tryd.underlying25 I25 rfl (by first | assumption | (simp; done))) | exact (r_load_whole (i := 1) hs rfl Tryd.underlying25 I25 rfl (by first | assumption | (simp; done))) | exact (r_load_whole (i := 2) hs rfl Tryd.underlying25 I25 rfl (by first | assumption | (simp; done))) | exact (r_load_whole (i := 3) hs rfl Tryd.underlying25 I25 rfl (by first | assumption | (simp; done))) | exact (r_load_whole (i := 4) hs rfl Tryd.underlying25 I25 rfl (by first | assumption | (simp; done))) | exact (r_load_whole (i := 5) hs rfl Tryd.underlying25 I25 rfl (by first | assumption | (simp; done))) | exact (r_load_whole (i := 6) hs rfl Tryd.underlying25 I25 rfl (by first | assumption | (simp; done)))) rfl (rfl) ?_
      refine l_vg (r_eqA (a := a) (b := b) Tryd.underlying25 Tryd.underlying5 I5 (by kernel_rfl) rfl rfl ha hb') rfl (rfl) ?_
      refine l_vg (r_eqlb Tryd.underlying4 rfl rfl) rfl (rfl) ?_
      refine l_v (r_pick_t rfl rfl rfl) ?_
      refine l_v (by first | exact (r_assign (v := bV _) rfl) | exact (r_assign rfl)) ?_
      refine l_nil (nrm_then ?_)
      refine c_ret ?_
      show Fin _ _ _ _ _
      refine fin1 rfl ?_
      refine ⟨congrArg Ending.returned (congrArg Value.bool ?_), hs.below⟩
      rw [he]
      simp
end Go.Proofs.YtcnljmbjhdfblaaDoor.Sha
