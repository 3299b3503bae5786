/- The walks of Less and the document's, and of the law ShaOrders. -/
import Derived.Test.YtcnljmbjhdfblaaDoorShaAwake
import Derived.Test.YtcnljmbjhdfblaaDoorMore
import Derived.OpenShut
namespace Go.Proofs.YtcnljmbjhdfblaaDoor.Sha
open Go Go.RowKit Go.Proofs.YtcnljmbjhdfblaaDoor.Eng
set_option linter.unusedVariables false
set_option maxRecDepth 100000
abbrev less (a b : List UInt8) : Bool := Op.bytesLess a b
theorem less_self : ∀ a : List UInt8, less a a = false
  | [] => rfl
  | x :: a => by
    show (decide (x < x) || (x == x && less a a)) = false
    rw [less_self a]; simp
theorem less_trans : ∀ {a b c : List UInt8}, less a b = true → less b c = true → less a c = true
  | a, [], c, h, _ => by cases a <;> cases h
  | a, _ :: _, [], _, h => by cases h
  | [], _ :: _, _ :: _, _, _ => rfl
  | x :: a, y :: b, z :: c, h1, h2 => by
    have h1' : (decide (x < y) || (x == y && less a b)) = true := h1
    have h2' : (decide (y < z) || (y == z && less b c)) = true := h2
    show (decide (x < z) || (x == z && less a c)) = true
    simp only [Bool.or_eq_true, decide_eq_true_eq, Bool.and_eq_true, beq_iff_eq] at h1' h2' ⊢
    clear h1 h2
    rcases h1' with h1 | ⟨rfl, h1⟩ <;> rcases h2' with h2 | ⟨rfl, h2⟩
    · exact .inl (UInt8.lt_trans h1 h2)
    · exact .inl h1
    · exact .inl h2
    · exact .inr ⟨rfl, less_trans h1 h2⟩
theorem less_tri : ∀ {a b : List UInt8}, less a b = false → less b a = false → a = b
  | [], [], _, _ => rfl
  | [], _ :: _, h, _ => by cases h
  | _ :: _, [], _, h => by cases h
  | x :: a, y :: b, h1, h2 => by
    have h1' : (decide (x < y) || (x == y && less a b)) = false := h1
    have h2' : (decide (y < x) || (y == x && less b a)) = false := h2
    simp only [Bool.or_eq_false_iff, decide_eq_false_iff_not, Bool.and_eq_false_iff, beq_eq_false_iff_ne] at *
    have e : x = y := UInt8.le_antisymm (UInt8.not_lt.1 h2'.1) (UInt8.not_lt.1 h1'.1)
    subst e
    rw [less_tri (h1'.2.resolve_left (fun h => h rfl)) (h2'.2.resolve_left (fun h => h rfl))]
theorem less_at : ∀ {a b : List UInt8} {i : Nat}, i < a.length → i < b.length → (∀ j, j < i → a.getD j 0 = b.getD j 0) → a.getD i 0 ≠ b.getD i 0 → less a b = decide (a.getD i 0 < b.getD i 0)
  | x :: a, y :: b, 0, _, _, _, h => by
    have h' : x ≠ y := h
    show (decide (x < y) || (x == y && less a b)) = decide (x < y)
    rw [beq_eq_false_iff_ne.2 h']; simp
  | x :: a, y :: b, i + 1, h1, h2, hj, h => by
    have e : x = y := hj 0 (by omega)
    subst e
    show (decide (x < x) || (x == x && less a b)) = decide (a.getD i 0 < b.getD i 0)
    rw [less_at (i := i) (by simpa using h1) (by simpa using h2) (fun j hj' => hj (j + 1) (by omega)) h]
    simp
theorem eq_getD {a b : List UInt8} (ha : a.length = b.length) (h : ∀ j, j < a.length → a.getD j 0 = b.getD j 0) : a = b := by
  apply List.ext_getElem ha
  intro j h1 h2
  have := h j h1
  rwa [List.getD_eq_getElem?_getD, List.getD_eq_getElem?_getD, List.getElem?_eq_getElem h1, List.getElem?_eq_getElem h2] at this
set_option maxHeartbeats 1000000 in
theorem less_c (a b : List UInt8) (ha : a.length = 32) (hb' : b.length = 32) (w : World) :
    Calls Tryd.prog 11 #[kV a, kV b] w fun e w' => e = .returned (bV (less a b)) ∧ Below w.heap.size w w' := by
  have ha32 : (a.map u8V).length = 32 := (List.length_map u8V).trans ha
  have hb32 : (b.map u8V).length = 32 := (List.length_map u8V).trans hb'
  refine enter (P := Tryd.prog) Tryd.func11 rfl rfl ?_
  have hs := Sep.init w
  refine c_rseq ?_
  refine l_box hs rfl ?_
  intro b2 w2 hs hB2 hlt2
  refine l_box hs rfl ?_
  intro b3 w3 hs hB3 hlt3
  refine l_v (by first | exact (r_assign (v := bV _) rfl) | exact (r_assign rfl)) ?_
  refine l_nil (nrm_then ?_)
  refine c_seq ?_
  refine c_float [] 4 (by kernel_rfl) (by kernel_rfl) ?_
  intro hbF
  show OkF _ _ _ _ _ _ (_ :: _) 0 _ _
  refine f_v (fun wl hbl => by have hs := hs.below_ hbl; exact (r_slice_all Tryd.underlying25 I5 rfl (by decide))) ?_
  refine f_v (fun wl hbl => by have hs := hs.below_ hbl; exact (r_cv_bs (l := a) Tryd.underlying50 Tryd.underlying5 Tryd.underlying9 rfl (rd_at (hs.at_ 1).1 ha32 (by decide)))) ?_
  refine f_v (fun wl hbl => by have hs := hs.below_ hbl; exact (r_slice_all Tryd.underlying25 I5 rfl (by decide))) ?_
  refine f_v (fun wl hbl => by have hs := hs.below_ hbl; exact (r_cv_bs (l := b) Tryd.underlying50 Tryd.underlying5 Tryd.underlying9 rfl (rd_at (hs.at_ 0).1 hb32 (by decide)))) ?_
  refine f_nil ?_
  have hs := hs.below_ hbF
  show OkL _ _ _ _ (_ :: _) _ _
  refine l_v (r_lsss rfl rfl) ?_
  refine l_v (by first | exact (r_assign (v := bV _) rfl) | exact (r_assign rfl)) ?_
  refine l_nil (nrm_then ?_)
  refine c_ret ?_
  show Fin _ _ _ _ _
  refine fin1 rfl ?_
  refine ⟨?_, hs.below⟩
  show Ending.returned (bV (Op.bytesLess (ofL a).toList (ofL b).toList)) = _
  rw [ByteArray.toList_eq, ByteArray.toList_eq]
set_option maxHeartbeats 1000000 in
theorem refless_c (a b : List UInt8) (ha : a.length = 32) (hb' : b.length = 32) (w : World) :
    Calls Tryd.prog 12 #[kV a, kV b] w fun e w' => e = .returned (bV (less a b)) ∧ Below w.heap.size w w' := by
  have ha32 : (a.map u8V).length = 32 := (List.length_map u8V).trans ha
  have hb32 : (b.map u8V).length = 32 := (List.length_map u8V).trans hb'
  refine enter (P := Tryd.prog) Tryd.func12 rfl rfl ?_
  have hs := Sep.init w
  refine c_rseq ?_
  refine l_box hs rfl ?_
  intro b2 w2 hs hB2 hlt2
  refine l_box hs rfl ?_
  intro b3 w3 hs hB3 hlt3
  refine l_v (by first | exact (r_assign (v := bV _) rfl) | exact (r_assign rfl)) ?_
  refine l_nil (nrm_then ?_)
  refine c_seq ?_
  refine c_rseq ?_
  refine l_v (by first | exact (r_assign (v := iV _) rfl) | exact (r_assign rfl)) ?_
  refine l_nil (nrm_then ?_)
  refine c_block ?_
  refine c_loopn [2, 3] (fun m f' w' => ∃ i, i + m = 32 ∧ f' 5 = iV (i : Int) ∧ (∀ j, j < i → a.getD j 0 = b.getD j 0) ∧ Sep w w' [blk b3 (b.map u8V) 25, blk b2 (a.map u8V) 25]) ?_ ?_
  · exact ⟨32, 0, rfl, rfl, fun j hj => by omega, hs⟩
  · rintro m g w_ ⟨i, hi, h5, hj, hs⟩
    refine OkC.env ?_ (fixH (L := [(5, _)]) ⟨h5, trivial⟩)
    clear h5
    refine c_seq ?_
    refine c_rseq ?_
    refine l_v (by first | exact (r_move (v := iV _) rfl) | exact (r_move rfl)) ?_
    refine l_v (r_lssi rfl rfl) ?_
    refine l_nil (nrm_then ?_)
    refine c_cond rfl (fun h => ?_) (fun h => ?_)
    · have hi32 : i < 32 := by have := of_decide_eq_true h; omega
      replace h := of_decide_eq_true h
      refine c_skip (nrm_then ?_)
      refine c_seq ?_
      refine c_block ?_
      refine c_seq ?_
      refine c_float [] 6 (by kernel_rfl) (by kernel_rfl) ?_
      intro hbF
      show OkF _ _ _ _ _ _ (_ :: _) 0 _ _
      refine f_v (fun wl hbl => by have hs := hs.below_ hbl; first | exact (r_move (v := iV _) rfl) | exact (r_move rfl)) ?_
      refine f_v (fun wl hbl => by have hs := hs.below_ hbl; first | exact (r_indexAddr_a0 Tryd.underlying25 I5 rfl rfl (by omega)) | exact (r_indexAddr_a Tryd.underlying25 I5 rfl rfl (by omega))) ?_
      refine f_v (fun wl hbl => by have hs := hs.below_ hbl; exact (r_load_at (i := 1) hs rfl Tryd.underlying5 rfl (r_getD a i (by omega)))) ?_
      refine f_v (fun wl hbl => by have hs := hs.below_ hbl; first | exact (r_move (v := iV _) rfl) | exact (r_move rfl)) ?_
      refine f_v (fun wl hbl => by have hs := hs.below_ hbl; first | exact (r_indexAddr_a0 Tryd.underlying25 I5 rfl rfl (by omega)) | exact (r_indexAddr_a Tryd.underlying25 I5 rfl rfl (by omega))) ?_
      refine f_v (fun wl hbl => by have hs := hs.below_ hbl; exact (r_load_at (i := 0) hs rfl Tryd.underlying5 rfl (r_getD b i (by omega)))) ?_
      refine f_nil ?_
      have hs := hs.below_ hbF
      show OkL _ _ _ _ (_ :: _) _ _
      refine l_v (r_neq8 rfl rfl) ?_
      refine l_nil (nrm_then ?_)
      refine c_cond rfl (fun h2 => ?_) (fun h2 => ?_)
      · replace h2 := of_decide_eq_true h2
        refine c_seq ?_
        refine c_float [] 6 (by kernel_rfl) (by kernel_rfl) ?_
        intro hbF
        show OkF _ _ _ _ _ _ (_ :: _) 0 _ _
        refine f_v (fun wl hbl => by have hs := hs.below_ hbl; first | exact (r_move (v := iV _) rfl) | exact (r_move rfl)) ?_
        refine f_v (fun wl hbl => by have hs := hs.below_ hbl; first | exact (r_indexAddr_a0 Tryd.underlying25 I5 rfl rfl (by omega)) | exact (r_indexAddr_a Tryd.underlying25 I5 rfl rfl (by omega))) ?_
        refine f_v (fun wl hbl => by have hs := hs.below_ hbl; exact (r_load_at (i := 1) hs rfl Tryd.underlying5 rfl (r_getD a i (by omega)))) ?_
        refine f_v (fun wl hbl => by have hs := hs.below_ hbl; first | exact (r_move (v := iV _) rfl) | exact (r_move rfl)) ?_
        refine f_v (fun wl hbl => by have hs := hs.below_ hbl; first | exact (r_indexAddr_a0 Tryd.underlying25 I5 rfl rfl (by omega)) | exact (r_indexAddr_a Tryd.underlying25 I5 rfl rfl (by omega))) ?_
        refine f_v (fun wl hbl => by have hs := hs.below_ hbl; exact (r_load_at (i := 0) hs rfl Tryd.underlying5 rfl (r_getD b i (by omega)))) ?_
        refine f_nil ?_
        have hs := hs.below_ hbF
        show OkL _ _ _ _ (_ :: _) _ _
        refine l_v (r_lss8 rfl rfl) ?_
        refine l_v (by first | exact (r_assign (v := bV _) rfl) | exact (r_assign rfl)) ?_
        refine l_nil (nrm_then ?_)
        refine c_ret (ret_block (ret_then (ret_then (ret_block (ret_then ?_)))))
        show Fin _ _ _ _ _
        refine fin1 rfl ?_
        refine ⟨congrArg Ending.returned (congrArg Value.bool ?_), hs.below⟩
        rw [less_at (by omega) (by omega) hj h2]; rfl
      · replace h2 := of_decide_eq_false h2
        refine c_skip (nrm_block (nrm_then ?_))
        refine c_region ?_
        refine l_v (by first | exact (r_move (v := iV _) rfl) | exact (r_move rfl)) ?_
        refine l_v (r_addi rfl rfl (by omega)) ?_
        refine l_v (by first | exact (r_assign (v := iV _) rfl) | exact (r_assign rfl)) ?_
        refine l_nil (nrm_then ?_)
        refine And.intro (by refine ⟨?_, ?_, trivial⟩ <;> ((conv => lhs; whnf); (try conv => rhs; whnf))) ?_
        refine ⟨31 - i, by omega, i + 1, by omega, rfl, fun j hj' => ?_, hs⟩
        by_cases hji : j < i
        · exact hj j hji
        · obtain rfl : j = i := by omega
          exact Classical.not_not.1 h2
    · replace h := of_decide_eq_false h
      refine c_exit (ex_then (ex_then (ex_hit (nrm_then ?_))))
      refine c_rseq ?_
      refine l_v (by first | exact (r_assign (v := bV _) rfl) | exact (r_assign rfl)) ?_
      refine l_nil (nrm_then ?_)
      obtain rfl : i = 32 := by omega
      refine c_ret ?_
      show Fin _ _ _ _ _
      refine fin1 rfl ?_
      have e := eq_getD (by rw [ha, hb']) (fun j h => hj j (by omega))
      refine ⟨congrArg Ending.returned (congrArg Value.bool ?_), hs.below⟩
      rw [e, less_self]
set_option maxHeartbeats 2000000 in
theorem shaOrders_walk (a : List UInt8) (ha : a.length = 32) (b : List UInt8) (hb' : b.length = 32) (c : List UInt8) (hc : c.length = 32) (n : Int) (hn : (Lit.int .i64 n).wf = true) {w : World} (h0 : Ok0 w) :
    Calls Tryd.prog 5 #[kV a, kV b, kV c, iV n] w fun e w' => e = .returned (bV true) ∧ Below w.heap.size w w' := by
  have ha32 : (a.map u8V).length = 32 := (List.length_map u8V).trans ha
  have hb32 : (b.map u8V).length = 32 := (List.length_map u8V).trans hb'
  have hc32 : (c.map u8V).length = 32 := (List.length_map u8V).trans hc
  have hn64 := bounds_i64 hn
  have h1 : (less a b != less a b) = false := by simp
  have h2 : decide (wordAt a (n % 8).toNat ≠ wordAt a (n % 8).toNat) = false := decide_eq_false (fun h => h rfl)
  have h3 := less_self a
  refine enter (P := Tryd.prog) Tryd.func5 rfl rfl ?_
  have hs := Sep.init w
  refine c_rseq ?_
  refine l_box hs rfl ?_
  intro b4 w4 hs hB4 hlt4
  refine l_box hs rfl ?_
  intro b5 w5 hs hB5 hlt5
  refine l_box hs rfl ?_
  intro b6 w6 hs hB6 hlt6
  refine l_v (by first | exact (r_assign (v := bV _) rfl) | exact (r_assign rfl)) ?_
  refine l_nil (nrm_then ?_)
  refine c_seq ?_
  refine c_seq ?_
  refine c_float [13, 10, 5, 2] 19 (by kernel_rfl) (by kernel_rfl) ?_
  intro hbF
  show OkF _ _ _ _ _ _ (_ :: _) 0 _ _
  refine f_v (fun wl hbl => by have hs := hs.below_ hbl; first | exact (r_load_whole (i := 0) hs rfl Tryd.underlying25 I25 rfl (by first | assumption | (simp; done))) | exact (r_load_whole (i := 1) hs rfl Tryd.underlying25 I25 rfl (by first | assumption | (simp; done))) | exact (r_load_whole (i := 2) hs rfl Tryd.underlying25 I25 rfl (by first | assumption | (simp; done))) | exact (r_load_whole (i := 3) hs rfl Tryd.underlying25 I25 rfl (by first | assumption | (simp; done))) | exact (r_load_whole (i := 4) hs rfl Tryd.underlying25 I25 rfl (by first | assumption | (simp; done))) | exact (r_load_whole (i := 5) hs rfl Tryd.underlying25 I25 rfl (by first | assumption | (simp; done))) | exact (r_load_whole (i := 6) hs rfl Tryd.underlying25 I25 rfl (by first | assumption | (simp; done)))) ?_
  refine f_v (fun wl hbl => by have hs := hs.below_ hbl; first | exact (r_load_whole (i := 0) hs rfl Tryd.underlying25 I25 rfl (by first | assumption | (simp; done))) | exact (r_load_whole (i := 1) hs rfl Tryd.underlying25 I25 rfl (by first | assumption | (simp; done))) | exact (r_load_whole (i := 2) hs rfl Tryd.underlying25 I25 rfl (by first | assumption | (simp; done))) | exact (r_load_whole (i := 3) hs rfl Tryd.underlying25 I25 rfl (by first | assumption | (simp; done))) | exact (r_load_whole (i := 4) hs rfl Tryd.underlying25 I25 rfl (by first | assumption | (simp; done))) | exact (r_load_whole (i := 5) hs rfl Tryd.underlying25 I25 rfl (by first | assumption | (simp; done))) | exact (r_load_whole (i := 6) hs rfl Tryd.underlying25 I25 rfl (by first | assumption | (simp; done)))) ?_
  refine f_call (r_call Tryd.func11 rfl rfl) ?_
  refine Calls.mono (less_c a b ha hb' _) ?_
  rintro e w_ ⟨rfl, hb⟩
  have hbF := hbF.trans (Below.mono hb hbF.size)
  refine ⟨_, rfl, hb, ?_⟩
  refine f_v (fun wl hbl => by have hs := hs.below_ hbl; first | exact (r_load_whole (i := 0) hs rfl Tryd.underlying25 I25 rfl (by first | assumption | (simp; done))) | exact (r_load_whole (i := 1) hs rfl Tryd.underlying25 I25 rfl (by first | assumption | (simp; done))) | exact (r_load_whole (i := 2) hs rfl Tryd.underlying25 I25 rfl (by first | assumption | (simp; done))) | exact (r_load_whole (i := 3) hs rfl Tryd.underlying25 I25 rfl (by first | assumption | (simp; done))) | exact (r_load_whole (i := 4) hs rfl Tryd.underlying25 I25 rfl (by first | assumption | (simp; done))) | exact (r_load_whole (i := 5) hs rfl Tryd.underlying25 I25 rfl (by first | assumption | (simp; done))) | exact (r_load_whole (i := 6) hs rfl Tryd.underlying25 I25 rfl (by first | assumption | (simp; done)))) ?_
  refine f_v (fun wl hbl => by have hs := hs.below_ hbl; first | exact (r_load_whole (i := 0) hs rfl Tryd.underlying25 I25 rfl (by first | assumption | (simp; done))) | exact (r_load_whole (i := 1) hs rfl Tryd.underlying25 I25 rfl (by first | assumption | (simp; done))) | exact (r_load_whole (i := 2) hs rfl Tryd.underlying25 I25 rfl (by first | assumption | (simp; done))) | exact (r_load_whole (i := 3) hs rfl Tryd.underlying25 I25 rfl (by first | assumption | (simp; done))) | exact (r_load_whole (i := 4) hs rfl Tryd.underlying25 I25 rfl (by first | assumption | (simp; done))) | exact (r_load_whole (i := 5) hs rfl Tryd.underlying25 I25 rfl (by first | assumption | (simp; done))) | exact (r_load_whole (i := 6) hs rfl Tryd.underlying25 I25 rfl (by first | assumption | (simp; done)))) ?_
  refine f_call (r_call Tryd.func12 rfl rfl) ?_
  refine Calls.mono (refless_c a b ha hb' _) ?_
  rintro e w_ ⟨rfl, hb⟩
  have hbF := hbF.trans (Below.mono hb hbF.size)
  refine ⟨_, rfl, hb, ?_⟩
  refine f_v (fun wl hbl => by have hs := hs.below_ hbl; exact (r_neqb Tryd.underlying4 rfl rfl)) ?_
  refine f_v (fun wl hbl => by have hs := hs.below_ hbl; first | exact (r_move (v := bV _) rfl) | exact (r_move rfl)) ?_
  refine f_vg (fun wl hbl => by have hs := hs.below_ hbl; first | exact (r_load_whole (i := 0) hs rfl Tryd.underlying25 I25 rfl (by first | assumption | (simp; done))) | exact (r_load_whole (i := 1) hs rfl Tryd.underlying25 I25 rfl (by first | assumption | (simp; done))) | exact (r_load_whole (i := 2) hs rfl Tryd.underlying25 I25 rfl (by first | assumption | (simp; done))) | exact (r_load_whole (i := 3) hs rfl Tryd.underlying25 I25 rfl (by first | assumption | (simp; done))) | exact (r_load_whole (i := 4) hs rfl Tryd.underlying25 I25 rfl (by first | assumption | (simp; done))) | exact (r_load_whole (i := 5) hs rfl Tryd.underlying25 I25 rfl (by first | assumption | (simp; done))) | exact (r_load_whole (i := 6) hs rfl Tryd.underlying25 I25 rfl (by first | assumption | (simp; done)))) rfl (h1) ?_
  refine f_vg (fun wl hbl => by have hs := hs.below_ hbl; first | exact (r_move (v := iV _) rfl) | exact (r_move rfl)) rfl (h1) ?_
  refine f_callg (r_call Tryd.func10 rfl rfl) rfl (h1) ?_
  refine Calls.mono (word_c a ha n hn64 _) ?_
  rintro e w_ ⟨rfl, hb⟩
  have hbF := hbF.trans (Below.mono hb hbF.size)
  refine ⟨_, rfl, hb, ?_⟩
  refine f_vg (fun wl hbl => by have hs := hs.below_ hbl; first | exact (r_load_whole (i := 0) hs rfl Tryd.underlying25 I25 rfl (by first | assumption | (simp; done))) | exact (r_load_whole (i := 1) hs rfl Tryd.underlying25 I25 rfl (by first | assumption | (simp; done))) | exact (r_load_whole (i := 2) hs rfl Tryd.underlying25 I25 rfl (by first | assumption | (simp; done))) | exact (r_load_whole (i := 3) hs rfl Tryd.underlying25 I25 rfl (by first | assumption | (simp; done))) | exact (r_load_whole (i := 4) hs rfl Tryd.underlying25 I25 rfl (by first | assumption | (simp; done))) | exact (r_load_whole (i := 5) hs rfl Tryd.underlying25 I25 rfl (by first | assumption | (simp; done))) | exact (r_load_whole (i := 6) hs rfl Tryd.underlying25 I25 rfl (by first | assumption | (simp; done)))) rfl (h1) ?_
  refine f_vg (fun wl hbl => by have hs := hs.below_ hbl; first | exact (r_move (v := iV _) rfl) | exact (r_move rfl)) rfl (h1) ?_
  refine f_callg (r_call Tryd.func13 rfl rfl) rfl (h1) ?_
  refine Calls.mono (refword_c a ha n _) ?_
  rintro e w_ ⟨rfl, hb⟩
  have hbF := hbF.trans (Below.mono hb hbF.size)
  refine ⟨_, rfl, hb, ?_⟩
  refine f_vg (fun wl hbl => by have hs := hs.below_ hbl; exact (r_neq32 rfl rfl)) rfl (h1) ?_
  refine f_v (fun wl hbl => by have hs := hs.below_ hbl; exact (r_pick_f rfl h1 rfl)) ?_
  refine f_v (fun wl hbl => by have hs := hs.below_ hbl; first | exact (r_move (v := bV _) rfl) | exact (r_move rfl)) ?_
  refine f_vg (fun wl hbl => by have hs := hs.below_ hbl; first | exact (r_load_whole (i := 0) hs rfl Tryd.underlying25 I25 rfl (by first | assumption | (simp; done))) | exact (r_load_whole (i := 1) hs rfl Tryd.underlying25 I25 rfl (by first | assumption | (simp; done))) | exact (r_load_whole (i := 2) hs rfl Tryd.underlying25 I25 rfl (by first | assumption | (simp; done))) | exact (r_load_whole (i := 3) hs rfl Tryd.underlying25 I25 rfl (by first | assumption | (simp; done))) | exact (r_load_whole (i := 4) hs rfl Tryd.underlying25 I25 rfl (by first | assumption | (simp; done))) | exact (r_load_whole (i := 5) hs rfl Tryd.underlying25 I25 rfl (by first | assumption | (simp; done))) | exact (r_load_whole (i := 6) hs rfl Tryd.underlying25 I25 rfl (by first | assumption | (simp; done)))) rfl (h2) ?_
  refine f_vg (fun wl hbl => by have hs := hs.below_ hbl; first | exact (r_load_whole (i := 0) hs rfl Tryd.underlying25 I25 rfl (by first | assumption | (simp; done))) | exact (r_load_whole (i := 1) hs rfl Tryd.underlying25 I25 rfl (by first | assumption | (simp; done))) | exact (r_load_whole (i := 2) hs rfl Tryd.underlying25 I25 rfl (by first | assumption | (simp; done))) | exact (r_load_whole (i := 3) hs rfl Tryd.underlying25 I25 rfl (by first | assumption | (simp; done))) | exact (r_load_whole (i := 4) hs rfl Tryd.underlying25 I25 rfl (by first | assumption | (simp; done))) | exact (r_load_whole (i := 5) hs rfl Tryd.underlying25 I25 rfl (by first | assumption | (simp; done))) | exact (r_load_whole (i := 6) hs rfl Tryd.underlying25 I25 rfl (by first | assumption | (simp; done)))) rfl (h2) ?_
  refine f_nil ?_
  have hs := hs.below_ hbF
  show OkL _ _ _ _ (_ :: _) _ _
  refine l_callg (r_call Tryd.func11 rfl rfl) rfl (h2) ?_
  refine Calls.mono (less_c a a ha ha _) ?_
  rintro e w_ ⟨rfl, hb⟩
  refine ⟨_, rfl, ?_⟩
  have hs := hs.below_ hb
  refine l_v (r_pick_f rfl h2 rfl) ?_
  refine l_nil (nrm_then ?_)
  refine c_false rfl (h3) ?_
  refine c_skip (nrm_then ?_)
  refine c_seq ?_
  refine c_rseq ?_
  refine l_v (by first | exact (r_load_whole (i := 0) hs rfl Tryd.underlying25 I25 rfl (by first | assumption | (simp; done))) | exact (r_load_whole (i := 1) hs rfl Tryd.underlying25 I25 rfl (by first | assumption | (simp; done))) | exact (r_load_whole (i := 2) hs rfl Tryd.underlying25 I25 rfl (by first | assumption | (simp; done))) | exact (r_load_whole (i := 3) hs rfl Tryd.underlying25 I25 rfl (by first | assumption | (simp; done))) | exact (r_load_whole (i := 4) hs rfl Tryd.underlying25 I25 rfl (by first | assumption | (simp; done))) | exact (r_load_whole (i := 5) hs rfl Tryd.underlying25 I25 rfl (by first | assumption | (simp; done))) | exact (r_load_whole (i := 6) hs rfl Tryd.underlying25 I25 rfl (by first | assumption | (simp; done)))) ?_
  refine l_v (by first | exact (r_load_whole (i := 0) hs rfl Tryd.underlying25 I25 rfl (by first | assumption | (simp; done))) | exact (r_load_whole (i := 1) hs rfl Tryd.underlying25 I25 rfl (by first | assumption | (simp; done))) | exact (r_load_whole (i := 2) hs rfl Tryd.underlying25 I25 rfl (by first | assumption | (simp; done))) | exact (r_load_whole (i := 3) hs rfl Tryd.underlying25 I25 rfl (by first | assumption | (simp; done))) | exact (r_load_whole (i := 4) hs rfl Tryd.underlying25 I25 rfl (by first | assumption | (simp; done))) | exact (r_load_whole (i := 5) hs rfl Tryd.underlying25 I25 rfl (by first | assumption | (simp; done))) | exact (r_load_whole (i := 6) hs rfl Tryd.underlying25 I25 rfl (by first | assumption | (simp; done)))) ?_
  rcases (Bool.eq_false_or_eq_true (less a b)).symm with hab | hab
  · have hnab : (!less a b) = true := by rw [hab]; rfl
    refine l_call (r_call Tryd.func11 rfl rfl) ?_
    refine Calls.mono (less_c a b ha hb' _) ?_
    rintro e w_ ⟨rfl, hb⟩
    refine ⟨_, rfl, ?_⟩
    have hs := hs.below_ hb
    refine l_v (by first | exact (r_move (v := bV _) rfl) | exact (r_move rfl)) ?_
    refine l_no rfl (hab) ?_
    refine l_no rfl (hab) ?_
    refine l_no rfl (hab) ?_
    refine l_v (r_pick_f rfl hab rfl) ?_
    refine l_v (by first | exact (r_move (v := bV _) rfl) | exact (r_move rfl)) ?_
    refine l_no rfl (rfl) ?_
    refine l_no rfl (rfl) ?_
    refine l_no rfl (rfl) ?_
    refine l_no rfl (rfl) ?_
    refine l_v (r_pick_f rfl rfl rfl) ?_
    refine l_nil (nrm_then ?_)
    refine c_false rfl (rfl) ?_
    refine c_skip (nrm_then ?_)
    refine c_seq ?_
    refine c_float [12, 7, 0] 15 (by kernel_rfl) (by kernel_rfl) ?_
    intro hbF
    show OkF _ _ _ _ _ _ (_ :: _) 0 _ _
    refine f_call (r_call Tryd.func7 rfl rfl) ?_
    refine Calls.mono (awake_c _ (h0.sep (hs.below_ hbF))) ?_
    rintro e w_ ⟨rfl, hb⟩
    have hbF := hbF.trans (Below.mono hb hbF.size)
    refine ⟨_, rfl, hb, ?_⟩
    refine f_v (fun wl hbl => by have hs := hs.below_ hbl; first | exact (r_move (v := bV _) rfl) | exact (r_move rfl)) ?_
    refine f_vg (fun wl hbl => by have hs := hs.below_ hbl; first | exact (r_load_whole (i := 0) hs rfl Tryd.underlying25 I25 rfl (by first | assumption | (simp; done))) | exact (r_load_whole (i := 1) hs rfl Tryd.underlying25 I25 rfl (by first | assumption | (simp; done))) | exact (r_load_whole (i := 2) hs rfl Tryd.underlying25 I25 rfl (by first | assumption | (simp; done))) | exact (r_load_whole (i := 3) hs rfl Tryd.underlying25 I25 rfl (by first | assumption | (simp; done))) | exact (r_load_whole (i := 4) hs rfl Tryd.underlying25 I25 rfl (by first | assumption | (simp; done))) | exact (r_load_whole (i := 5) hs rfl Tryd.underlying25 I25 rfl (by first | assumption | (simp; done))) | exact (r_load_whole (i := 6) hs rfl Tryd.underlying25 I25 rfl (by first | assumption | (simp; done)))) rfl (rfl) ?_
    refine f_vg (fun wl hbl => by have hs := hs.below_ hbl; first | exact (r_load_whole (i := 0) hs rfl Tryd.underlying25 I25 rfl (by first | assumption | (simp; done))) | exact (r_load_whole (i := 1) hs rfl Tryd.underlying25 I25 rfl (by first | assumption | (simp; done))) | exact (r_load_whole (i := 2) hs rfl Tryd.underlying25 I25 rfl (by first | assumption | (simp; done))) | exact (r_load_whole (i := 3) hs rfl Tryd.underlying25 I25 rfl (by first | assumption | (simp; done))) | exact (r_load_whole (i := 4) hs rfl Tryd.underlying25 I25 rfl (by first | assumption | (simp; done))) | exact (r_load_whole (i := 5) hs rfl Tryd.underlying25 I25 rfl (by first | assumption | (simp; done))) | exact (r_load_whole (i := 6) hs rfl Tryd.underlying25 I25 rfl (by first | assumption | (simp; done)))) rfl (rfl) ?_
    refine f_vg (fun wl hbl => by have hs := hs.below_ hbl; exact (r_eqA (a := a) (b := b) Tryd.underlying25 Tryd.underlying5 I5 (by kernel_rfl) rfl rfl ha hb')) rfl (rfl) ?_
    refine f_vg (fun wl hbl => by have hs := hs.below_ hbl; first | exact (r_load_whole (i := 0) hs rfl Tryd.underlying25 I25 rfl (by first | assumption | (simp; done))) | exact (r_load_whole (i := 1) hs rfl Tryd.underlying25 I25 rfl (by first | assumption | (simp; done))) | exact (r_load_whole (i := 2) hs rfl Tryd.underlying25 I25 rfl (by first | assumption | (simp; done))) | exact (r_load_whole (i := 3) hs rfl Tryd.underlying25 I25 rfl (by first | assumption | (simp; done))) | exact (r_load_whole (i := 4) hs rfl Tryd.underlying25 I25 rfl (by first | assumption | (simp; done))) | exact (r_load_whole (i := 5) hs rfl Tryd.underlying25 I25 rfl (by first | assumption | (simp; done))) | exact (r_load_whole (i := 6) hs rfl Tryd.underlying25 I25 rfl (by first | assumption | (simp; done)))) rfl (rfl) ?_
    refine f_vg (fun wl hbl => by have hs := hs.below_ hbl; first | exact (r_load_whole (i := 0) hs rfl Tryd.underlying25 I25 rfl (by first | assumption | (simp; done))) | exact (r_load_whole (i := 1) hs rfl Tryd.underlying25 I25 rfl (by first | assumption | (simp; done))) | exact (r_load_whole (i := 2) hs rfl Tryd.underlying25 I25 rfl (by first | assumption | (simp; done))) | exact (r_load_whole (i := 3) hs rfl Tryd.underlying25 I25 rfl (by first | assumption | (simp; done))) | exact (r_load_whole (i := 4) hs rfl Tryd.underlying25 I25 rfl (by first | assumption | (simp; done))) | exact (r_load_whole (i := 5) hs rfl Tryd.underlying25 I25 rfl (by first | assumption | (simp; done))) | exact (r_load_whole (i := 6) hs rfl Tryd.underlying25 I25 rfl (by first | assumption | (simp; done)))) rfl (rfl) ?_
    refine f_callg (r_call Tryd.func11 rfl rfl) rfl (rfl) ?_
    refine Calls.mono (less_c a b ha hb' _) ?_
    rintro e w_ ⟨rfl, hb⟩
    have hbF := hbF.trans (Below.mono hb hbF.size)
    refine ⟨_, rfl, hb, ?_⟩
    refine f_vg (fun wl hbl => by have hs := hs.below_ hbl; exact (r_not rfl)) rfl (rfl) ?_
    refine f_vg (fun wl hbl => by have hs := hs.below_ hbl; first | exact (r_move (v := bV _) rfl) | exact (r_move rfl)) rfl (rfl) ?_
    refine f_vg (fun wl hbl => by have hs := hs.below_ hbl; first | exact (r_load_whole (i := 0) hs rfl Tryd.underlying25 I25 rfl (by first | assumption | (simp; done))) | exact (r_load_whole (i := 1) hs rfl Tryd.underlying25 I25 rfl (by first | assumption | (simp; done))) | exact (r_load_whole (i := 2) hs rfl Tryd.underlying25 I25 rfl (by first | assumption | (simp; done))) | exact (r_load_whole (i := 3) hs rfl Tryd.underlying25 I25 rfl (by first | assumption | (simp; done))) | exact (r_load_whole (i := 4) hs rfl Tryd.underlying25 I25 rfl (by first | assumption | (simp; done))) | exact (r_load_whole (i := 5) hs rfl Tryd.underlying25 I25 rfl (by first | assumption | (simp; done))) | exact (r_load_whole (i := 6) hs rfl Tryd.underlying25 I25 rfl (by first | assumption | (simp; done)))) rfl (hnab) ?_
    refine f_vg (fun wl hbl => by have hs := hs.below_ hbl; first | exact (r_load_whole (i := 0) hs rfl Tryd.underlying25 I25 rfl (by first | assumption | (simp; done))) | exact (r_load_whole (i := 1) hs rfl Tryd.underlying25 I25 rfl (by first | assumption | (simp; done))) | exact (r_load_whole (i := 2) hs rfl Tryd.underlying25 I25 rfl (by first | assumption | (simp; done))) | exact (r_load_whole (i := 3) hs rfl Tryd.underlying25 I25 rfl (by first | assumption | (simp; done))) | exact (r_load_whole (i := 4) hs rfl Tryd.underlying25 I25 rfl (by first | assumption | (simp; done))) | exact (r_load_whole (i := 5) hs rfl Tryd.underlying25 I25 rfl (by first | assumption | (simp; done))) | exact (r_load_whole (i := 6) hs rfl Tryd.underlying25 I25 rfl (by first | assumption | (simp; done)))) rfl (hnab) ?_
    refine f_callg (r_call Tryd.func11 rfl rfl) rfl (hnab) ?_
    refine Calls.mono (less_c b a hb' ha _) ?_
    rintro e w_ ⟨rfl, hb⟩
    have hbF := hbF.trans (Below.mono hb hbF.size)
    refine ⟨_, rfl, hb, ?_⟩
    refine f_vg (fun wl hbl => by have hs := hs.below_ hbl; exact (r_not rfl)) rfl (hnab) ?_
    refine f_vg (fun wl hbl => by have hs := hs.below_ hbl; exact (r_pick_t rfl hnab rfl)) rfl (rfl) ?_
    refine f_nil ?_
    have hs := hs.below_ hbF
    show OkL _ _ _ _ (_ :: _) _ _
    refine l_vg (r_eqlb Tryd.underlying4 rfl rfl) rfl (rfl) ?_
    refine l_v (r_pick_t rfl rfl rfl) ?_
    refine l_v (by first | exact (r_assign (v := bV _) rfl) | exact (r_assign rfl)) ?_
    refine l_nil (nrm_then ?_)
    refine c_ret ?_
    show Fin _ _ _ _ _
    refine fin1 rfl ?_
    refine ⟨congrArg Ending.returned (congrArg Value.bool ?_), hs.below⟩
    cases hba : less b a with
    | false => rw [decide_eq_true (less_tri hab hba)]; rfl
    | true => rw [decide_eq_false (fun e => by subst e; rw [h3] at hba; cases hba)]; rfl
  · have hnab : (!less a b) = false := by rw [hab]; rfl
    have hne : ¬ a = b := fun e => by subst e; rw [h3] at hab; cases hab
    rcases (Bool.eq_false_or_eq_true (less b c)).symm with hbc | hbc
    · skip
      refine l_call (r_call Tryd.func11 rfl rfl) ?_
      refine Calls.mono (less_c a b ha hb' _) ?_
      rintro e w_ ⟨rfl, hb⟩
      refine ⟨_, rfl, ?_⟩
      have hs := hs.below_ hb
      refine l_v (by first | exact (r_move (v := bV _) rfl) | exact (r_move rfl)) ?_
      refine l_vg (by first | exact (r_load_whole (i := 0) hs rfl Tryd.underlying25 I25 rfl (by first | assumption | (simp; done))) | exact (r_load_whole (i := 1) hs rfl Tryd.underlying25 I25 rfl (by first | assumption | (simp; done))) | exact (r_load_whole (i := 2) hs rfl Tryd.underlying25 I25 rfl (by first | assumption | (simp; done))) | exact (r_load_whole (i := 3) hs rfl Tryd.underlying25 I25 rfl (by first | assumption | (simp; done))) | exact (r_load_whole (i := 4) hs rfl Tryd.underlying25 I25 rfl (by first | assumption | (simp; done))) | exact (r_load_whole (i := 5) hs rfl Tryd.underlying25 I25 rfl (by first | assumption | (simp; done))) | exact (r_load_whole (i := 6) hs rfl Tryd.underlying25 I25 rfl (by first | assumption | (simp; done)))) rfl (hab) ?_
      refine l_vg (by first | exact (r_load_whole (i := 0) hs rfl Tryd.underlying25 I25 rfl (by first | assumption | (simp; done))) | exact (r_load_whole (i := 1) hs rfl Tryd.underlying25 I25 rfl (by first | assumption | (simp; done))) | exact (r_load_whole (i := 2) hs rfl Tryd.underlying25 I25 rfl (by first | assumption | (simp; done))) | exact (r_load_whole (i := 3) hs rfl Tryd.underlying25 I25 rfl (by first | assumption | (simp; done))) | exact (r_load_whole (i := 4) hs rfl Tryd.underlying25 I25 rfl (by first | assumption | (simp; done))) | exact (r_load_whole (i := 5) hs rfl Tryd.underlying25 I25 rfl (by first | assumption | (simp; done))) | exact (r_load_whole (i := 6) hs rfl Tryd.underlying25 I25 rfl (by first | assumption | (simp; done)))) rfl (hab) ?_
      refine l_callg (r_call Tryd.func11 rfl rfl) rfl (hab) ?_
      refine Calls.mono (less_c b c hb' hc _) ?_
      rintro e w_ ⟨rfl, hb⟩
      refine ⟨_, rfl, ?_⟩
      have hs := hs.below_ hb
      refine l_v (r_pick_t rfl hab rfl) ?_
      refine l_v (by first | exact (r_move (v := bV _) rfl) | exact (r_move rfl)) ?_
      refine l_no rfl (hbc) ?_
      refine l_no rfl (hbc) ?_
      refine l_no rfl (hbc) ?_
      refine l_no rfl (hbc) ?_
      refine l_v (r_pick_f rfl hbc rfl) ?_
      refine l_nil (nrm_then ?_)
      refine c_false rfl (rfl) ?_
      refine c_skip (nrm_then ?_)
      refine c_seq ?_
      refine c_float [12, 7, 0] 15 (by kernel_rfl) (by kernel_rfl) ?_
      intro hbF
      show OkF _ _ _ _ _ _ (_ :: _) 0 _ _
      refine f_call (r_call Tryd.func7 rfl rfl) ?_
      refine Calls.mono (awake_c _ (h0.sep (hs.below_ hbF))) ?_
      rintro e w_ ⟨rfl, hb⟩
      have hbF := hbF.trans (Below.mono hb hbF.size)
      refine ⟨_, rfl, hb, ?_⟩
      refine f_v (fun wl hbl => by have hs := hs.below_ hbl; first | exact (r_move (v := bV _) rfl) | exact (r_move rfl)) ?_
      refine f_vg (fun wl hbl => by have hs := hs.below_ hbl; first | exact (r_load_whole (i := 0) hs rfl Tryd.underlying25 I25 rfl (by first | assumption | (simp; done))) | exact (r_load_whole (i := 1) hs rfl Tryd.underlying25 I25 rfl (by first | assumption | (simp; done))) | exact (r_load_whole (i := 2) hs rfl Tryd.underlying25 I25 rfl (by first | assumption | (simp; done))) | exact (r_load_whole (i := 3) hs rfl Tryd.underlying25 I25 rfl (by first | assumption | (simp; done))) | exact (r_load_whole (i := 4) hs rfl Tryd.underlying25 I25 rfl (by first | assumption | (simp; done))) | exact (r_load_whole (i := 5) hs rfl Tryd.underlying25 I25 rfl (by first | assumption | (simp; done))) | exact (r_load_whole (i := 6) hs rfl Tryd.underlying25 I25 rfl (by first | assumption | (simp; done)))) rfl (rfl) ?_
      refine f_vg (fun wl hbl => by have hs := hs.below_ hbl; first | exact (r_load_whole (i := 0) hs rfl Tryd.underlying25 I25 rfl (by first | assumption | (simp; done))) | exact (r_load_whole (i := 1) hs rfl Tryd.underlying25 I25 rfl (by first | assumption | (simp; done))) | exact (r_load_whole (i := 2) hs rfl Tryd.underlying25 I25 rfl (by first | assumption | (simp; done))) | exact (r_load_whole (i := 3) hs rfl Tryd.underlying25 I25 rfl (by first | assumption | (simp; done))) | exact (r_load_whole (i := 4) hs rfl Tryd.underlying25 I25 rfl (by first | assumption | (simp; done))) | exact (r_load_whole (i := 5) hs rfl Tryd.underlying25 I25 rfl (by first | assumption | (simp; done))) | exact (r_load_whole (i := 6) hs rfl Tryd.underlying25 I25 rfl (by first | assumption | (simp; done)))) rfl (rfl) ?_
      refine f_vg (fun wl hbl => by have hs := hs.below_ hbl; exact (r_eqA (a := a) (b := b) Tryd.underlying25 Tryd.underlying5 I5 (by kernel_rfl) rfl rfl ha hb')) rfl (rfl) ?_
      refine f_vg (fun wl hbl => by have hs := hs.below_ hbl; first | exact (r_load_whole (i := 0) hs rfl Tryd.underlying25 I25 rfl (by first | assumption | (simp; done))) | exact (r_load_whole (i := 1) hs rfl Tryd.underlying25 I25 rfl (by first | assumption | (simp; done))) | exact (r_load_whole (i := 2) hs rfl Tryd.underlying25 I25 rfl (by first | assumption | (simp; done))) | exact (r_load_whole (i := 3) hs rfl Tryd.underlying25 I25 rfl (by first | assumption | (simp; done))) | exact (r_load_whole (i := 4) hs rfl Tryd.underlying25 I25 rfl (by first | assumption | (simp; done))) | exact (r_load_whole (i := 5) hs rfl Tryd.underlying25 I25 rfl (by first | assumption | (simp; done))) | exact (r_load_whole (i := 6) hs rfl Tryd.underlying25 I25 rfl (by first | assumption | (simp; done)))) rfl (rfl) ?_
      refine f_vg (fun wl hbl => by have hs := hs.below_ hbl; first | exact (r_load_whole (i := 0) hs rfl Tryd.underlying25 I25 rfl (by first | assumption | (simp; done))) | exact (r_load_whole (i := 1) hs rfl Tryd.underlying25 I25 rfl (by first | assumption | (simp; done))) | exact (r_load_whole (i := 2) hs rfl Tryd.underlying25 I25 rfl (by first | assumption | (simp; done))) | exact (r_load_whole (i := 3) hs rfl Tryd.underlying25 I25 rfl (by first | assumption | (simp; done))) | exact (r_load_whole (i := 4) hs rfl Tryd.underlying25 I25 rfl (by first | assumption | (simp; done))) | exact (r_load_whole (i := 5) hs rfl Tryd.underlying25 I25 rfl (by first | assumption | (simp; done))) | exact (r_load_whole (i := 6) hs rfl Tryd.underlying25 I25 rfl (by first | assumption | (simp; done)))) rfl (rfl) ?_
      refine f_callg (r_call Tryd.func11 rfl rfl) rfl (rfl) ?_
      refine Calls.mono (less_c a b ha hb' _) ?_
      rintro e w_ ⟨rfl, hb⟩
      have hbF := hbF.trans (Below.mono hb hbF.size)
      refine ⟨_, rfl, hb, ?_⟩
      refine f_vg (fun wl hbl => by have hs := hs.below_ hbl; exact (r_not rfl)) rfl (rfl) ?_
      refine f_vg (fun wl hbl => by have hs := hs.below_ hbl; first | exact (r_move (v := bV _) rfl) | exact (r_move rfl)) rfl (rfl) ?_
      refine f_no rfl (hnab) ?_
      refine f_no rfl (hnab) ?_
      refine f_no rfl (hnab) ?_
      refine f_no rfl (hnab) ?_
      refine f_vg (fun wl hbl => by have hs := hs.below_ hbl; exact (r_pick_f rfl hnab rfl)) rfl (rfl) ?_
      refine f_nil ?_
      have hs := hs.below_ hbF
      show OkL _ _ _ _ (_ :: _) _ _
      refine l_vg (r_eqlb Tryd.underlying4 rfl rfl) rfl (rfl) ?_
      refine l_v (r_pick_t rfl rfl rfl) ?_
      refine l_v (by first | exact (r_assign (v := bV _) rfl) | exact (r_assign rfl)) ?_
      refine l_nil (nrm_then ?_)
      refine c_ret ?_
      show Fin _ _ _ _ _
      refine fin1 rfl ?_
      refine ⟨congrArg Ending.returned (congrArg Value.bool ?_), hs.below⟩
      rw [decide_eq_false hne]; rfl
    · skip
      have hac := less_trans hab hbc
      have hnac : (!less a c) = false := by rw [hac]; rfl
      refine l_call (r_call Tryd.func11 rfl rfl) ?_
      refine Calls.mono (less_c a b ha hb' _) ?_
      rintro e w_ ⟨rfl, hb⟩
      refine ⟨_, rfl, ?_⟩
      have hs := hs.below_ hb
      refine l_v (by first | exact (r_move (v := bV _) rfl) | exact (r_move rfl)) ?_
      refine l_vg (by first | exact (r_load_whole (i := 0) hs rfl Tryd.underlying25 I25 rfl (by first | assumption | (simp; done))) | exact (r_load_whole (i := 1) hs rfl Tryd.underlying25 I25 rfl (by first | assumption | (simp; done))) | exact (r_load_whole (i := 2) hs rfl Tryd.underlying25 I25 rfl (by first | assumption | (simp; done))) | exact (r_load_whole (i := 3) hs rfl Tryd.underlying25 I25 rfl (by first | assumption | (simp; done))) | exact (r_load_whole (i := 4) hs rfl Tryd.underlying25 I25 rfl (by first | assumption | (simp; done))) | exact (r_load_whole (i := 5) hs rfl Tryd.underlying25 I25 rfl (by first | assumption | (simp; done))) | exact (r_load_whole (i := 6) hs rfl Tryd.underlying25 I25 rfl (by first | assumption | (simp; done)))) rfl (hab) ?_
      refine l_vg (by first | exact (r_load_whole (i := 0) hs rfl Tryd.underlying25 I25 rfl (by first | assumption | (simp; done))) | exact (r_load_whole (i := 1) hs rfl Tryd.underlying25 I25 rfl (by first | assumption | (simp; done))) | exact (r_load_whole (i := 2) hs rfl Tryd.underlying25 I25 rfl (by first | assumption | (simp; done))) | exact (r_load_whole (i := 3) hs rfl Tryd.underlying25 I25 rfl (by first | assumption | (simp; done))) | exact (r_load_whole (i := 4) hs rfl Tryd.underlying25 I25 rfl (by first | assumption | (simp; done))) | exact (r_load_whole (i := 5) hs rfl Tryd.underlying25 I25 rfl (by first | assumption | (simp; done))) | exact (r_load_whole (i := 6) hs rfl Tryd.underlying25 I25 rfl (by first | assumption | (simp; done)))) rfl (hab) ?_
      refine l_callg (r_call Tryd.func11 rfl rfl) rfl (hab) ?_
      refine Calls.mono (less_c b c hb' hc _) ?_
      rintro e w_ ⟨rfl, hb⟩
      refine ⟨_, rfl, ?_⟩
      have hs := hs.below_ hb
      refine l_v (r_pick_t rfl hab rfl) ?_
      refine l_v (by first | exact (r_move (v := bV _) rfl) | exact (r_move rfl)) ?_
      refine l_vg (by first | exact (r_load_whole (i := 0) hs rfl Tryd.underlying25 I25 rfl (by first | assumption | (simp; done))) | exact (r_load_whole (i := 1) hs rfl Tryd.underlying25 I25 rfl (by first | assumption | (simp; done))) | exact (r_load_whole (i := 2) hs rfl Tryd.underlying25 I25 rfl (by first | assumption | (simp; done))) | exact (r_load_whole (i := 3) hs rfl Tryd.underlying25 I25 rfl (by first | assumption | (simp; done))) | exact (r_load_whole (i := 4) hs rfl Tryd.underlying25 I25 rfl (by first | assumption | (simp; done))) | exact (r_load_whole (i := 5) hs rfl Tryd.underlying25 I25 rfl (by first | assumption | (simp; done))) | exact (r_load_whole (i := 6) hs rfl Tryd.underlying25 I25 rfl (by first | assumption | (simp; done)))) rfl (hbc) ?_
      refine l_vg (by first | exact (r_load_whole (i := 0) hs rfl Tryd.underlying25 I25 rfl (by first | assumption | (simp; done))) | exact (r_load_whole (i := 1) hs rfl Tryd.underlying25 I25 rfl (by first | assumption | (simp; done))) | exact (r_load_whole (i := 2) hs rfl Tryd.underlying25 I25 rfl (by first | assumption | (simp; done))) | exact (r_load_whole (i := 3) hs rfl Tryd.underlying25 I25 rfl (by first | assumption | (simp; done))) | exact (r_load_whole (i := 4) hs rfl Tryd.underlying25 I25 rfl (by first | assumption | (simp; done))) | exact (r_load_whole (i := 5) hs rfl Tryd.underlying25 I25 rfl (by first | assumption | (simp; done))) | exact (r_load_whole (i := 6) hs rfl Tryd.underlying25 I25 rfl (by first | assumption | (simp; done)))) rfl (hbc) ?_
      refine l_callg (r_call Tryd.func11 rfl rfl) rfl (hbc) ?_
      refine Calls.mono (less_c a c ha hc _) ?_
      rintro e w_ ⟨rfl, hb⟩
      refine ⟨_, rfl, ?_⟩
      have hs := hs.below_ hb
      refine l_vg (r_not rfl) rfl (hbc) ?_
      refine l_v (r_pick_t rfl hbc rfl) ?_
      refine l_nil (nrm_then ?_)
      refine c_false rfl (hnac) ?_
      refine c_skip (nrm_then ?_)
      refine c_seq ?_
      refine c_float [12, 7, 0] 15 (by kernel_rfl) (by kernel_rfl) ?_
      intro hbF
      show OkF _ _ _ _ _ _ (_ :: _) 0 _ _
      refine f_call (r_call Tryd.func7 rfl rfl) ?_
      refine Calls.mono (awake_c _ (h0.sep (hs.below_ hbF))) ?_
      rintro e w_ ⟨rfl, hb⟩
      have hbF := hbF.trans (Below.mono hb hbF.size)
      refine ⟨_, rfl, hb, ?_⟩
      refine f_v (fun wl hbl => by have hs := hs.below_ hbl; first | exact (r_move (v := bV _) rfl) | exact (r_move rfl)) ?_
      refine f_vg (fun wl hbl => by have hs := hs.below_ hbl; first | exact (r_load_whole (i := 0) hs rfl Tryd.underlying25 I25 rfl (by first | assumption | (simp; done))) | exact (r_load_whole (i := 1) hs rfl Tryd.underlying25 I25 rfl (by first | assumption | (simp; done))) | exact (r_load_whole (i := 2) hs rfl Tryd.underlying25 I25 rfl (by first | assumption | (simp; done))) | exact (r_load_whole (i := 3) hs rfl Tryd.underlying25 I25 rfl (by first | assumption | (simp; done))) | exact (r_load_whole (i := 4) hs rfl Tryd.underlying25 I25 rfl (by first | assumption | (simp; done))) | exact (r_load_whole (i := 5) hs rfl Tryd.underlying25 I25 rfl (by first | assumption | (simp; done))) | exact (r_load_whole (i := 6) hs rfl Tryd.underlying25 I25 rfl (by first | assumption | (simp; done)))) rfl (rfl) ?_
      refine f_vg (fun wl hbl => by have hs := hs.below_ hbl; first | exact (r_load_whole (i := 0) hs rfl Tryd.underlying25 I25 rfl (by first | assumption | (simp; done))) | exact (r_load_whole (i := 1) hs rfl Tryd.underlying25 I25 rfl (by first | assumption | (simp; done))) | exact (r_load_whole (i := 2) hs rfl Tryd.underlying25 I25 rfl (by first | assumption | (simp; done))) | exact (r_load_whole (i := 3) hs rfl Tryd.underlying25 I25 rfl (by first | assumption | (simp; done))) | exact (r_load_whole (i := 4) hs rfl Tryd.underlying25 I25 rfl (by first | assumption | (simp; done))) | exact (r_load_whole (i := 5) hs rfl Tryd.underlying25 I25 rfl (by first | assumption | (simp; done))) | exact (r_load_whole (i := 6) hs rfl Tryd.underlying25 I25 rfl (by first | assumption | (simp; done)))) rfl (rfl) ?_
      refine f_vg (fun wl hbl => by have hs := hs.below_ hbl; exact (r_eqA (a := a) (b := b) Tryd.underlying25 Tryd.underlying5 I5 (by kernel_rfl) rfl rfl ha hb')) rfl (rfl) ?_
      refine f_vg (fun wl hbl => by have hs := hs.below_ hbl; first | exact (r_load_whole (i := 0) hs rfl Tryd.underlying25 I25 rfl (by first | assumption | (simp; done))) | exact (r_load_whole (i := 1) hs rfl Tryd.underlying25 I25 rfl (by first | assumption | (simp; done))) | exact (r_load_whole (i := 2) hs rfl Tryd.underlying25 I25 rfl (by first | assumption | (simp; done))) | exact (r_load_whole (i := 3) hs rfl Tryd.underlying25 I25 rfl (by first | assumption | (simp; done))) | exact (r_load_whole (i := 4) hs rfl Tryd.underlying25 I25 rfl (by first | assumption | (simp; done))) | exact (r_load_whole (i := 5) hs rfl Tryd.underlying25 I25 rfl (by first | assumption | (simp; done))) | exact (r_load_whole (i := 6) hs rfl Tryd.underlying25 I25 rfl (by first | assumption | (simp; done)))) rfl (rfl) ?_
      refine f_vg (fun wl hbl => by have hs := hs.below_ hbl; first | exact (r_load_whole (i := 0) hs rfl Tryd.underlying25 I25 rfl (by first | assumption | (simp; done))) | exact (r_load_whole (i := 1) hs rfl Tryd.underlying25 I25 rfl (by first | assumption | (simp; done))) | exact (r_load_whole (i := 2) hs rfl Tryd.underlying25 I25 rfl (by first | assumption | (simp; done))) | exact (r_load_whole (i := 3) hs rfl Tryd.underlying25 I25 rfl (by first | assumption | (simp; done))) | exact (r_load_whole (i := 4) hs rfl Tryd.underlying25 I25 rfl (by first | assumption | (simp; done))) | exact (r_load_whole (i := 5) hs rfl Tryd.underlying25 I25 rfl (by first | assumption | (simp; done))) | exact (r_load_whole (i := 6) hs rfl Tryd.underlying25 I25 rfl (by first | assumption | (simp; done)))) rfl (rfl) ?_
      refine f_callg (r_call Tryd.func11 rfl rfl) rfl (rfl) ?_
      refine Calls.mono (less_c a b ha hb' _) ?_
      rintro e w_ ⟨rfl, hb⟩
      have hbF := hbF.trans (Below.mono hb hbF.size)
      refine ⟨_, rfl, hb, ?_⟩
      refine f_vg (fun wl hbl => by have hs := hs.below_ hbl; exact (r_not rfl)) rfl (rfl) ?_
      refine f_vg (fun wl hbl => by have hs := hs.below_ hbl; first | exact (r_move (v := bV _) rfl) | exact (r_move rfl)) rfl (rfl) ?_
      refine f_no rfl (hnab) ?_
      refine f_no rfl (hnab) ?_
      refine f_no rfl (hnab) ?_
      refine f_no rfl (hnab) ?_
      refine f_vg (fun wl hbl => by have hs := hs.below_ hbl; exact (r_pick_f rfl hnab rfl)) rfl (rfl) ?_
      refine f_nil ?_
      have hs := hs.below_ hbF
      show OkL _ _ _ _ (_ :: _) _ _
      refine l_vg (r_eqlb Tryd.underlying4 rfl rfl) rfl (rfl) ?_
      refine l_v (r_pick_t rfl rfl rfl) ?_
      refine l_v (by first | exact (r_assign (v := bV _) rfl) | exact (r_assign rfl)) ?_
      refine l_nil (nrm_then ?_)
      refine c_ret ?_
      show Fin _ _ _ _ _
      refine fin1 rfl ?_
      refine ⟨congrArg Ending.returned (congrArg Value.bool ?_), hs.below⟩
      rw [decide_eq_false hne]; rfl
end Go.Proofs.YtcnljmbjhdfblaaDoor.Sha
