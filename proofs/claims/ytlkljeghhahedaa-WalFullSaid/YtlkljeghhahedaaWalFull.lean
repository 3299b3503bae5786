/- The walk of the law WalFull. -/
import Derived.Test.YtlkljeghhahedaaWalLog
import Derived.Test.YtlkljeghhahedaaWalRSplit
namespace Go.Proofs.Ytlkljeghhahedaa.Wal
open Go Go.RowKit Go.Proofs.Ytlkljeghhahedaa.Eng Go.Proofs.Ytlkljeghhahedaa.Six Go.Proofs.Ytlkljeghhahedaa.CrcFn Go.Proofs.Ytlkljeghhahedaa.Dsk
set_option linter.unusedVariables false
set_option maxRecDepth 100000
set_option maxHeartbeats 16000000 in
theorem full_main (A : Option Addr) (c : Nat) (xs : List (List UInt8)) (x8 : UInt8) (w : World) (hr : Rd w 1 A xs.length (xV xs)) (hcap : xs.length ≤ c) :
    Calls Try.prog 6 #[.slice A xs.length c, u8V x8] w fun e w' => e = .returned (bV true) ∧ Below w.heap.size w w' := by
  have hn := hr.2.1
  have hx8 := x8.toNat_lt
  refine enter (P := Try.prog) Try.func6 rfl rfl ?_
  have hs := Sep.init w
  refine c_rseq ?_
  refine l_v (by first | exact (r_assign (v := bV _) rfl) | exact (r_assign rfl)) ?_
  refine l_nil (nrm_then ?_)
  refine c_seq ?_
  refine c_rseq ?_
  refine l_call (r_call Try.func9 rfl rfl) ?_
  refine Calls.mono (awake_c _) ?_
  rintro e w_ ⟨rfl, hb⟩
  refine ⟨_, rfl, ?_⟩
  have hs := hs.below_ hb
  refine l_v (r_not rfl) ?_
  refine l_v (by first | exact (r_move (v := bV _) rfl) | exact (r_move rfl)) ?_
  refine l_vg (by first | exact (r_move (v := .slice _ _ _) rfl) | exact (r_move rfl)) rfl (rfl) ?_
  refine l_callg (r_call Try.func10 rfl rfl) rfl (rfl) ?_
  refine Calls.mono (few_c A c xs _ (hr.below hs.below)) ?_
  rintro e w_ ⟨bf, rfl, hfew, hb2⟩
  refine ⟨_, rfl, ?_⟩
  have hs := hs.below_ hb2
  refine l_vg (r_not rfl) rfl (rfl) ?_
  refine l_v (r_pick_f rfl rfl rfl) ?_
  refine l_v (by first | exact (r_move (v := bV _) rfl) | exact (r_move rfl)) ?_
  rcases Bool.eq_false_or_eq_true bf with hbf | hbf
  · have f : (!bf) = false := by rw [hbf]; rfl
    obtain ⟨hl2, hx3, hz3⟩ := hfew hbf
    have hx : ∀ x ∈ xs, x.length ≤ 1048576 := fun x hm => Nat.le_trans (hx3 x hm) (by decide)
    have hEn : EE xs xs.length ≤ 33000 := by have := (EE_bound hx (Nat.le_refl _)).2; omega
    refine l_vg (by first | exact (r_move (v := .slice _ _ _) rfl) | exact (r_move rfl)) rfl (f) ?_
    refine l_vg (r_len_l Try.underlying22 rfl) rfl (f) ?_
    refine l_vg (r_eqli rfl rfl) rfl (f) ?_
    refine l_v (r_pick_f rfl f rfl) ?_
    refine l_nil (nrm_then ?_)
    refine c_cond rfl (fun h0 => ?_) (fun h0 => ?_)
    · replace h0 := of_decide_eq_true h0
      refine c_rseq ?_
      refine l_call (r_call Try.func9 rfl rfl) ?_
      refine Calls.mono (awake_c _) ?_
      rintro e w_ ⟨rfl, hb⟩
      refine ⟨_, rfl, ?_⟩
      have hs := hs.below_ hb
      refine l_v (by first | exact (r_assign (v := bV _) rfl) | exact (r_assign rfl)) ?_
      refine l_nil (nrm_then ?_)
      refine c_ret (ret_then ?_)
      show Fin _ _ _ _ _
      refine fin1 rfl ?_
      exact ⟨rfl, hs.below⟩
    · have h0' : xs ≠ [] := fun h => (of_decide_eq_false h0) (by rw [h]; rfl)
      replace h0 := of_decide_eq_false h0
      refine c_skip (nrm_then ?_)
      refine c_rseq ?_
      refine l_v (by first | exact (r_move (v := u8V _) rfl) | exact (r_move rfl)) ?_
      refine l_v (r_cv_8i Try.underlying5 Try.underlying3 rfl) ?_
      refine l_v (r_addi rfl rfl (by omega)) ?_
      refine l_call (r_call Try.func17 rfl rfl) ?_
      refine Calls.mono (new_ok (1 + (x8.toNat : Int)) 0 (by omega) w _ _ hs) ?_
      rintro e w_ ⟨b, rfl, hs⟩
      refine ⟨_, rfl, ?_⟩
      refine l_v (r_move rfl) ?_
      refine l_v (r_extract rfl rfl) ?_
      refine l_v (r_extract rfl rfl) ?_
      refine l_v (r_assign (v := .pointer _) rfl) ?_
      refine l_v (by first | exact (r_assign (v := iV _) rfl) | exact (r_assign rfl)) ?_
      refine l_nil (nrm_then ?_)
      refine c_rseq ?_
      refine l_v (r_move (v := .pointer _) rfl) ?_
      have hm := make_new (hot := 1 + (x8.toNat : Int)) (cold := 0) (by omega)
      have hg0 := good_new (hot := 1 + (x8.toNat : Int)) (cold := 0) (by omega) (by decide)
      have hg1 := good_one (hot := 1 + (x8.toNat : Int)) (cold := 0) (by omega) (by decide)
      refine l_call (r_call Try.func21 rfl rfl) ?_
      refine Calls.mono (begin_c b (newS (1 + (x8.toNat : Int)) 0) hg0 (show (0 : Int) ≤ 4611686018427387904 by decide) 0 1 w _ _ hs) ?_
      rintro e w_ ⟨q, rfl, hq, hs⟩
      refine ⟨_, rfl, ?_⟩
      rw [hm] at hs hq ⊢
      obtain ⟨bl, rfl⟩ : ∃ bl, q = some bl := by
        cases q with
        | none => exact absurd (hq.1 rfl) (fun h => h rfl)
        | some bl => exact ⟨bl, rfl⟩
      have hs : Eng.Sep w w_ (logH bl b 1 [] 0 0 :: diskH b (oneS (1 + (x8.toNat : Int)) 0 ⟨0, [], -1⟩ 1 1) :: []) := hs
      refine l_v (r_move rfl) ?_
      refine l_v (r_extract rfl rfl) ?_
      refine l_v (r_extract rfl rfl) ?_
      refine l_v (r_assign (v := .pointer _) rfl) ?_
      refine l_v (by first | exact (r_assign (v := iV _) rfl) | exact (r_assign rfl)) ?_
      refine l_nil (nrm_then ?_)
      refine c_seq ?_
      refine c_rseq ?_
      refine l_v (by first | exact (r_move (v := iV _) rfl) | exact (r_move rfl)) ?_
      refine l_v (r_neqi rfl rfl) ?_
      refine l_nil (nrm_then ?_)
      refine c_false rfl (rfl) ?_
      refine c_skip (nrm_then ?_)
      refine c_rseq ?_
      refine l_v (by first | exact (r_assign (v := sV _) rfl) | exact (r_assign rfl)) ?_
      refine l_nil (nrm_then ?_)
      refine c_seq ?_
      refine c_rseq ?_
      refine l_v (by first | exact (r_assign (v := iV _) rfl) | exact (r_assign rfl)) ?_
      refine l_nil (nrm_then ?_)
      refine c_block ?_
      refine c_loopn [0, 1, 5, 7] (fun m f' w' => ∃ i, i + m = xs.length ∧ f' 10 = iV (i : Int) ∧ f' 9 = sV (ofL (FF xs i)) ∧ Eng.Sep w w' (logH bl b 1 (xs.take i) 0 0 :: diskH b (oneS (1 + (x8.toNat : Int)) 0 ⟨0, [], -1⟩ 1 1) :: [])) ?_ ?_
      · exact ⟨xs.length, 0, by omega, rfl, rfl, hs⟩
      · rintro m g w_ ⟨i, hi, h10, h9, hs⟩
        refine OkC.env ?_ (fixH (L := [(10, _), (9, _)]) ⟨h10, h9, trivial⟩)
        clear h10 h9
        refine c_seq ?_
        refine c_rseq ?_
        refine l_v (by first | exact (r_move (v := iV _) rfl) | exact (r_move rfl)) ?_
        refine l_v (by first | exact (r_move (v := .slice _ _ _) rfl) | exact (r_move rfl)) ?_
        refine l_v (r_len_l Try.underlying22 rfl) ?_
        refine l_v (r_lssi rfl rfl) ?_
        refine l_nil (nrm_then ?_)
        refine c_cond rfl (fun h1 => ?_) (fun h1 => ?_)
        · have hil : i < xs.length := by have := of_decide_eq_true h1; omega
          have hu := xV_get hil
          obtain ⟨ad, rfl, _⟩ := hr.ad (by omega)
          have hFn := FF_next hil
          have hEi := EE_next hil
          have hEm := EE_mono (xs := xs) (i := i + 1) (n := xs.length) (by omega)
          have htn := take_next hil
          have hx1 := hx3 _ (List.getElem_mem hil)
          have hlt : (xs.take i).length ≤ 100000 := by rw [List.length_take]; omega
          generalize xs[i] = x at *
          replace h1 := of_decide_eq_true h1
          refine c_skip (nrm_then ?_)
          refine c_seq ?_
          refine c_block ?_
          refine c_seq ?_
          refine c_rseq ?_
          refine l_v (r_move (v := .pointer _) rfl) ?_
          refine l_v (by first | exact (r_move (v := .slice _ _ _) rfl) | exact (r_move rfl)) ?_
          refine l_v (by first | exact (r_move (v := iV _) rfl) | exact (r_move rfl)) ?_
          refine l_v (by first | exact (r_indexAddr_o1 Try.underlying22 I9 rfl rfl (by omega)) | exact (r_indexAddr_l1 Try.underlying22 I9 rfl rfl (by omega)) | exact (r_indexAddr_l Try.underlying22 I9 rfl rfl (by omega))) ?_
          refine l_v (r_load Try.underlying9 rfl (rd_get hr hs.below hu)) ?_
          refine l_call (r_call Try.func22 rfl rfl) ?_
          refine Calls.mono (ladd_c bl b 1 (xs.take i) 0 0 x (by omega) hlt w _ _ hs) ?_
          rintro e w_ ⟨rfl, hs⟩
          refine ⟨_, rfl, ?_⟩
          rw [← htn] at hs
          refine l_v (r_neqi rfl rfl) ?_
          refine l_nil (nrm_then ?_)
          refine c_false rfl (rfl) ?_
          refine c_skip (nrm_then ?_)
          refine c_region ?_
          refine l_v (by first | exact (r_move (v := sV _) rfl) | exact (r_move rfl)) ?_
          refine l_v (by first | exact (r_move (v := .slice _ _ _) rfl) | exact (r_move rfl)) ?_
          refine l_v (by first | exact (r_move (v := iV _) rfl) | exact (r_move rfl)) ?_
          refine l_v (by first | exact (r_indexAddr_o1 Try.underlying22 I9 rfl rfl (by omega)) | exact (r_indexAddr_l1 Try.underlying22 I9 rfl rfl (by omega)) | exact (r_indexAddr_l Try.underlying22 I9 rfl rfl (by omega))) ?_
          refine l_v (r_load Try.underlying9 rfl (rd_get hr hs.below hu)) ?_
          refine l_call (r_call Try.func23 rfl rfl) ?_
          refine Calls.mono (rframe_c (ofL x) (by show x.length ≤ _; omega) _) ?_
          rintro e w_ ⟨rfl, hb3⟩
          refine ⟨_, rfl, ?_⟩
          have hs := hs.below_ hb3
          rw [Eng.toL_ofL]
          have hsz1 : (ofL (FF xs i)).size = EE xs i := rfl
          have hsz2 : (ofL (frame x)).size = (frame x).length := rfl
          refine l_v (r_adds rfl rfl (by omega)) ?_
          refine l_v (by first | exact (r_assign (v := sV _) rfl) | exact (r_assign rfl)) ?_
          refine l_nil (nrm_block (nrm_then ?_))
          refine c_region ?_
          refine l_v (by first | exact (r_move (v := iV _) rfl) | exact (r_move rfl)) ?_
          refine l_v (r_addi rfl rfl (by omega)) ?_
          refine l_v (by first | exact (r_assign (v := iV _) rfl) | exact (r_assign rfl)) ?_
          refine l_nil (nrm_then ?_)
          have e35 : ofL (FF xs i) ++ ofL (frame x) = ofL (FF xs (i + 1)) := Eng.toL_inj (by rw [Eng.toL_append, hFn])
          rw [e35]
          refine And.intro (by refine ⟨?_, ?_, ?_, ?_, trivial⟩ <;> ((conv => lhs; whnf); (try conv => rhs; whnf))) ?_
          exact ⟨xs.length - (i + 1), by omega, i + 1, by omega, rfl, rfl, hs⟩
        · obtain rfl : i = xs.length := by have := of_decide_eq_false h1; omega
          rw [List.take_length] at hs
          replace h1 := of_decide_eq_false h1
          refine c_exit (ex_then (ex_then (ex_hit (nrm_then ?_))))
          refine c_rseq ?_
          refine l_v (r_move (v := .pointer _) rfl) ?_
          refine l_call (r_call Try.func24 rfl rfl) ?_
          refine Calls.mono (lwrite_c bl b 1 xs 0 0 _ hg1 (show (1 : Int) ≤ 4611686018427387904 by decide) hx (by omega) (by omega) (by decide) w _ _ hs) ?_
          rintro e w_ ⟨rfl, hs⟩
          refine ⟨_, rfl, ?_⟩
          have hadd := one_add (hot := 1 + (x8.toNat : Int)) (cold := 0) (u := 1) (st := 1) (d := []) (sr := -1) (s := FF xs xs.length)
          have hFl : (FF xs xs.length).length = EE xs xs.length := rfl
          have hW : writeS (oneS (1 + (x8.toNat : Int)) 0 ⟨0, [], -1⟩ 1 1) 1 xs = addS (oneS (1 + (x8.toNat : Int)) 0 ⟨0, [], -1⟩ 1 1) 1 (FF xs xs.length) := if_neg h0'
          have hsz : (ofL (FF xs xs.length)).size = EE xs xs.length := rfl
          rw [hW] at hs ⊢
          by_cases hfit : (blocksN (([] : List UInt8).length + (FF xs xs.length).length) : Int) - (blocksN ([] : List UInt8).length : Int) > 1 + (x8.toNat : Int) - 1
          · rw [if_pos hfit] at hadd
            rw [hadd] at hs ⊢
            have hgt : (((ofL (FF xs xs.length)).size : Int) + 63) / 64 > (x8.toNat : Int) := by
              unfold blocksN at hfit; simp only [List.length_nil] at hfit; omega
            rw [if_neg (show ¬ ((oneS (1 + (x8.toNat : Int)) 0 ⟨0, [], -1⟩ 1 1, (7 : Int)) : DiskS × Int).2 = 0 from fun h => (by cases h)), if_neg (show ¬ ((oneS (1 + (x8.toNat : Int)) 0 ⟨0, [], -1⟩ 1 1, (7 : Int)) : DiskS × Int).2 = 0 from fun h => (by cases h))] at hs
            refine l_v (by first | exact (r_assign (v := iV _) rfl) | exact (r_assign rfl)) ?_
            refine l_nil (nrm_then ?_)
            refine c_rseq ?_
            refine l_v (r_move (v := .pointer _) rfl) ?_
            refine l_call (r_call Try.func25 rfl rfl) ?_
            refine Calls.mono (lcounts_c bl b 1 xs 0 0 w _ _ hs) ?_
            rintro e w_ ⟨rfl, hb4⟩
            refine ⟨_, rfl, ?_⟩
            have hs := hs.below_ hb4
            refine l_v (r_move rfl) ?_
            refine l_v (r_extract rfl rfl) ?_
            refine l_v (r_extract rfl rfl) ?_
            refine l_v (r_extract rfl rfl) ?_
            refine l_v (by first | exact (r_assign (v := iV _) rfl) | exact (r_assign rfl)) ?_
            refine l_v (by first | exact (r_assign (v := iV _) rfl) | exact (r_assign rfl)) ?_
            refine l_v (by first | exact (r_assign (v := iV _) rfl) | exact (r_assign rfl)) ?_
            refine l_nil (nrm_then ?_)
            refine c_rseq ?_
            refine l_v (r_move (v := .pointer _) rfl) ?_
            refine l_call (r_call Try.func26 rfl rfl) ?_
            refine Calls.mono (size_c b _ hg1 1 w _ _ (hs.pull 1)) ?_
            rintro e w_ ⟨rfl, hb5⟩
            refine ⟨_, rfl, ?_⟩
            have hs := hs.below_ hb5
            rw [one_size]
            refine l_v (r_move rfl) ?_
            refine l_v (r_extract rfl rfl) ?_
            refine l_v (r_extract rfl rfl) ?_
            refine l_v (r_extract rfl rfl) ?_
            refine l_v (by first | exact (r_assign (v := iV _) rfl) | exact (r_assign rfl)) ?_
            refine l_v (by first | exact (r_assign (v := iV _) rfl) | exact (r_assign rfl)) ?_
            refine l_v (by first | exact (r_assign (v := iV _) rfl) | exact (r_assign rfl)) ?_
            refine l_nil (nrm_then ?_)
            refine c_seq ?_
            refine c_rseq ?_
            refine l_v (by first | exact (r_move (v := sV _) rfl) | exact (r_move rfl)) ?_
            refine l_v (r_len_s Try.underlying9 rfl) ?_
            refine l_v (r_addi rfl rfl (by omega)) ?_
            refine l_v (r_quoi rfl rfl (by omega) (by omega)) ?_
            refine l_v (by first | exact (r_move (v := u8V _) rfl) | exact (r_move rfl)) ?_
            refine l_v (r_cv_8i Try.underlying5 Try.underlying3 rfl) ?_
            refine l_v (r_gtri rfl rfl) ?_
            refine l_nil (nrm_then ?_)
            refine c_true rfl (decide_eq_true hgt) ?_
            have f94 : decide (((xs.length : Nat) : Int) = ((xs.length : Nat) : Int)) = true := decide_eq_true rfl
            refine c_rseq ?_
            refine l_v (by first | exact (r_move (v := iV _) rfl) | exact (r_move rfl)) ?_
            refine l_v (r_eqli rfl rfl) ?_
            refine l_v (by first | exact (r_move (v := bV _) rfl) | exact (r_move rfl)) ?_
            refine l_vg (by first | exact (r_move (v := iV _) rfl) | exact (r_move rfl)) rfl (rfl) ?_
            refine l_vg (by first | exact (r_move (v := .slice _ _ _) rfl) | exact (r_move rfl)) rfl (rfl) ?_
            refine l_vg (r_len_l Try.underlying22 rfl) rfl (rfl) ?_
            refine l_vg (r_eqli rfl rfl) rfl (rfl) ?_
            refine l_v (r_pick_t rfl rfl rfl) ?_
            refine l_v (by first | exact (r_move (v := bV _) rfl) | exact (r_move rfl)) ?_
            refine l_vg (by first | exact (r_move (v := iV _) rfl) | exact (r_move rfl)) rfl (f94) ?_
            refine l_vg (r_eqli rfl rfl) rfl (f94) ?_
            refine l_v (r_pick_t rfl f94 rfl) ?_
            refine l_v (by first | exact (r_move (v := bV _) rfl) | exact (r_move rfl)) ?_
            refine l_vg (by first | exact (r_move (v := iV _) rfl) | exact (r_move rfl)) rfl (rfl) ?_
            refine l_vg (r_eqli rfl rfl) rfl (rfl) ?_
            refine l_v (r_pick_t rfl rfl rfl) ?_
            refine l_v (by first | exact (r_assign (v := bV _) rfl) | exact (r_assign rfl)) ?_
            refine l_nil (nrm_then ?_)
            refine c_ret (ret_then ?_)
            show Fin _ _ _ _ _
            refine fin1 rfl ?_
            exact ⟨rfl, hs.below⟩
          · skip
            rw [if_neg hfit, List.nil_append] at hadd
            rw [hadd] at hs ⊢
            have hng : ¬ (((ofL (FF xs xs.length)).size : Int) + 63) / 64 > (x8.toNat : Int) := by
              unfold blocksN at hfit; simp only [List.length_nil] at hfit; omega
            rw [if_pos rfl, if_pos rfl] at hs
            have hg2 := good_add hg1 1 (FF xs xs.length)
            rw [hadd] at hg2
            generalize (1 : Int) + ((blocksN (([] : List UInt8).length + (FF xs xs.length).length) : Int) - (blocksN ([] : List UInt8).length : Int)) = u at *
            refine l_v (by first | exact (r_assign (v := iV _) rfl) | exact (r_assign rfl)) ?_
            refine l_nil (nrm_then ?_)
            refine c_rseq ?_
            refine l_v (r_move (v := .pointer _) rfl) ?_
            refine l_call (r_call Try.func25 rfl rfl) ?_
            refine Calls.mono (lcounts_c bl b 1 [] (0 + (xs.length : Int)) 0 w _ _ hs) ?_
            rintro e w_ ⟨rfl, hb4⟩
            refine ⟨_, rfl, ?_⟩
            have hs := hs.below_ hb4
            refine l_v (r_move rfl) ?_
            refine l_v (r_extract rfl rfl) ?_
            refine l_v (r_extract rfl rfl) ?_
            refine l_v (r_extract rfl rfl) ?_
            refine l_v (by first | exact (r_assign (v := iV _) rfl) | exact (r_assign rfl)) ?_
            refine l_v (by first | exact (r_assign (v := iV _) rfl) | exact (r_assign rfl)) ?_
            refine l_v (by first | exact (r_assign (v := iV _) rfl) | exact (r_assign rfl)) ?_
            refine l_nil (nrm_then ?_)
            refine c_rseq ?_
            refine l_v (r_move (v := .pointer _) rfl) ?_
            refine l_call (r_call Try.func26 rfl rfl) ?_
            refine Calls.mono (size_c b _ hg2 1 w _ _ (hs.pull 1)) ?_
            rintro e w_ ⟨rfl, hb5⟩
            refine ⟨_, rfl, ?_⟩
            have hs := hs.below_ hb5
            rw [one_size]
            refine l_v (r_move rfl) ?_
            refine l_v (r_extract rfl rfl) ?_
            refine l_v (r_extract rfl rfl) ?_
            refine l_v (r_extract rfl rfl) ?_
            refine l_v (by first | exact (r_assign (v := iV _) rfl) | exact (r_assign rfl)) ?_
            refine l_v (by first | exact (r_assign (v := iV _) rfl) | exact (r_assign rfl)) ?_
            refine l_v (by first | exact (r_assign (v := iV _) rfl) | exact (r_assign rfl)) ?_
            refine l_nil (nrm_then ?_)
            refine c_seq ?_
            refine c_rseq ?_
            refine l_v (by first | exact (r_move (v := sV _) rfl) | exact (r_move rfl)) ?_
            refine l_v (r_len_s Try.underlying9 rfl) ?_
            refine l_v (r_addi rfl rfl (by omega)) ?_
            refine l_v (r_quoi rfl rfl (by omega) (by omega)) ?_
            refine l_v (by first | exact (r_move (v := u8V _) rfl) | exact (r_move rfl)) ?_
            refine l_v (r_cv_8i Try.underlying5 Try.underlying3 rfl) ?_
            refine l_v (r_gtri rfl rfl) ?_
            refine l_nil (nrm_then ?_)
            refine c_false rfl (decide_eq_false hng) ?_
            refine c_skip (nrm_then ?_)
            refine c_rseq ?_
            refine l_v (r_move (v := .pointer _) rfl) ?_
            refine l_v (by first | exact (r_move (v := iV _) rfl) | exact (r_move rfl)) ?_
            refine l_call (r_call Try.func27 rfl rfl) ?_
            refine Calls.mono (read_c b _ hg2 1 0 ((FF xs xs.length).length : Int) (by omega) (by omega) w _ _ (hs.pull 1)) ?_
            rintro e w_ ⟨rfl, hb6⟩
            refine ⟨_, rfl, ?_⟩
            have hs := hs.below_ hb6
            rw [one_all]
            have f120 : decide ((0 : Int) + (xs.length : Int) = ((xs.length : Nat) : Int)) = true := decide_eq_true (by omega)
            have f125 : decide (ofL (FF xs xs.length) = ofL (FF xs xs.length)) = true := decide_eq_true rfl
            refine l_v (r_move rfl) ?_
            refine l_v (r_extract rfl rfl) ?_
            refine l_v (r_extract rfl rfl) ?_
            refine l_v (by first | exact (r_assign (v := sV _) rfl) | exact (r_assign rfl)) ?_
            refine l_v (by first | exact (r_assign (v := iV _) rfl) | exact (r_assign rfl)) ?_
            refine l_nil (nrm_then ?_)
            refine c_rseq ?_
            refine l_v (by first | exact (r_move (v := iV _) rfl) | exact (r_move rfl)) ?_
            refine l_v (r_eqli rfl rfl) ?_
            refine l_v (by first | exact (r_move (v := bV _) rfl) | exact (r_move rfl)) ?_
            refine l_vg (by first | exact (r_move (v := iV _) rfl) | exact (r_move rfl)) rfl (rfl) ?_
            refine l_vg (r_eqli rfl rfl) rfl (rfl) ?_
            refine l_v (r_pick_t rfl rfl rfl) ?_
            refine l_v (by first | exact (r_move (v := bV _) rfl) | exact (r_move rfl)) ?_
            refine l_vg (by first | exact (r_move (v := iV _) rfl) | exact (r_move rfl)) rfl (rfl) ?_
            refine l_vg (by first | exact (r_move (v := .slice _ _ _) rfl) | exact (r_move rfl)) rfl (rfl) ?_
            refine l_vg (r_len_l Try.underlying22 rfl) rfl (rfl) ?_
            refine l_vg (r_eqli rfl rfl) rfl (rfl) ?_
            refine l_v (r_pick_t rfl rfl rfl) ?_
            refine l_v (by first | exact (r_move (v := bV _) rfl) | exact (r_move rfl)) ?_
            refine l_vg (by first | exact (r_move (v := sV _) rfl) | exact (r_move rfl)) rfl (f120) ?_
            refine l_vg (by first | exact (r_move (v := sV _) rfl) | exact (r_move rfl)) rfl (f120) ?_
            refine l_vg (r_eqls rfl rfl) rfl (f120) ?_
            refine l_v (r_pick_t rfl f120 rfl) ?_
            refine l_v (by first | exact (r_move (v := bV _) rfl) | exact (r_move rfl)) ?_
            refine l_vg (r_move (v := .pointer _) rfl) rfl (f125) ?_
            refine l_callg (r_call Try.func28 rfl rfl) rfl (f125) ?_
            refine Calls.mono (lsync_c bl b 1 [] (0 + (xs.length : Int)) 0 _ hg2 (show (1 : Int) + 1 ≤ 4611686018427387904 by decide) w _ _ hs) ?_
            rintro e w_ ⟨rfl, hs⟩
            refine ⟨_, rfl, ?_⟩
            rw [one_sync]
            refine l_vg (r_eqli rfl rfl) rfl (f125) ?_
            refine l_v (r_pick_t rfl f125 rfl) ?_
            refine l_v (by first | exact (r_assign (v := bV _) rfl) | exact (r_assign rfl)) ?_
            refine l_nil (nrm_then ?_)
            refine c_ret ?_
            show Fin _ _ _ _ _
            refine fin1 rfl ?_
            exact ⟨rfl, hs.below⟩
  · have f : (!bf) = true := by rw [hbf]; rfl
    refine l_no rfl (f) ?_
    refine l_no rfl (f) ?_
    refine l_no rfl (f) ?_
    refine l_v (r_pick_t rfl f rfl) ?_
    refine l_nil (nrm_then ?_)
    refine c_true rfl (rfl) ?_
    refine c_rseq ?_
    refine l_call (r_call Try.func9 rfl rfl) ?_
    refine Calls.mono (awake_c _) ?_
    rintro e w_ ⟨rfl, hb⟩
    refine ⟨_, rfl, ?_⟩
    have hs := hs.below_ hb
    refine l_v (by first | exact (r_assign (v := bV _) rfl) | exact (r_assign rfl)) ?_
    refine l_nil (nrm_then ?_)
    refine c_ret (ret_then ?_)
    show Fin _ _ _ _ _
    refine fin1 rfl ?_
    exact ⟨rfl, hs.below⟩
end Go.Proofs.Ytlkljeghhahedaa.Wal
