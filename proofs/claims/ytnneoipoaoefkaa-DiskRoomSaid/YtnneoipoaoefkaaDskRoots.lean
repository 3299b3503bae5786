/- The walk of the law DiskRoots. -/
import Derived.Test.YtnneoipoaoefkaaDskInv
namespace Go.Proofs.Ytnneoipoaoefkaa.Dsk
open Go Go.RowKit Go.Proofs.Ytnneoipoaoefkaa.Eng
set_option linter.unusedVariables false
set_option maxRecDepth 100000
theorem find_is {S : DiskS} {n : Int} {x : FileS} (hd : S.down = false) (hx : S.get n = some x) : findE S n = 0 := by
  unfold findE; rw [if_neg (by rw [hd]; decide), hx]; rfl
set_option maxHeartbeats 16000000 in
theorem diskRoots_walk {w : World} (A : Option Addr) (c : Nat) (os : List OpS) (hr : Rd w 7 A os.length (os.flatMap opC)) (hcap : os.length ≤ c) (hok : ∀ o ∈ os, opok w o) :
    Calls Try.prog 4 #[.slice A os.length c] w fun e w' => e = .returned (bV true) ∧ Below w.heap.size w w' := by
  have hn := hr.2.1
  refine enter (P := Try.prog) Try.func4 rfl rfl ?_
  have hs := Sep.init w
  refine c_rseq ?_
  refine l_v (by first | exact (r_assign (v := bV _) rfl) | exact (r_assign rfl)) ?_
  refine l_nil (nrm_then ?_)
  refine c_seq ?_
  refine c_rseq ?_
  refine l_call (r_call Try.func8 rfl rfl) ?_
  refine Calls.mono (awake_c _) ?_
  rintro e w_ ⟨rfl, hb⟩
  refine ⟨_, rfl, ?_⟩
  have hs := hs.below_ hb
  refine l_v (r_not rfl) ?_
  refine l_v (by first | exact (r_move (v := bV _) rfl) | exact (r_move rfl)) ?_
  refine l_vg (by first | exact (r_move (v := .slice _ _ _) rfl) | exact (r_move rfl)) rfl (rfl) ?_
  refine l_callg (r_call Try.func9 rfl rfl) rfl (rfl) ?_
  refine Calls.mono (few_c A c os _ (hr.below hs.below)) ?_
  rintro e w_ ⟨bf, rfl, hfew, hb2⟩
  refine ⟨_, rfl, ?_⟩
  have hs := hs.below_ hb2
  refine l_vg (r_not rfl) rfl (rfl) ?_
  refine l_v (r_pick_f rfl rfl rfl) ?_
  refine l_nil (nrm_then ?_)
  rcases Bool.eq_false_or_eq_true bf with hbf | hbf
  · have f : (!bf) = false := by rw [hbf]; rfl
    obtain ⟨hl2, hx3, hz3⟩ := hfew hbf
    refine c_false rfl (f) ?_
    refine c_skip (nrm_then ?_)
    refine c_rseq ?_
    refine l_call (r_call Try.func10 rfl rfl) ?_
    refine Calls.mono (new_ok 5000 5000 (by decide) w _ _ hs) ?_
    rintro e w_ ⟨b, rfl, hs⟩
    refine ⟨_, rfl, ?_⟩
    refine l_v (r_move rfl) ?_
    refine l_v (r_extract rfl rfl) ?_
    refine l_v (r_extract rfl rfl) ?_
    refine l_v (r_assign (v := .pointer _) rfl) ?_
    refine l_v (by first | exact (r_assign (v := iV _) rfl) | exact (r_assign rfl)) ?_
    refine l_nil (nrm_then ?_)
    refine c_seq ?_
    refine c_rseq ?_
    refine l_v (by first | exact (r_assign (v := iV _) rfl) | exact (r_assign rfl)) ?_
    refine l_nil (nrm_then ?_)
    refine c_block ?_
    have hg0 := good_new (hot := 5000) (cold := 5000) (by decide) (by decide)
    refine c_loopn [0, 3] (fun m f' w' => ∃ i S, i + m = os.length ∧ f' 5 = iV (i : Int) ∧ GoodS S ∧ RI S ∧ S.steps ≤ (i : Int) ∧ Eng.Sep w w' (diskH b S :: [])) ?_ ?_
    · exact ⟨os.length, 0, _, by omega, rfl, hg0, ⟨rfl, rfl, .inl rfl⟩, by show (0 : Int) ≤ 0; omega, hs⟩
    · rintro m g w_ ⟨i, S, hi, h5, hg, hri, hst, hs⟩
      refine OkC.env ?_ (fixH (L := [(5, _)]) ⟨h5, trivial⟩)
      clear h5
      refine c_seq ?_
      refine c_rseq ?_
      refine l_v (by first | exact (r_move (v := iV _) rfl) | exact (r_move rfl)) ?_
      refine l_v (by first | exact (r_move (v := .slice _ _ _) rfl) | exact (r_move rfl)) ?_
      refine l_v (r_len_l Try.underlying22 rfl) ?_
      refine l_v (r_lssi rfl rfl) ?_
      refine l_nil (nrm_then ?_)
      refine c_cond rfl (fun h1 => ?_) (fun h1 => ?_)
      · have hil : i < os.length := by have := of_decide_eq_true h1; omega
        obtain ⟨o, hoi⟩ : ∃ o, os[i]? = some o := ⟨os[i], List.getElem?_eq_getElem hil⟩
        have hom := List.mem_of_getElem? hoi
        have hoo := hok o hom
        have hox := hx3 o hom
        have hr1 : ∀ w', Below w.heap.size w w' → Rd w' 7 A os.length (os.flatMap opC) := fun w' h => hr.below h
        obtain ⟨ad, rfl, _⟩ := hr.ad (by omega)
        have hX : ∀ w', Below w.heap.size w w' → ∀ j u, (opC o)[j]? = some u → w'.cell? ((ad.add (i * 7)).add j) = some u := fun w' h => rd_item (hr1 w' h) (fun y _ => rfl) (by decide) hoi
        replace h1 := of_decide_eq_true h1
        refine c_skip (nrm_then ?_)
        refine c_seq ?_
        refine c_block ?_
        refine c_rseq ?_
        refine l_v (r_move (v := .pointer _) rfl) ?_
        refine l_call (r_call Try.func19 rfl rfl) ?_
        refine Calls.mono (root_c b S w _ _ hs) ?_
        rintro e w_ ⟨rfl, hww⟩
        refine ⟨_, rfl, ?_⟩
        rw [hww]
        refine l_v (by first | exact (r_assign (v := iV _) rfl) | exact (r_assign rfl)) ?_
        refine l_nil (nrm_then ?_)
        refine c_rseq ?_
        refine l_v (r_move (v := .pointer _) rfl) ?_
        refine l_v (by first | exact (r_move (v := .slice _ _ _) rfl) | exact (r_move rfl)) ?_
        refine l_v (by first | exact (r_move (v := iV _) rfl) | exact (r_move rfl)) ?_
        refine l_v (r_indexAddr_l (k := i) Try.underlying22 I32 rfl rfl hil) ?_
        refine l_v (r_load_aggP Try.underlying32 I32 rfl (hX _ hs.below) rfl) ?_
        refine l_call (r_call Try.func11 rfl rfl) ?_
        refine Calls.mono (do_c b S hg (by omega) o (by omega) w _ _ hs hoo.1) ?_
        rintro e w_ ⟨rfl, hs⟩
        refine ⟨_, rfl, ?_⟩
        have hg2 := good_do hg o
        obtain ⟨hri2, hch⟩ := root_do hg hri o
        have hst2 := do_steps S o
        generalize doS S o = T at *
        refine l_v (by first | exact (r_assign (v := iV _) rfl) | exact (r_assign rfl)) ?_
        refine l_nil (nrm_then ?_)
        refine c_rseq ?_
        refine l_v (r_move (v := .pointer _) rfl) ?_
        refine l_call (r_call Try.func19 rfl rfl) ?_
        refine Calls.mono (root_c b T.1 w _ _ hs) ?_
        rintro e w_ ⟨rfl, rfl⟩
        refine ⟨_, rfl, ?_⟩
        refine l_v (by first | exact (r_assign (v := iV _) rfl) | exact (r_assign rfl)) ?_
        refine l_nil (nrm_then ?_)
        refine c_seq ?_
        refine c_seq ?_
        refine c_mid [0, 2, 3, 5, 6, 8] (fun f' w' => w' = w_ ∧ f' 67 = bV (decide (T.1.root = 0))) ?_ ?_
        · by_cases hne : T.1.root = S.root
          · have f42 : decide (T.1.root ≠ S.root) = false := decide_eq_false (fun h => h hne)
            refine c_region ?_
            refine l_v (by first | exact (r_move (v := iV _) rfl) | exact (r_move rfl)) ?_
            refine l_v (by first | exact (r_move (v := iV _) rfl) | exact (r_move rfl)) ?_
            refine l_v (r_neqi rfl rfl) ?_
            refine l_v (by first | exact (r_move (v := bV _) rfl) | exact (r_move rfl)) ?_
            refine l_no rfl (f42) ?_
            refine l_no rfl (f42) ?_
            refine l_no rfl (f42) ?_
            refine l_no rfl (f42) ?_
            refine l_no rfl (f42) ?_
            refine l_no rfl (f42) ?_
            refine l_no rfl (f42) ?_
            refine l_skip (.inr rfl) ?_
            refine l_skip (.inr rfl) ?_
            refine l_no rfl (f42) ?_
            refine l_no rfl (f42) ?_
            refine l_skip (.inr rfl) ?_
            refine l_skip (.inr rfl) ?_
            refine l_skip (.inr rfl) ?_
            refine l_skip (.inr rfl) ?_
            refine l_skip (.inr rfl) ?_
            refine l_skip (.inr rfl) ?_
            refine l_skip (.inr rfl) ?_
            refine l_no rfl (f42) ?_
            refine l_v (r_pick_f rfl f42 rfl) ?_
            refine l_v (by first | exact (r_move (v := bV _) rfl) | exact (r_move rfl)) ?_
            refine l_vg (by first | exact (r_move (v := iV _) rfl) | exact (r_move rfl)) rfl (rfl) ?_
            refine l_vg (r_eqli rfl rfl) rfl (rfl) ?_
            refine l_v (r_pick_f rfl rfl rfl) ?_
            refine l_nil (nrm_then ?_)
            refine And.intro (by refine ⟨?_, ?_, ?_, ?_, ?_, ?_, trivial⟩ <;> ((conv => lhs; whnf); (try conv => rhs; whnf))) ?_
            exact ⟨rfl, rfl⟩
          · obtain ⟨k1, k2, k3, k4⟩ := hch hne
            have f42 : decide (T.1.root ≠ S.root) = true := decide_eq_true hne
            have f49 : decide (o.kind ≠ 5) = false := decide_eq_false (fun h => h k1)
            have f52 : decide (T.2 ≠ 0) = false := decide_eq_false (fun h => h k2)
            have f61 : decide (T.1.root ≠ o.file) = false := decide_eq_false (fun h => h k3)
            refine c_region ?_
            refine l_v (by first | exact (r_move (v := iV _) rfl) | exact (r_move rfl)) ?_
            refine l_v (by first | exact (r_move (v := iV _) rfl) | exact (r_move rfl)) ?_
            refine l_v (r_neqi rfl rfl) ?_
            refine l_v (by first | exact (r_move (v := bV _) rfl) | exact (r_move rfl)) ?_
            refine l_vg (by first | exact (r_move (v := .slice _ _ _) rfl) | exact (r_move rfl)) rfl (f42) ?_
            refine l_vg (by first | exact (r_move (v := iV _) rfl) | exact (r_move rfl)) rfl (f42) ?_
            refine l_vg (r_indexAddr_l (k := i) Try.underlying22 I32 rfl rfl hil) rfl (f42) ?_
            refine l_vg (r_fieldAddrP (off := 0) (T := 3) (by kernel_rfl) rfl) rfl (f42) ?_
            refine l_vg (r_load Try.underlying3 rfl (hX _ hs.below 0 _ rfl)) rfl (f42) ?_
            refine l_vg (r_neqi rfl rfl) rfl (f42) ?_
            refine l_vg (by first | exact (r_move (v := bV _) rfl) | exact (r_move rfl)) rfl (f42) ?_
            refine l_vg (by first | exact (r_move (v := iV _) rfl) | exact (r_move rfl)) rfl (f49) ?_
            refine l_vg (r_neqi rfl rfl) rfl (f49) ?_
            refine l_vg (r_pick_f rfl f49 rfl) rfl (f42) ?_
            refine l_vg (by first | exact (r_move (v := bV _) rfl) | exact (r_move rfl)) rfl (f42) ?_
            refine l_vg (by first | exact (r_move (v := iV _) rfl) | exact (r_move rfl)) rfl (f52) ?_
            refine l_vg (by first | exact (r_move (v := .slice _ _ _) rfl) | exact (r_move rfl)) rfl (f52) ?_
            refine l_vg (by first | exact (r_move (v := iV _) rfl) | exact (r_move rfl)) rfl (f52) ?_
            refine l_vg (r_indexAddr_l (k := i) Try.underlying22 I32 rfl rfl hil) rfl (f52) ?_
            refine l_vg (r_fieldAddrP (off := 2) (T := 3) (by kernel_rfl) rfl) rfl (f52) ?_
            refine l_vg (r_load Try.underlying3 rfl (hX _ hs.below 2 _ rfl)) rfl (f52) ?_
            refine l_vg (r_neqi rfl rfl) rfl (f52) ?_
            refine l_vg (r_pick_f rfl f52 rfl) rfl (f42) ?_
            refine l_v (r_pick_t rfl f42 rfl) ?_
            refine l_v (by first | exact (r_move (v := bV _) rfl) | exact (r_move rfl)) ?_
            refine l_vg (by first | exact (r_move (v := iV _) rfl) | exact (r_move rfl)) rfl (f61) ?_
            refine l_vg (r_eqli rfl rfl) rfl (f61) ?_
            refine l_v (r_pick_f rfl f61 rfl) ?_
            refine l_nil (nrm_then ?_)
            refine And.intro (by refine ⟨?_, ?_, ?_, ?_, ?_, ?_, trivial⟩ <;> ((conv => lhs; whnf); (try conv => rhs; whnf))) ?_
            exact ⟨rfl, rfl⟩
        · rintro g w_ ⟨rfl, h67⟩
          show OkC _ _ _ _ _ _
          refine OkC.env ?_ (fixH (L := [(67, _)]) ⟨h67, trivial⟩)
          clear h67
          refine c_cond rfl (fun h2 => ?_) (fun h2 => ?_)
          · have hsame : T.1.root = S.root := by
              have h2' := of_decide_eq_true h2
              by_cases h : T.1.root = S.root
              · exact h
              · exact absurd h2' (hch h).2.2.2
            replace h2 := of_decide_eq_true h2
            refine c_seq ?_
            refine c_rseq ?_
            refine l_v (by first | exact (r_move (v := iV _) rfl) | exact (r_move rfl)) ?_
            refine l_v (by first | exact (r_move (v := iV _) rfl) | exact (r_move rfl)) ?_
            refine l_v (r_neqi rfl rfl) ?_
            refine l_nil (nrm_then ?_)
            refine c_false rfl ((decide_eq_false (fun h => h hsame))) ?_
            refine c_skip (nrm_then ?_)
            refine c_exit (ex_then (ex_hit (nrm_then ?_)))
            refine c_region ?_
            refine l_v (by first | exact (r_move (v := iV _) rfl) | exact (r_move rfl)) ?_
            refine l_v (r_addi rfl rfl (by omega)) ?_
            refine l_v (by first | exact (r_assign (v := iV _) rfl) | exact (r_assign rfl)) ?_
            refine l_nil (nrm_then ?_)
            refine And.intro (by refine ⟨?_, ?_, trivial⟩ <;> ((conv => lhs; whnf); (try conv => rhs; whnf))) ?_
            exact ⟨os.length - (i + 1), by omega, i + 1, T.1, by omega, rfl, hg2, hri2, by omega, hs⟩
          · have h2' := of_decide_eq_false h2
            obtain ⟨x, hx, hsr⟩ : ∃ x, T.1.get T.1.root = some x ∧ 0 ≤ x.sure := by
              rcases hri2.root with h | h
              · exact absurd h h2'
              · exact h
            have hfd := find_is hri2.down hx
            have hdr : dropS T.1 T.1.root = (T.1, 11) := by rw [drop_yes hfd hx, if_pos rfl]
            replace h2 := of_decide_eq_false h2
            refine c_skip (nrm_then ?_)
            refine c_rseq ?_
            refine l_v (r_move (v := .pointer _) rfl) ?_
            refine l_v (by first | exact (r_move (v := iV _) rfl) | exact (r_move rfl)) ?_
            refine l_call (r_call Try.func14 rfl rfl) ?_
            refine Calls.mono (size_c b T.1 hg2 T.1.root w _ _ hs) ?_
            rintro e w_ ⟨rfl, hb5⟩
            refine ⟨_, rfl, ?_⟩
            have hs := hs.below_ hb5
            rw [size_yes hfd hx]
            refine l_v (r_move rfl) ?_
            refine l_v (r_extract rfl rfl) ?_
            refine l_v (r_extract rfl rfl) ?_
            refine l_v (r_extract rfl rfl) ?_
            refine l_v (by first | exact (r_assign (v := iV _) rfl) | exact (r_assign rfl)) ?_
            refine l_v (by first | exact (r_assign (v := iV _) rfl) | exact (r_assign rfl)) ?_
            refine l_v (by first | exact (r_assign (v := iV _) rfl) | exact (r_assign rfl)) ?_
            refine l_nil (nrm_then ?_)
            refine c_rseq ?_
            refine l_v (by first | exact (r_move (v := iV _) rfl) | exact (r_move rfl)) ?_
            refine l_v (r_neqi rfl rfl) ?_
            refine l_v (by first | exact (r_move (v := bV _) rfl) | exact (r_move rfl)) ?_
            refine l_vg (r_move (v := .pointer _) rfl) rfl (rfl) ?_
            refine l_vg (by first | exact (r_move (v := iV _) rfl) | exact (r_move rfl)) rfl (rfl) ?_
            refine l_callg (r_call Try.func20 rfl rfl) rfl (rfl) ?_
            refine Calls.mono (drop_c b T.1 hg2 (by omega) T.1.root w _ _ hs) ?_
            rintro e w_ ⟨rfl, hs⟩
            refine ⟨_, rfl, ?_⟩
            rw [hdr] at hs ⊢
            refine l_vg (r_neqi rfl rfl) rfl (rfl) ?_
            refine l_v (r_pick_f rfl rfl rfl) ?_
            refine l_nil (nrm_then ?_)
            refine c_false rfl (rfl) ?_
            refine c_skip (nrm_block (nrm_then ?_))
            refine c_region ?_
            refine l_v (by first | exact (r_move (v := iV _) rfl) | exact (r_move rfl)) ?_
            refine l_v (r_addi rfl rfl (by omega)) ?_
            refine l_v (by first | exact (r_assign (v := iV _) rfl) | exact (r_assign rfl)) ?_
            refine l_nil (nrm_then ?_)
            refine And.intro (by refine ⟨?_, ?_, trivial⟩ <;> ((conv => lhs; whnf); (try conv => rhs; whnf))) ?_
            exact ⟨os.length - (i + 1), by omega, i + 1, T.1, by omega, rfl, hg2, hri2, by omega, hs⟩
      · replace h1 := of_decide_eq_false h1
        refine c_exit (ex_then (ex_then (ex_hit (nrm_then ?_))))
        refine c_rseq ?_
        refine l_v (by first | exact (r_assign (v := bV _) rfl) | exact (r_assign rfl)) ?_
        refine l_nil (nrm_then ?_)
        refine c_ret ?_
        show Fin _ _ _ _ _
        refine fin1 rfl ?_
        exact ⟨rfl, hs.below⟩
  · have f : (!bf) = true := by rw [hbf]; rfl
    refine c_true rfl (f) ?_
    refine c_rseq ?_
    refine l_call (r_call Try.func8 rfl rfl) ?_
    refine Calls.mono (awake_c _) ?_
    rintro e w_ ⟨rfl, hb⟩
    refine ⟨_, rfl, ?_⟩
    have hs := hs.below_ hb
    refine l_v (by first | exact (r_assign (v := bV _) rfl) | exact (r_assign rfl)) ?_
    refine l_nil (nrm_then ?_)
    refine c_ret (ret_then ?_)
    show Fin _ _ _ _ _
    refine fin1 rfl ?_
    exact ⟨rfl, hs.below⟩
end Go.Proofs.Ytnneoipoaoefkaa.Dsk
