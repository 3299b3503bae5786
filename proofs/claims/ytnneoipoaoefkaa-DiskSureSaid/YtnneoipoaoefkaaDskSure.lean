/- The walk of the law DiskSure. -/
import Derived.Test.YtnneoipoaoefkaaDskRoots
namespace Go.Proofs.Ytnneoipoaoefkaa.Dsk
open Go Go.RowKit Go.Proofs.Ytnneoipoaoefkaa.Eng
set_option linter.unusedVariables false
set_option maxRecDepth 100000
def Live (S : DiskS) : Prop := S.down = false ∧ S.fuse = -1
theorem live_make {S : DiskS} (h : Live S) {n : Int} (hn : 1 ≤ n) : (makeS S 0 n).2 = 7 ∨ ((makeS S 0 n).2 ≠ 7 ∧ Live (makeS S 0 n).1 ∧ ∃ x, (makeS S 0 n).1.get n = some x) := by
  obtain ⟨s1, s2, s3, s4⟩ := step_live h.2
  have hft := find_three S n
  unfold makeS
  rw [if_neg (c := findE S n = 8) (fun e => by
    rcases hft with ⟨_, hd⟩ | ⟨hf, _⟩ | ⟨hf, _⟩
    · rw [h.1] at hd; cases hd
    · rw [hf] at e; cases e
    · rw [hf] at e; cases e), if_neg (by omega)]
  by_cases h0 : findE S n = 0
  · obtain ⟨_, x, hx⟩ := find_zero h0
    rw [if_pos h0]
    exact .inr ⟨by show (10 : Int) ≠ 7; decide, h, x, hx⟩
  · rw [if_neg h0]
    split
    · exact .inl rfl
    · try rw [if_pos s1]
      refine .inr ⟨by show (0 : Int) ≠ 7; decide, ⟨s2.trans h.1, s3⟩, ⟨(0 : Int).toNat, [], -1⟩, ?_⟩
      show fget (fput S.files n _) n = _
      rw [fget_put, if_pos rfl]
theorem live_add {S : DiskS} (h : Live S) {n : Int} {x : FileS} (hx : S.get n = some x) (s : List UInt8) : (addS S n s = (S, 7)) ∨ ((addS S n s).2 = 0 ∧ Live (addS S n s).1 ∧ (addS S n s).1.get n = some ⟨x.tier, x.data ++ s, x.sure⟩) := by
  obtain ⟨s1, s2, s3, s4⟩ := step_live h.2
  rw [add_yes (find_is h.1 hx) hx]
  split
  · exact .inl rfl
  · try rw [if_pos s1]
    obtain ⟨g1, g2, g3, g4⟩ := step_live (S := addF S n x s) h.2
    obtain ⟨k1, k2, k3, k4⟩ := step_files (addF S n x s)
    refine .inr ⟨rfl, ⟨g2.trans h.1, g3⟩, ?_⟩
    show fget (stepS (addF S n x s)).files n = _
    rw [k1]
    show fget (fput S.files n ⟨x.tier, x.data ++ s, x.sure⟩) n = _
    rw [fget_put, if_pos rfl]
theorem live_sync {S : DiskS} (h : Live S) {n : Int} {x : FileS} (hx : S.get n = some x) : (syncS S n).2 = 0 ∧ Live (syncS S n).1 ∧ (syncS S n).1.get n = some ⟨x.tier, x.data, x.data.length⟩ := by
  obtain ⟨s1, s2, s3, s4⟩ := step_live h.2
  rw [sync_yes (find_is h.1 hx) hx, if_pos s1]
  refine ⟨rfl, ⟨s2.trans h.1, s3⟩, ?_⟩
  show fget (fput S.files n _) n = _
  rw [fget_put, if_pos rfl]
theorem steps_make (S : DiskS) (t n : Int) : (makeS S t n).1.steps ≤ S.steps + 1 := by
  have := did_make S t n
  generalize makeS S t n = X at this
  cases this with
  | no e => show S.steps ≤ _; omega
  | bad l u => exact step_le S
  | good l u r => exact step_le S
theorem steps_add (S : DiskS) (n : Int) (s : List UInt8) : (addS S n s).1.steps ≤ S.steps + 1 := by
  have := did_add S n s
  generalize addS S n s = X at this
  cases this with
  | no e => show S.steps ≤ _; omega
  | bad l u => exact step_le S
  | good l u r => exact step_le S
theorem steps_sync (S : DiskS) (n : Int) : (syncS S n).1.steps ≤ S.steps + 1 := by
  have := did_sync S n
  generalize syncS S n = X at this
  cases this with
  | no e => show S.steps ≤ _; omega
  | bad l u => exact step_le S
  | good l u r => exact step_le S
theorem all_read {S : DiskS} {n : Int} {x : FileS} (hd : S.down = false) (hx : S.get n = some x) : readS S n 0 (x.data.length : Int) = (x.data, 0) := by
  rw [read_yes (find_is hd hx) hx, if_neg (by omega)]
  simp
set_option maxHeartbeats 16000000 in
theorem diskSure_walk {w : World} (A : Option Addr) (c : Nat) (os : List OpS) (hr : Rd w 7 A os.length (os.flatMap opC)) (hcap : os.length ≤ c) (hok : ∀ o ∈ os, opok w o) (file : Int) (hfw : (Lit.int .i64 file).wf = true) (s : ByteArray) (hsw : s.size ≤ 140737488351232) (more : ByteArray) (hmw : more.size ≤ 140737488351232)
    (A2 : Option Addr) (c2 : Nat) (K : List (Int × Int)) (hrK : Rd w 2 A2 K.length (K.flatMap keepC)) (hcap2 : K.length ≤ c2) (_ : ∀ r ∈ K, True) :
    Calls Try.prog 3 #[.slice A os.length c, iV file, sV s, sV more, .slice A2 K.length c2] w fun e w' => e = .returned (bV true) ∧ Below w.heap.size w w' := by
  have hn := hr.2.1
  have hsl := toL_size s
  have hml := toL_size more
  refine enter (P := Try.prog) Try.func3 rfl rfl ?_
  have hs := Sep.init w
  refine c_rseq ?_
  refine l_v (by first | exact (r_assign (v := bV _) rfl) | exact (r_assign rfl)) ?_
  refine l_nil (nrm_then ?_)
  refine c_seq ?_
  refine c_rseq ?_
  refine l_call (r_call Try.func8 rfl rfl) ?_
  refine Calls.mono (awake_c _) ?_
  rintro e w_ ⟨rfl, hb⟩
  refine ⟨_, rfl, ?_⟩
  have hs := hs.below_ hb
  refine l_v (r_not rfl) ?_
  refine l_v (by first | exact (r_move (v := bV _) rfl) | exact (r_move rfl)) ?_
  refine l_vg (by first | exact (r_move (v := .slice _ _ _) rfl) | exact (r_move rfl)) rfl (rfl) ?_
  refine l_callg (r_call Try.func9 rfl rfl) rfl (rfl) ?_
  refine Calls.mono (few_c A c os _ (hr.below hs.below)) ?_
  rintro e w_ ⟨bf, rfl, hfew, hb2⟩
  refine ⟨_, rfl, ?_⟩
  have hs := hs.below_ hb2
  refine l_vg (r_not rfl) rfl (rfl) ?_
  refine l_v (r_pick_f rfl rfl rfl) ?_
  rcases Bool.eq_false_or_eq_true bf with hbf | hbf
  · have f : (!bf) = false := by rw [hbf]; rfl
    obtain ⟨hl2, hx3, hz3⟩ := hfew hbf
    refine l_v (by first | exact (r_move (v := bV _) rfl) | exact (r_move rfl)) ?_
    refine l_vg (by first | exact (r_move (v := sV _) rfl) | exact (r_move rfl)) rfl (f) ?_
    refine l_vg (r_len_s Try.underlying9 rfl) rfl (f) ?_
    refine l_vg (r_gtri rfl rfl) rfl (f) ?_
    refine l_v (r_pick_f rfl f rfl) ?_
    by_cases c1 : (s.size : Int) > 1000
    · have f1 : decide ((s.size : Int) > 1000) = true := decide_eq_true c1
      refine l_v (by first | exact (r_move (v := bV _) rfl) | exact (r_move rfl)) ?_
      refine l_no rfl (f1) ?_
      refine l_no rfl (f1) ?_
      refine l_no rfl (f1) ?_
      refine l_v (r_pick_t rfl f1 rfl) ?_
      refine l_v (by first | exact (r_move (v := bV _) rfl) | exact (r_move rfl)) ?_
      refine l_no rfl (rfl) ?_
      refine l_no rfl (rfl) ?_
      refine l_v (r_pick_t rfl rfl rfl) ?_
      refine l_nil (nrm_then ?_)
      refine c_true rfl (rfl) ?_
      refine c_rseq ?_
      refine l_call (r_call Try.func8 rfl rfl) ?_
      refine Calls.mono (awake_c _) ?_
      rintro e w_ ⟨rfl, hb⟩
      refine ⟨_, rfl, ?_⟩
      have hs := hs.below_ hb
      refine l_v (by first | exact (r_assign (v := bV _) rfl) | exact (r_assign rfl)) ?_
      refine l_nil (nrm_then ?_)
      refine c_ret (ret_then ?_)
      show Fin _ _ _ _ _
      refine fin1 rfl ?_
      exact ⟨rfl, hs.below⟩
    · have f1 : decide ((s.size : Int) > 1000) = false := decide_eq_false c1
      refine l_v (by first | exact (r_move (v := bV _) rfl) | exact (r_move rfl)) ?_
      refine l_vg (by first | exact (r_move (v := sV _) rfl) | exact (r_move rfl)) rfl (f1) ?_
      refine l_vg (r_len_s Try.underlying9 rfl) rfl (f1) ?_
      refine l_vg (r_gtri rfl rfl) rfl (f1) ?_
      refine l_v (r_pick_f rfl f1 rfl) ?_
      by_cases c2' : (more.size : Int) > 1000
      · have f2 : decide ((more.size : Int) > 1000) = true := decide_eq_true c2'
        refine l_v (by first | exact (r_move (v := bV _) rfl) | exact (r_move rfl)) ?_
        refine l_no rfl (f2) ?_
        refine l_no rfl (f2) ?_
        refine l_v (r_pick_t rfl f2 rfl) ?_
        refine l_nil (nrm_then ?_)
        refine c_true rfl (rfl) ?_
        refine c_rseq ?_
        refine l_call (r_call Try.func8 rfl rfl) ?_
        refine Calls.mono (awake_c _) ?_
        rintro e w_ ⟨rfl, hb⟩
        refine ⟨_, rfl, ?_⟩
        have hs := hs.below_ hb
        refine l_v (by first | exact (r_assign (v := bV _) rfl) | exact (r_assign rfl)) ?_
        refine l_nil (nrm_then ?_)
        refine c_ret (ret_then ?_)
        show Fin _ _ _ _ _
        refine fin1 rfl ?_
        exact ⟨rfl, hs.below⟩
      · have f2 : decide ((more.size : Int) > 1000) = false := decide_eq_false c2'
        refine l_v (by first | exact (r_move (v := bV _) rfl) | exact (r_move rfl)) ?_
        refine l_vg (by first | exact (r_move (v := iV _) rfl) | exact (r_move rfl)) rfl (f2) ?_
        refine l_vg (r_lssi rfl rfl) rfl (f2) ?_
        refine l_v (r_pick_f rfl f2 rfl) ?_
        refine l_nil (nrm_then ?_)
        refine c_cond rfl (fun h0 => ?_) (fun h0 => ?_)
        · replace h0 := of_decide_eq_true h0
          refine c_rseq ?_
          refine l_call (r_call Try.func8 rfl rfl) ?_
          refine Calls.mono (awake_c _) ?_
          rintro e w_ ⟨rfl, hb⟩
          refine ⟨_, rfl, ?_⟩
          have hs := hs.below_ hb
          refine l_v (by first | exact (r_assign (v := bV _) rfl) | exact (r_assign rfl)) ?_
          refine l_nil (nrm_then ?_)
          refine c_ret (ret_then ?_)
          show Fin _ _ _ _ _
          refine fin1 rfl ?_
          exact ⟨rfl, hs.below⟩
        · have hfile : 1 ≤ file := by have := of_decide_eq_false h0; omega
          replace h0 := of_decide_eq_false h0
          refine c_skip (nrm_then ?_)
          refine c_rseq ?_
          refine l_call (r_call Try.func10 rfl rfl) ?_
          refine Calls.mono (new_ok 5000 5000 (by decide) w _ _ hs) ?_
          rintro e w_ ⟨b, rfl, hs⟩
          refine ⟨_, rfl, ?_⟩
          refine l_v (r_move rfl) ?_
          refine l_v (r_extract rfl rfl) ?_
          refine l_v (r_extract rfl rfl) ?_
          refine l_v (r_assign (v := .pointer _) rfl) ?_
          refine l_v (by first | exact (r_assign (v := iV _) rfl) | exact (r_assign rfl)) ?_
          refine l_nil (nrm_then ?_)
          refine c_seq ?_
          refine c_rseq ?_
          refine l_v (by first | exact (r_assign (v := iV _) rfl) | exact (r_assign rfl)) ?_
          refine l_nil (nrm_then ?_)
          refine c_block ?_
          have hg0 := good_new (hot := 5000) (cold := 5000) (by decide) (by decide)
          refine c_loopn [0, 1, 2, 3, 4, 10, 11] (fun m f' w' => ∃ i S, i + m = os.length ∧ f' 13 = iV (i : Int) ∧ GoodS S ∧ RI S ∧ S.steps ≤ (i : Int) ∧ Eng.Sep w w' (diskH b S :: [])) ?_ ?_
          · exact ⟨os.length, 0, _, by omega, rfl, hg0, ⟨rfl, rfl, .inl rfl⟩, by show (0 : Int) ≤ 0; omega, hs⟩
          · rintro m g w_ ⟨i, S, hi, h13, hg, hri, hst, hs⟩
            refine OkC.env ?_ (fixH (L := [(13, _)]) ⟨h13, trivial⟩)
            clear h13
            refine c_seq ?_
            refine c_rseq ?_
            refine l_v (by first | exact (r_move (v := iV _) rfl) | exact (r_move rfl)) ?_
            refine l_v (by first | exact (r_move (v := .slice _ _ _) rfl) | exact (r_move rfl)) ?_
            refine l_v (r_len_l Try.underlying22 rfl) ?_
            refine l_v (r_lssi rfl rfl) ?_
            refine l_nil (nrm_then ?_)
            refine c_cond rfl (fun h1 => ?_) (fun h1 => ?_)
            · have hil : i < os.length := by have := of_decide_eq_true h1; omega
              obtain ⟨o, hoi⟩ : ∃ o, os[i]? = some o := ⟨os[i], List.getElem?_eq_getElem hil⟩
              have hom := List.mem_of_getElem? hoi
              have hoo := hok o hom
              have hox := hx3 o hom
              have hr1 : ∀ w', Below w.heap.size w w' → Rd w' 7 A os.length (os.flatMap opC) := fun w' h => hr.below h
              obtain ⟨ad, rfl, _⟩ := hr.ad (by omega)
              have hX : ∀ w', Below w.heap.size w w' → ∀ j u, (opC o)[j]? = some u → w'.cell? ((ad.add (i * 7)).add j) = some u := fun w' h => rd_item (hr1 w' h) (fun y _ => rfl) (by decide) hoi
              replace h1 := of_decide_eq_true h1
              refine c_skip (nrm_then ?_)
              refine c_seq ?_
              refine c_block ?_
              refine c_region ?_
              refine l_v (r_move (v := .pointer _) rfl) ?_
              refine l_v (by first | exact (r_move (v := .slice _ _ _) rfl) | exact (r_move rfl)) ?_
              refine l_v (by first | exact (r_move (v := iV _) rfl) | exact (r_move rfl)) ?_
              refine l_v (r_indexAddr_l (k := i) Try.underlying22 I32 rfl rfl hil) ?_
              refine l_v (r_load_aggP Try.underlying32 I32 rfl (hX _ hs.below) rfl) ?_
              refine l_call (r_call Try.func11 rfl rfl) ?_
              refine Calls.mono (do_c b S hg (by omega) o (by omega) w _ _ hs hoo.1) ?_
              rintro e w_ ⟨rfl, hs⟩
              refine ⟨_, rfl, ?_⟩
              have hg2 := good_do hg o
              obtain ⟨hri2, hch⟩ := root_do hg hri o
              have hst2 := do_steps S o
              generalize doS S o = T at *
              refine l_nil (nrm_block (nrm_then ?_))
              refine c_region ?_
              refine l_v (by first | exact (r_move (v := iV _) rfl) | exact (r_move rfl)) ?_
              refine l_v (r_addi rfl rfl (by omega)) ?_
              refine l_v (by first | exact (r_assign (v := iV _) rfl) | exact (r_assign rfl)) ?_
              refine l_nil (nrm_then ?_)
              refine And.intro (by refine ⟨?_, ?_, ?_, ?_, ?_, ?_, ?_, trivial⟩ <;> ((conv => lhs; whnf); (try conv => rhs; whnf))) ?_
              exact ⟨os.length - (i + 1), by omega, i + 1, T.1, by omega, rfl, hg2, hri2, by omega, hs⟩
            · have hil : i ≤ 200 := by omega
              replace h1 := of_decide_eq_false h1
              refine c_exit (ex_then (ex_then (ex_hit (nrm_then ?_))))
              refine c_rseq ?_
              refine l_v (r_move (v := .pointer _) rfl) ?_
              refine l_call (r_call Try.func12 rfl rfl) ?_
              refine Calls.mono (back_c b S hg none 0 [] w _ _ hs (fun w' h => Rd.none_ _ _ _)) ?_
              rintro e w_ ⟨⟨vb, rfl⟩, hs⟩
              refine ⟨_, rfl, ?_⟩
              have hg1 := good_back hg []
              have hL1 : Live (backS S []) := ⟨rfl, rfl⟩
              have hst1 : (backS S []).steps ≤ (i : Int) := hst
              generalize backS S [] = S1 at *
              refine l_nil (nrm_then ?_)
              refine c_seq ?_
              refine c_rseq ?_
              refine l_v (r_move (v := .pointer _) rfl) ?_
              refine l_v (by first | exact (r_move (v := iV _) rfl) | exact (r_move rfl)) ?_
              refine l_call (r_call Try.func13 rfl rfl) ?_
              refine Calls.mono (make_c b S1 hg1 (by omega) 0 file w _ _ hs) ?_
              rintro e w_ ⟨rfl, hs⟩
              refine ⟨_, rfl, ?_⟩
              have hgm := good_make hg1 0 file
              have hlm := live_make hL1 hfile
              have hsm := steps_make S1 0 file
              generalize makeS S1 0 file = M at *
              refine l_v (r_eqli rfl rfl) ?_
              refine l_nil (nrm_then ?_)
              refine c_cond rfl (fun hm7 => ?_) (fun hm7 => ?_)
              · replace hm7 := of_decide_eq_true hm7
                refine c_rseq ?_
                refine l_v (by first | exact (r_assign (v := bV _) rfl) | exact (r_assign rfl)) ?_
                refine l_nil (nrm_then ?_)
                refine c_ret (ret_then ?_)
                show Fin _ _ _ _ _
                refine fin1 rfl ?_
                exact ⟨rfl, hs.below⟩
              · have hm7' := of_decide_eq_false hm7
                obtain ⟨_, hLm, x, hx⟩ := hlm.resolve_left hm7'
                have hfx := find_is hLm.1 hx
                have hzx := hgm.size hx
                replace hm7 := of_decide_eq_false hm7
                refine c_skip (nrm_then ?_)
                refine c_rseq ?_
                refine l_v (r_move (v := .pointer _) rfl) ?_
                refine l_v (by first | exact (r_move (v := iV _) rfl) | exact (r_move rfl)) ?_
                refine l_call (r_call Try.func14 rfl rfl) ?_
                refine Calls.mono (size_c b M.1 hgm file w _ _ hs) ?_
                rintro e w_ ⟨rfl, hb⟩
                refine ⟨_, rfl, ?_⟩
                have hs := hs.below_ hb
                rw [size_yes hfx hx]
                refine l_v (r_move rfl) ?_
                refine l_v (r_extract rfl rfl) ?_
                refine l_v (r_extract rfl rfl) ?_
                refine l_v (r_extract rfl rfl) ?_
                refine l_v (by first | exact (r_assign (v := iV _) rfl) | exact (r_assign rfl)) ?_
                refine l_v (by first | exact (r_assign (v := iV _) rfl) | exact (r_assign rfl)) ?_
                refine l_v (by first | exact (r_assign (v := iV _) rfl) | exact (r_assign rfl)) ?_
                refine l_nil (nrm_then ?_)
                refine c_rseq ?_
                refine l_v (r_move (v := .pointer _) rfl) ?_
                refine l_v (by first | exact (r_move (v := iV _) rfl) | exact (r_move rfl)) ?_
                refine l_v (by first | exact (r_move (v := iV _) rfl) | exact (r_move rfl)) ?_
                refine l_call (r_call Try.func15 rfl rfl) ?_
                refine Calls.mono (read_c b M.1 hgm file 0 (x.data.length : Int) (by decide) (by omega) w _ _ hs) ?_
                rintro e w_ ⟨rfl, hb⟩
                refine ⟨_, rfl, ?_⟩
                have hs := hs.below_ hb
                rw [all_read hLm.1 hx]
                refine l_v (r_move rfl) ?_
                refine l_v (r_extract rfl rfl) ?_
                refine l_v (r_extract rfl rfl) ?_
                refine l_v (by first | exact (r_assign (v := sV _) rfl) | exact (r_assign rfl)) ?_
                refine l_v (by first | exact (r_assign (v := iV _) rfl) | exact (r_assign rfl)) ?_
                refine l_nil (nrm_then ?_)
                refine c_seq ?_
                refine c_rseq ?_
                refine l_v (by first | exact (r_move (v := iV _) rfl) | exact (r_move rfl)) ?_
                refine l_v (r_neqi rfl rfl) ?_
                refine l_v (by first | exact (r_move (v := bV _) rfl) | exact (r_move rfl)) ?_
                refine l_vg (r_move (v := .pointer _) rfl) rfl (rfl) ?_
                refine l_vg (by first | exact (r_move (v := iV _) rfl) | exact (r_move rfl)) rfl (rfl) ?_
                refine l_vg (by first | exact (r_move (v := sV _) rfl) | exact (r_move rfl)) rfl (rfl) ?_
                refine l_callg (r_call Try.func16 rfl rfl) rfl (rfl) ?_
                refine Calls.mono (add_c b M.1 hgm (by omega) file s (by omega) w _ _ hs) ?_
                rintro e w_ ⟨rfl, hs⟩
                refine ⟨_, rfl, ?_⟩
                rcases live_add hLm hx (toL s) with ha | ⟨ha0, hLa, hxa⟩
                · rw [ha] at hs ⊢
                  refine l_vg (r_neqi rfl rfl) rfl (rfl) ?_
                  refine l_v (r_pick_f rfl rfl rfl) ?_
                  refine l_nil (nrm_then ?_)
                  refine c_true rfl (rfl) ?_
                  refine c_rseq ?_
                  refine l_v (by first | exact (r_move (v := iV _) rfl) | exact (r_move rfl)) ?_
                  refine l_v (r_eqli rfl rfl) ?_
                  refine l_v (by first | exact (r_move (v := bV _) rfl) | exact (r_move rfl)) ?_
                  refine l_vg (r_move (v := .pointer _) rfl) rfl (rfl) ?_
                  refine l_vg (by first | exact (r_move (v := iV _) rfl) | exact (r_move rfl)) rfl (rfl) ?_
                  refine l_vg (by first | exact (r_move (v := sV _) rfl) | exact (r_move rfl)) rfl (rfl) ?_
                  refine l_callg (r_call Try.func16 rfl rfl) rfl (rfl) ?_
                  refine Calls.mono (add_c b M.1 hgm (by omega) file s (by omega) w _ _ hs) ?_
                  rintro e w_ ⟨rfl, hs⟩
                  refine ⟨_, rfl, ?_⟩
                  rw [ha] at hs ⊢
                  refine l_vg (r_eqli rfl rfl) rfl (rfl) ?_
                  refine l_v (r_pick_t rfl rfl rfl) ?_
                  refine l_v (by first | exact (r_assign (v := bV _) rfl) | exact (r_assign rfl)) ?_
                  refine l_nil (nrm_then ?_)
                  refine c_ret (ret_then ?_)
                  show Fin _ _ _ _ _
                  refine fin1 rfl ?_
                  exact ⟨rfl, hs.below⟩
                · skip
                  have hga := good_add hgm file (toL s)
                  have hsa := steps_add M.1 file (toL s)
                  generalize addS M.1 file (toL s) = X at *
                  rw [ha0]
                  refine l_vg (r_neqi rfl rfl) rfl (rfl) ?_
                  refine l_v (r_pick_f rfl rfl rfl) ?_
                  refine l_nil (nrm_then ?_)
                  refine c_false rfl (rfl) ?_
                  refine c_skip (nrm_then ?_)
                  refine c_seq ?_
                  refine c_rseq ?_
                  refine l_v (r_move (v := .pointer _) rfl) ?_
                  refine l_v (by first | exact (r_move (v := iV _) rfl) | exact (r_move rfl)) ?_
                  refine l_call (r_call Try.func17 rfl rfl) ?_
                  refine Calls.mono (sync_c b X.1 hga (by omega) file w _ _ hs) ?_
                  rintro e w_ ⟨rfl, hs⟩
                  refine ⟨_, rfl, ?_⟩
                  have hgy := good_sync hga file
                  have hsy := steps_sync X.1 file
                  obtain ⟨hy0, hLy, hxy⟩ := live_sync hLa hxa
                  generalize syncS X.1 file = Y at *
                  rw [hy0]
                  refine l_v (r_neqi rfl rfl) ?_
                  refine l_nil (nrm_then ?_)
                  refine c_false rfl (rfl) ?_
                  refine c_skip (nrm_then ?_)
                  refine c_rseq ?_
                  refine l_v (r_move (v := .pointer _) rfl) ?_
                  refine l_v (by first | exact (r_move (v := iV _) rfl) | exact (r_move rfl)) ?_
                  refine l_v (by first | exact (r_move (v := sV _) rfl) | exact (r_move rfl)) ?_
                  refine l_call (r_call Try.func16 rfl rfl) ?_
                  refine Calls.mono (add_c b Y.1 hgy (by omega) file more (by omega) w _ _ hs) ?_
                  rintro e w_ ⟨rfl, hs⟩
                  refine ⟨_, rfl, ?_⟩
                  dsimp only at hxy
                  rcases live_add hLy hxy (toL more) with hc | ⟨hc0, hLz, hxz⟩
                  · rw [hc] at hs ⊢
                    refine l_v (by first | exact (r_assign (v := iV _) rfl) | exact (r_assign rfl)) ?_
                    refine l_nil (nrm_then ?_)
                    refine c_seq ?_
                    refine c_rseq ?_
                    refine l_v (by first | exact (r_move (v := iV _) rfl) | exact (r_move rfl)) ?_
                    refine l_v (r_neqi rfl rfl) ?_
                    refine l_v (by first | exact (r_move (v := bV _) rfl) | exact (r_move rfl)) ?_
                    refine l_vg (by first | exact (r_move (v := iV _) rfl) | exact (r_move rfl)) rfl (rfl) ?_
                    refine l_vg (r_neqi rfl rfl) rfl (rfl) ?_
                    refine l_v (r_pick_t rfl rfl rfl) ?_
                    refine l_nil (nrm_then ?_)
                    refine c_false rfl (rfl) ?_
                    refine c_skip (nrm_then ?_)
                    refine c_seq ?_
                    refine c_rseq ?_
                    refine l_v (by first | exact (r_move (v := iV _) rfl) | exact (r_move rfl)) ?_
                    refine l_v (r_eqli rfl rfl) ?_
                    refine l_nil (nrm_then ?_)
                    refine c_true rfl (rfl) ?_
                    refine c_region ?_
                    refine l_v (by first | exact (r_assign (v := sV _) rfl) | exact (r_assign rfl)) ?_
                    refine l_nil (nrm_then ?_)
                    refine c_rseq ?_
                    refine l_v (r_move (v := .pointer _) rfl) ?_
                    refine l_v (by first | exact (r_move (v := .slice _ _ _) rfl) | exact (r_move rfl)) ?_
                    obtain ⟨dat, hdat⟩ : ∃ dat : List UInt8, dat = (x.data ++ toL s) := ⟨_, rfl⟩
                    refine l_call (r_call Try.func12 rfl rfl) ?_
                    refine Calls.mono (back_c b Y.1 hgy A2 c2 K w _ _ hs (fun w' h => hrK.below h.below)) ?_
                    rintro e w_ ⟨⟨vk, rfl⟩, hs⟩
                    refine ⟨_, rfl, ?_⟩
                    have hgk := good_back hgy K
                    obtain ⟨q, hq1, hq2, hxk⟩ : ∃ q : Nat, (x.data ++ toL s).length ≤ q ∧ q ≤ dat.length ∧ (backS Y.1 K).get file = some ⟨x.tier, dat.take q, (q : Int)⟩ := by
                      have hgs := hgy.sure _ (fget_mem hxy)
                      have hcc := cut_le hgs (keptF K file)
                      refine ⟨_, ?_, ?_, by rw [back_get hgy.nd K hxy, hdat]; exact if_neg (fun hh => by have := hh.1; dsimp only at this; omega)⟩
                      · have := hcc.1; unfold sureB at this; rw [if_neg (by dsimp only; omega)] at this; dsimp only at this; omega
                      · rw [hdat]; exact hcc.2.1
                    have hdk : (backS Y.1 K).down = false := rfl
                    generalize backS Y.1 K = B at *
                    have hfk := find_is hdk hxk
                    have hqd : (dat.take q).length = q := by rw [List.length_take]; omega
                    refine l_nil (nrm_then ?_)
                    refine c_rseq ?_
                    refine l_v (r_move (v := .pointer _) rfl) ?_
                    refine l_v (by first | exact (r_move (v := iV _) rfl) | exact (r_move rfl)) ?_
                    refine l_call (r_call Try.func14 rfl rfl) ?_
                    refine Calls.mono (size_c b B hgk file w _ _ hs) ?_
                    rintro e w_ ⟨rfl, hb⟩
                    refine ⟨_, rfl, ?_⟩
                    have hs := hs.below_ hb
                    rw [size_yes hfk hxk]
                    dsimp only
                    rw [hqd]
                    have hxl : (ofL x.data).size = x.data.length := rfl
                    have hdz : dat.length = x.data.length + s.size + ((⟨#[]⟩ : ByteArray)).size := by rw [hdat]; rw [List.length_append, hsl]; rfl
                    have hall : ofL x.data ++ s ++ ((⟨#[]⟩ : ByteArray)) = ofL dat := Eng.toL_inj (by rw [Eng.toL_append, Eng.toL_append, Eng.toL_ofL, Eng.toL_ofL, hdat]; exact List.append_nil _)
                    have h132 : (ofL x.data ++ s).size + ((⟨#[]⟩ : ByteArray)).size ≤ 9223372036854775807 := by
                      have hmz : ((⟨#[]⟩ : ByteArray)).size ≤ 1000 := by decide
                      rw [ByteArray.size_append, hxl]; omega
                    refine l_v (r_move rfl) ?_
                    refine l_v (r_extract rfl rfl) ?_
                    refine l_v (r_extract rfl rfl) ?_
                    refine l_v (r_extract rfl rfl) ?_
                    refine l_v (by first | exact (r_assign (v := iV _) rfl) | exact (r_assign rfl)) ?_
                    refine l_v (by first | exact (r_assign (v := iV _) rfl) | exact (r_assign rfl)) ?_
                    refine l_v (by first | exact (r_assign (v := iV _) rfl) | exact (r_assign rfl)) ?_
                    refine l_nil (nrm_then ?_)
                    refine c_rseq ?_
                    refine l_v (by first | exact (r_move (v := sV _) rfl) | exact (r_move rfl)) ?_
                    refine l_v (by first | exact (r_move (v := sV _) rfl) | exact (r_move rfl)) ?_
                    refine l_v (r_adds rfl rfl (by omega)) ?_
                    refine l_v (by first | exact (r_move (v := sV _) rfl) | exact (r_move rfl)) ?_
                    refine l_v (r_adds rfl rfl h132) ?_
                    refine l_v (by first | exact (r_assign (v := sV _) rfl) | exact (r_assign rfl)) ?_
                    refine l_nil (nrm_then ?_)
                    refine c_rseq ?_
                    refine l_v (r_move (v := .pointer _) rfl) ?_
                    refine l_v (by first | exact (r_move (v := iV _) rfl) | exact (r_move rfl)) ?_
                    refine l_v (by first | exact (r_move (v := iV _) rfl) | exact (r_move rfl)) ?_
                    rw [hall]
                    have hrk : readS B file 0 (q : Int) = (dat.take q, 0) := by
                      have := all_read hdk hxk
                      dsimp only at this
                      rw [hqd] at this
                      exact this
                    refine l_call (r_call Try.func15 rfl rfl) ?_
                    refine Calls.mono (read_c b B hgk file 0 (q : Int) (by decide) (by have := hgk.size hxk; dsimp only at this; rw [hqd] at this; omega) w _ _ hs) ?_
                    rintro e w_ ⟨rfl, hb⟩
                    refine ⟨_, rfl, ?_⟩
                    have hs := hs.below_ hb
                    rw [hrk]
                    have hdl : (ofL dat).size = dat.length := rfl
                    rw [List.length_append, hsl] at hq1
                    have f153 : decide ((q : Int) ≥ ((ofL x.data).size : Int) + (s.size : Int)) = true := decide_eq_true (by omega)
                    have f159 : decide ((q : Int) ≤ ((ofL dat).size : Int)) = true := decide_eq_true (by omega)
                    have hex : (ofL dat).extract 0 ((q : Int)).toNat = ofL (dat.take q) := Eng.toL_inj (by rw [Eng.toL_extract, Eng.toL_ofL, Eng.toL_ofL]; simp)
                    have f166 : decide (ofL (dat.take q) = (ofL dat).extract 0 ((q : Int)).toNat) = true := decide_eq_true hex.symm
                    refine l_v (r_move rfl) ?_
                    refine l_v (r_extract rfl rfl) ?_
                    refine l_v (r_extract rfl rfl) ?_
                    refine l_v (by first | exact (r_assign (v := sV _) rfl) | exact (r_assign rfl)) ?_
                    refine l_v (by first | exact (r_assign (v := iV _) rfl) | exact (r_assign rfl)) ?_
                    refine l_nil (nrm_then ?_)
                    refine c_rseq ?_
                    refine l_v (by first | exact (r_move (v := iV _) rfl) | exact (r_move rfl)) ?_
                    refine l_v (r_eqli rfl rfl) ?_
                    refine l_v (by first | exact (r_move (v := bV _) rfl) | exact (r_move rfl)) ?_
                    refine l_vg (by first | exact (r_move (v := iV _) rfl) | exact (r_move rfl)) rfl (rfl) ?_
                    refine l_vg (r_eqli rfl rfl) rfl (rfl) ?_
                    refine l_v (r_pick_t rfl rfl rfl) ?_
                    refine l_v (by first | exact (r_move (v := bV _) rfl) | exact (r_move rfl)) ?_
                    refine l_vg (by first | exact (r_move (v := iV _) rfl) | exact (r_move rfl)) rfl (rfl) ?_
                    refine l_vg (by first | exact (r_move (v := sV _) rfl) | exact (r_move rfl)) rfl (rfl) ?_
                    refine l_vg (r_len_s Try.underlying9 rfl) rfl (rfl) ?_
                    refine l_vg (by first | exact (r_move (v := sV _) rfl) | exact (r_move rfl)) rfl (rfl) ?_
                    refine l_vg (r_len_s Try.underlying9 rfl) rfl (rfl) ?_
                    refine l_vg (r_addi rfl rfl (by omega)) rfl (rfl) ?_
                    refine l_vg (r_geqi rfl rfl) rfl (rfl) ?_
                    refine l_v (r_pick_t rfl rfl rfl) ?_
                    refine l_v (by first | exact (r_move (v := bV _) rfl) | exact (r_move rfl)) ?_
                    refine l_vg (by first | exact (r_move (v := iV _) rfl) | exact (r_move rfl)) rfl (f153) ?_
                    refine l_vg (by first | exact (r_move (v := sV _) rfl) | exact (r_move rfl)) rfl (f153) ?_
                    refine l_vg (r_len_s Try.underlying9 rfl) rfl (f153) ?_
                    refine l_vg (r_leqi rfl rfl) rfl (f153) ?_
                    refine l_v (r_pick_t rfl f153 rfl) ?_
                    refine l_v (by first | exact (r_move (v := bV _) rfl) | exact (r_move rfl)) ?_
                    refine l_vg (by first | exact (r_move (v := sV _) rfl) | exact (r_move rfl)) rfl (f159) ?_
                    refine l_vg (by first | exact (r_move (v := sV _) rfl) | exact (r_move rfl)) rfl (f159) ?_
                    refine l_vg (by first | exact (r_move (v := iV _) rfl) | exact (r_move rfl)) rfl (f159) ?_
                    refine l_vg (r_slice_sh (q : Int) Try.underlying9 rfl rfl (by omega)) rfl (f159) ?_
                    refine l_vg (r_eqls rfl rfl) rfl (f159) ?_
                    refine l_v (r_pick_t rfl f159 rfl) ?_
                    refine l_v (by first | exact (r_move (v := bV _) rfl) | exact (r_move rfl)) ?_
                    refine l_vg (r_move (v := .pointer _) rfl) rfl (f166) ?_
                    refine l_callg (r_call Try.func18 rfl rfl) rfl (f166) ?_
                    refine Calls.mono (down_c b B w _ _ hs) ?_
                    rintro e w_ ⟨rfl, hww⟩
                    refine ⟨_, rfl, ?_⟩
                    rw [hww, hdk]
                    refine l_vg (r_not rfl) rfl (f166) ?_
                    refine l_v (r_pick_t rfl f166 rfl) ?_
                    refine l_v (by first | exact (r_assign (v := bV _) rfl) | exact (r_assign rfl)) ?_
                    refine l_nil (nrm_then ?_)
                    refine c_ret ?_
                    show Fin _ _ _ _ _
                    refine fin1 rfl ?_
                    exact ⟨rfl, hs.below⟩
                  · skip
                    have hgz := good_add hgy file (toL more)
                    generalize addS Y.1 file (toL more) = Z at *
                    dsimp only at hxz
                    rw [hc0]
                    refine l_v (by first | exact (r_assign (v := iV _) rfl) | exact (r_assign rfl)) ?_
                    refine l_nil (nrm_then ?_)
                    refine c_seq ?_
                    refine c_rseq ?_
                    refine l_v (by first | exact (r_move (v := iV _) rfl) | exact (r_move rfl)) ?_
                    refine l_v (r_neqi rfl rfl) ?_
                    refine l_v (by first | exact (r_move (v := bV _) rfl) | exact (r_move rfl)) ?_
                    refine l_no rfl (rfl) ?_
                    refine l_no rfl (rfl) ?_
                    refine l_v (r_pick_f rfl rfl rfl) ?_
                    refine l_nil (nrm_then ?_)
                    refine c_false rfl (rfl) ?_
                    refine c_skip (nrm_then ?_)
                    refine c_seq ?_
                    refine c_rseq ?_
                    refine l_v (by first | exact (r_move (v := iV _) rfl) | exact (r_move rfl)) ?_
                    refine l_v (r_eqli rfl rfl) ?_
                    refine l_nil (nrm_then ?_)
                    refine c_false rfl (rfl) ?_
                    refine c_skip (nrm_then ?_)
                    refine c_rseq ?_
                    refine l_v (r_move (v := .pointer _) rfl) ?_
                    refine l_v (by first | exact (r_move (v := .slice _ _ _) rfl) | exact (r_move rfl)) ?_
                    obtain ⟨dat, hdat⟩ : ∃ dat : List UInt8, dat = (x.data ++ toL s ++ toL more) := ⟨_, rfl⟩
                    refine l_call (r_call Try.func12 rfl rfl) ?_
                    refine Calls.mono (back_c b Z.1 hgz A2 c2 K w _ _ hs (fun w' h => hrK.below h.below)) ?_
                    rintro e w_ ⟨⟨vk, rfl⟩, hs⟩
                    refine ⟨_, rfl, ?_⟩
                    have hgk := good_back hgz K
                    obtain ⟨q, hq1, hq2, hxk⟩ : ∃ q : Nat, (x.data ++ toL s).length ≤ q ∧ q ≤ dat.length ∧ (backS Z.1 K).get file = some ⟨x.tier, dat.take q, (q : Int)⟩ := by
                      have hgs := hgz.sure _ (fget_mem hxz)
                      have hcc := cut_le hgs (keptF K file)
                      refine ⟨_, ?_, ?_, by rw [back_get hgz.nd K hxz, hdat]; exact if_neg (fun hh => by have := hh.1; dsimp only at this; omega)⟩
                      · have := hcc.1; unfold sureB at this; rw [if_neg (by dsimp only; omega)] at this; dsimp only at this; omega
                      · rw [hdat]; exact hcc.2.1
                    have hdk : (backS Z.1 K).down = false := rfl
                    generalize backS Z.1 K = B at *
                    have hfk := find_is hdk hxk
                    have hqd : (dat.take q).length = q := by rw [List.length_take]; omega
                    refine l_nil (nrm_then ?_)
                    refine c_rseq ?_
                    refine l_v (r_move (v := .pointer _) rfl) ?_
                    refine l_v (by first | exact (r_move (v := iV _) rfl) | exact (r_move rfl)) ?_
                    refine l_call (r_call Try.func14 rfl rfl) ?_
                    refine Calls.mono (size_c b B hgk file w _ _ hs) ?_
                    rintro e w_ ⟨rfl, hb⟩
                    refine ⟨_, rfl, ?_⟩
                    have hs := hs.below_ hb
                    rw [size_yes hfk hxk]
                    dsimp only
                    rw [hqd]
                    have hxl : (ofL x.data).size = x.data.length := rfl
                    have hdz : dat.length = x.data.length + s.size + (more).size := by rw [hdat]; rw [List.length_append, List.length_append, hsl, hml]
                    have hall : ofL x.data ++ s ++ (more) = ofL dat := Eng.toL_inj (by rw [Eng.toL_append, Eng.toL_append, Eng.toL_ofL, Eng.toL_ofL, hdat])
                    have h132 : (ofL x.data ++ s).size + (more).size ≤ 9223372036854775807 := by
                      have hmz : (more).size ≤ 1000 := by omega
                      rw [ByteArray.size_append, hxl]; omega
                    refine l_v (r_move rfl) ?_
                    refine l_v (r_extract rfl rfl) ?_
                    refine l_v (r_extract rfl rfl) ?_
                    refine l_v (r_extract rfl rfl) ?_
                    refine l_v (by first | exact (r_assign (v := iV _) rfl) | exact (r_assign rfl)) ?_
                    refine l_v (by first | exact (r_assign (v := iV _) rfl) | exact (r_assign rfl)) ?_
                    refine l_v (by first | exact (r_assign (v := iV _) rfl) | exact (r_assign rfl)) ?_
                    refine l_nil (nrm_then ?_)
                    refine c_rseq ?_
                    refine l_v (by first | exact (r_move (v := sV _) rfl) | exact (r_move rfl)) ?_
                    refine l_v (by first | exact (r_move (v := sV _) rfl) | exact (r_move rfl)) ?_
                    refine l_v (r_adds rfl rfl (by omega)) ?_
                    refine l_v (by first | exact (r_move (v := sV _) rfl) | exact (r_move rfl)) ?_
                    refine l_v (r_adds rfl rfl h132) ?_
                    refine l_v (by first | exact (r_assign (v := sV _) rfl) | exact (r_assign rfl)) ?_
                    refine l_nil (nrm_then ?_)
                    refine c_rseq ?_
                    refine l_v (r_move (v := .pointer _) rfl) ?_
                    refine l_v (by first | exact (r_move (v := iV _) rfl) | exact (r_move rfl)) ?_
                    refine l_v (by first | exact (r_move (v := iV _) rfl) | exact (r_move rfl)) ?_
                    rw [hall]
                    have hrk : readS B file 0 (q : Int) = (dat.take q, 0) := by
                      have := all_read hdk hxk
                      dsimp only at this
                      rw [hqd] at this
                      exact this
                    refine l_call (r_call Try.func15 rfl rfl) ?_
                    refine Calls.mono (read_c b B hgk file 0 (q : Int) (by decide) (by have := hgk.size hxk; dsimp only at this; rw [hqd] at this; omega) w _ _ hs) ?_
                    rintro e w_ ⟨rfl, hb⟩
                    refine ⟨_, rfl, ?_⟩
                    have hs := hs.below_ hb
                    rw [hrk]
                    have hdl : (ofL dat).size = dat.length := rfl
                    rw [List.length_append, hsl] at hq1
                    have f153 : decide ((q : Int) ≥ ((ofL x.data).size : Int) + (s.size : Int)) = true := decide_eq_true (by omega)
                    have f159 : decide ((q : Int) ≤ ((ofL dat).size : Int)) = true := decide_eq_true (by omega)
                    have hex : (ofL dat).extract 0 ((q : Int)).toNat = ofL (dat.take q) := Eng.toL_inj (by rw [Eng.toL_extract, Eng.toL_ofL, Eng.toL_ofL]; simp)
                    have f166 : decide (ofL (dat.take q) = (ofL dat).extract 0 ((q : Int)).toNat) = true := decide_eq_true hex.symm
                    refine l_v (r_move rfl) ?_
                    refine l_v (r_extract rfl rfl) ?_
                    refine l_v (r_extract rfl rfl) ?_
                    refine l_v (by first | exact (r_assign (v := sV _) rfl) | exact (r_assign rfl)) ?_
                    refine l_v (by first | exact (r_assign (v := iV _) rfl) | exact (r_assign rfl)) ?_
                    refine l_nil (nrm_then ?_)
                    refine c_rseq ?_
                    refine l_v (by first | exact (r_move (v := iV _) rfl) | exact (r_move rfl)) ?_
                    refine l_v (r_eqli rfl rfl) ?_
                    refine l_v (by first | exact (r_move (v := bV _) rfl) | exact (r_move rfl)) ?_
                    refine l_vg (by first | exact (r_move (v := iV _) rfl) | exact (r_move rfl)) rfl (rfl) ?_
                    refine l_vg (r_eqli rfl rfl) rfl (rfl) ?_
                    refine l_v (r_pick_t rfl rfl rfl) ?_
                    refine l_v (by first | exact (r_move (v := bV _) rfl) | exact (r_move rfl)) ?_
                    refine l_vg (by first | exact (r_move (v := iV _) rfl) | exact (r_move rfl)) rfl (rfl) ?_
                    refine l_vg (by first | exact (r_move (v := sV _) rfl) | exact (r_move rfl)) rfl (rfl) ?_
                    refine l_vg (r_len_s Try.underlying9 rfl) rfl (rfl) ?_
                    refine l_vg (by first | exact (r_move (v := sV _) rfl) | exact (r_move rfl)) rfl (rfl) ?_
                    refine l_vg (r_len_s Try.underlying9 rfl) rfl (rfl) ?_
                    refine l_vg (r_addi rfl rfl (by omega)) rfl (rfl) ?_
                    refine l_vg (r_geqi rfl rfl) rfl (rfl) ?_
                    refine l_v (r_pick_t rfl rfl rfl) ?_
                    refine l_v (by first | exact (r_move (v := bV _) rfl) | exact (r_move rfl)) ?_
                    refine l_vg (by first | exact (r_move (v := iV _) rfl) | exact (r_move rfl)) rfl (f153) ?_
                    refine l_vg (by first | exact (r_move (v := sV _) rfl) | exact (r_move rfl)) rfl (f153) ?_
                    refine l_vg (r_len_s Try.underlying9 rfl) rfl (f153) ?_
                    refine l_vg (r_leqi rfl rfl) rfl (f153) ?_
                    refine l_v (r_pick_t rfl f153 rfl) ?_
                    refine l_v (by first | exact (r_move (v := bV _) rfl) | exact (r_move rfl)) ?_
                    refine l_vg (by first | exact (r_move (v := sV _) rfl) | exact (r_move rfl)) rfl (f159) ?_
                    refine l_vg (by first | exact (r_move (v := sV _) rfl) | exact (r_move rfl)) rfl (f159) ?_
                    refine l_vg (by first | exact (r_move (v := iV _) rfl) | exact (r_move rfl)) rfl (f159) ?_
                    refine l_vg (r_slice_sh (q : Int) Try.underlying9 rfl rfl (by omega)) rfl (f159) ?_
                    refine l_vg (r_eqls rfl rfl) rfl (f159) ?_
                    refine l_v (r_pick_t rfl f159 rfl) ?_
                    refine l_v (by first | exact (r_move (v := bV _) rfl) | exact (r_move rfl)) ?_
                    refine l_vg (r_move (v := .pointer _) rfl) rfl (f166) ?_
                    refine l_callg (r_call Try.func18 rfl rfl) rfl (f166) ?_
                    refine Calls.mono (down_c b B w _ _ hs) ?_
                    rintro e w_ ⟨rfl, hww⟩
                    refine ⟨_, rfl, ?_⟩
                    rw [hww, hdk]
                    refine l_vg (r_not rfl) rfl (f166) ?_
                    refine l_v (r_pick_t rfl f166 rfl) ?_
                    refine l_v (by first | exact (r_assign (v := bV _) rfl) | exact (r_assign rfl)) ?_
                    refine l_nil (nrm_then ?_)
                    refine c_ret ?_
                    show Fin _ _ _ _ _
                    refine fin1 rfl ?_
                    exact ⟨rfl, hs.below⟩
  · have f : (!bf) = true := by rw [hbf]; rfl
    refine l_v (by first | exact (r_move (v := bV _) rfl) | exact (r_move rfl)) ?_
    refine l_no rfl (f) ?_
    refine l_no rfl (f) ?_
    refine l_no rfl (f) ?_
    refine l_v (r_pick_t rfl f rfl) ?_
    refine l_v (by first | exact (r_move (v := bV _) rfl) | exact (r_move rfl)) ?_
    refine l_no rfl (rfl) ?_
    refine l_no rfl (rfl) ?_
    refine l_no rfl (rfl) ?_
    refine l_v (r_pick_t rfl rfl rfl) ?_
    refine l_v (by first | exact (r_move (v := bV _) rfl) | exact (r_move rfl)) ?_
    refine l_no rfl (rfl) ?_
    refine l_no rfl (rfl) ?_
    refine l_v (r_pick_t rfl rfl rfl) ?_
    refine l_nil (nrm_then ?_)
    refine c_true rfl (rfl) ?_
    refine c_rseq ?_
    refine l_call (r_call Try.func8 rfl rfl) ?_
    refine Calls.mono (awake_c _) ?_
    rintro e w_ ⟨rfl, hb⟩
    refine ⟨_, rfl, ?_⟩
    have hs := hs.below_ hb
    refine l_v (by first | exact (r_assign (v := bV _) rfl) | exact (r_assign rfl)) ?_
    refine l_nil (nrm_then ?_)
    refine c_ret (ret_then ?_)
    show Fin _ _ _ _ _
    refine fin1 rfl ?_
    exact ⟨rfl, hs.below⟩
end Go.Proofs.Ytnneoipoaoefkaa.Dsk
