/- The walk of the law DiskRoom. -/
import Derived.Test.YtnneoipoaoefkaaDskRoomFn
import Derived.Test.YtnneoipoaoefkaaDskFiles
import Derived.Test.YtnneoipoaoefkaaFloatC
namespace Go.Proofs.Ytnneoipoaoefkaa.Dsk
open Go Go.RowKit Go.ChangeShapes Go.WideShapes Go.Proofs.Ytnneoipoaoefkaa.Eng
set_option linter.unusedVariables false
set_option maxRecDepth 100000
set_option maxHeartbeats 2000000 in
theorem rblocks_c (n : Nat) (hn : n ≤ 1099511627776) (w : World) : Calls Try.prog 25 #[iV (n : Int)] w fun e w' => e = .returned (iV (blocksN n : Int)) ∧ Below w.heap.size w w' := by
  refine enter (P := Try.prog) Try.func25 rfl rfl ?_
  have hs := Sep.init w
  refine c_rseq ?_
  refine l_v (by first | exact (r_assign (v := iV _) rfl) | exact (r_assign rfl)) ?_
  refine l_nil (nrm_then ?_)
  refine c_seq ?_
  refine c_rseq ?_
  refine l_v (by first | exact (r_move (v := iV _) rfl) | exact (r_move rfl)) ?_
  refine l_v (r_remi rfl rfl (by omega) (by decide)) ?_
  refine l_v (r_eqli rfl rfl) ?_
  refine l_nil (nrm_then ?_)
  refine c_cond rfl (fun h1 => ?_) (fun h1 => ?_)
  · have h1' := of_decide_eq_true h1
    replace h1 := of_decide_eq_true h1
    refine c_rseq ?_
    refine l_v (by first | exact (r_move (v := iV _) rfl) | exact (r_move rfl)) ?_
    refine l_v (r_quoi rfl rfl (by omega) (by decide)) ?_
    refine l_v (r_addi rfl rfl (by omega)) ?_
    refine l_v (by first | exact (r_assign (v := iV _) rfl) | exact (r_assign rfl)) ?_
    refine l_nil (nrm_then ?_)
    refine c_ret (ret_then ?_)
    show Fin _ _ _ _ _
    refine fin1 rfl ?_
    refine ⟨?_, hs.below⟩
    have e : (1 : Int) + (n : Int) / 64 = (blocksN n : Int) := by unfold blocksN; omega
    rw [e]; rfl
  · have h1' := of_decide_eq_false h1
    replace h1 := of_decide_eq_false h1
    refine c_skip (nrm_then ?_)
    refine c_rseq ?_
    refine l_v (by first | exact (r_move (v := iV _) rfl) | exact (r_move rfl)) ?_
    refine l_v (r_quoi rfl rfl (by omega) (by decide)) ?_
    refine l_v (r_addi rfl rfl (by omega)) ?_
    refine l_v (by first | exact (r_assign (v := iV _) rfl) | exact (r_assign rfl)) ?_
    refine l_nil (nrm_then ?_)
    refine c_ret ?_
    show Fin _ _ _ _ _
    refine fin1 rfl ?_
    refine ⟨?_, hs.below⟩
    have e : (2 : Int) + (n : Int) / 64 = (blocksN n : Int) := by unfold blocksN; omega
    rw [e]; rfl
theorem num_cell {w0 w : World} {ad : Addr} {zs : List Int} {c i : Nat} {n : Int} {L : List HP} (hs : Eng.Sep w0 w (RowC 3 1 (.slice (some ad) zs.length c) zs.length (zs.map iV) :: L)) (h : zs[i]? = some n) : w.cell? (ad.add i) = some (iV n) := by
  have hi := (List.getElem?_eq_some_iff.1 h).1
  obtain ⟨ad', e, hc⟩ := hs.rd.ad (by omega)
  injection e with e
  subst e
  exact hc i _ (by rw [List.getElem?_map, h]; rfl)
theorem beq_no (a : Bool) : ((!a) == a) = false := by cases a <;> rfl
set_option maxHeartbeats 16000000 in
theorem diskRoom_walk {w : World} (x y : UInt8) (A : Option Addr) (c : Nat) (os : List OpS) (hr : Rd w 7 A os.length (os.flatMap opC)) (hcap : os.length ≤ c) (hok : ∀ o ∈ os, opok w o) :
    Calls Try.prog 6 #[u8V x, u8V y, .slice A os.length c] w fun e w' => e = .returned (bV true) ∧ Below w.heap.size w w' := by
  have hn := hr.2.1
  have hx8 : x.toNat ≤ 255 := by have := x.toNat_lt; omega
  have hy8 : y.toNat ≤ 255 := by have := y.toNat_lt; omega
  refine enter (P := Try.prog) Try.func6 rfl rfl ?_
  have hs := Sep.init w
  refine c_rseq ?_
  refine l_v (by first | exact (r_assign (v := bV _) rfl) | exact (r_assign rfl)) ?_
  refine l_nil (nrm_then ?_)
  refine c_seq ?_
  refine c_rseq ?_
  refine l_call (r_call Try.func8 rfl rfl) ?_
  refine Calls.mono (awake_c _) ?_
  rintro e w_ ⟨rfl, hb⟩
  refine ⟨_, rfl, ?_⟩
  have hs := hs.below_ hb
  refine l_v (r_not rfl) ?_
  refine l_v (by first | exact (r_move (v := bV _) rfl) | exact (r_move rfl)) ?_
  refine l_vg (by first | exact (r_move (v := .slice _ _ _) rfl) | exact (r_move rfl)) rfl (rfl) ?_
  refine l_callg (r_call Try.func9 rfl rfl) rfl (rfl) ?_
  refine Calls.mono (few_c A c os _ (hr.below hs.below)) ?_
  rintro e w_ ⟨bf, rfl, hfew, hb2⟩
  refine ⟨_, rfl, ?_⟩
  have hs := hs.below_ hb2
  refine l_vg (r_not rfl) rfl (rfl) ?_
  refine l_v (r_pick_f rfl rfl rfl) ?_
  refine l_nil (nrm_then ?_)
  rcases Bool.eq_false_or_eq_true bf with hbf | hbf
  · have f : (!bf) = false := by rw [hbf]; rfl
    obtain ⟨hl2, hx3, hz3⟩ := hfew hbf
    refine c_false rfl (f) ?_
    refine c_skip (nrm_then ?_)
    refine c_rseq ?_
    refine l_v (by first | exact (r_move (v := u8V _) rfl) | exact (r_move rfl)) ?_
    refine l_v (r_cv_8i Try.underlying5 Try.underlying3 rfl) ?_
    refine l_v (by first | exact (r_move (v := u8V _) rfl) | exact (r_move rfl)) ?_
    refine l_v (r_cv_8i Try.underlying5 Try.underlying3 rfl) ?_
    refine l_call (r_call Try.func10 rfl rfl) ?_
    refine Calls.mono (new_ok (x.toNat : Int) (y.toNat : Int) (by omega) w _ _ hs) ?_
    rintro e w_ ⟨b, rfl, hs⟩
    refine ⟨_, rfl, ?_⟩
    refine l_v (r_move rfl) ?_
    refine l_v (r_extract rfl rfl) ?_
    refine l_v (r_extract rfl rfl) ?_
    refine l_v (r_assign (v := .pointer _) rfl) ?_
    refine l_v (by first | exact (r_assign (v := iV _) rfl) | exact (r_assign rfl)) ?_
    refine l_nil (nrm_then ?_)
    refine c_seq ?_
    refine c_rseq ?_
    refine l_v (by first | exact (r_assign (v := iV _) rfl) | exact (r_assign rfl)) ?_
    refine l_nil (nrm_then ?_)
    refine c_block ?_
    have hg0 := good_new (hot := (x.toNat : Int)) (cold := (y.toNat : Int)) (by omega) (by omega)
    refine c_loopn [0, 1, 2, 7] (fun m f' w' => ∃ i S, i + m = os.length ∧ f' 9 = iV (i : Int) ∧ GoodS S ∧ RI S ∧ KB S ∧ S.room = (newS (x.toNat : Int) (y.toNat : Int)).room ∧ S.steps ≤ (i : Int) ∧ Eng.Sep w w' (diskH b S :: [])) ?_ ?_
    · exact ⟨os.length, 0, _, by omega, rfl, hg0, ⟨rfl, rfl, .inl rfl⟩, (fun q hq => by cases hq), rfl, by show (0 : Int) ≤ 0; omega, hs⟩
    · rintro m g w_ ⟨i, S, hi, h9, hg, hri, hkb, hrm, hst, hs⟩
      refine OkC.env ?_ (fixH (L := [(9, _)]) ⟨h9, trivial⟩)
      clear h9
      refine c_seq ?_
      refine c_rseq ?_
      refine l_v (by first | exact (r_move (v := iV _) rfl) | exact (r_move rfl)) ?_
      refine l_v (by first | exact (r_move (v := .slice _ _ _) rfl) | exact (r_move rfl)) ?_
      refine l_v (r_len_l Try.underlying22 rfl) ?_
      refine l_v (r_lssi rfl rfl) ?_
      refine l_nil (nrm_then ?_)
      refine c_cond rfl (fun h1 => ?_) (fun h1 => ?_)
      · have hil : i < os.length := by have := of_decide_eq_true h1; omega
        obtain ⟨o, hoi⟩ : ∃ o, os[i]? = some o := ⟨os[i], List.getElem?_eq_getElem hil⟩
        have hom := List.mem_of_getElem? hoi
        have hoo := hok o hom
        have hox := hx3 o hom
        have hr1 : ∀ w', Below w.heap.size w w' → Rd w' 7 A os.length (os.flatMap opC) := fun w' h => hr.below h
        obtain ⟨ad, rfl, _⟩ := hr.ad (by omega)
        have hX : ∀ w', Below w.heap.size w w' → ∀ j u, (opC o)[j]? = some u → w'.cell? ((ad.add (i * 7)).add j) = some u := fun w' h => rd_item (hr1 w' h) (fun y _ => rfl) (by decide) hoi
        replace h1 := of_decide_eq_true h1
        refine c_skip (nrm_then ?_)
        refine c_seq ?_
        refine c_block ?_
        refine c_rseq ?_
        refine l_v (r_move (v := .pointer _) rfl) ?_
        refine l_call (r_call Try.func23 rfl rfl) ?_
        refine Calls.mono (used_c b S 0 (by decide) w _ _ hs) ?_
        rintro e w_ ⟨rfl, hww⟩
        refine ⟨_, rfl, ?_⟩
        rw [hww]
        refine l_v (r_move (v := .pointer _) rfl) ?_
        refine l_call (r_call Try.func23 rfl rfl) ?_
        refine Calls.mono (used_c b S 1 (by decide) w _ _ hs) ?_
        rintro e w_ ⟨rfl, hww⟩
        refine ⟨_, rfl, ?_⟩
        rw [hww]
        refine l_v (r_move (v := .pointer _) rfl) ?_
        refine l_call (r_call Try.func24 rfl rfl) ?_
        refine Calls.mono (files_c b S hg hkb w _ _ hs) ?_
        rintro e w_ ⟨v, zs, rfl, hz, hs⟩
        refine ⟨_, rfl, ?_⟩
        obtain ⟨Az, cz, rfl, hcz⟩ := hs.rowForm
        have hs := hs.drop
        refine l_v (r_len_l Try.underlying47 rfl) ?_
        refine l_v (by first | exact (r_assign (v := iV _) rfl) | exact (r_assign rfl)) ?_
        refine l_v (by first | exact (r_assign (v := iV _) rfl) | exact (r_assign rfl)) ?_
        refine l_v (by first | exact (r_assign (v := iV _) rfl) | exact (r_assign rfl)) ?_
        refine l_nil (nrm_then ?_)
        refine c_rseq ?_
        refine l_v (r_move (v := .pointer _) rfl) ?_
        refine l_call (r_call Try.func19 rfl rfl) ?_
        refine Calls.mono (root_c b S w _ _ hs) ?_
        rintro e w_ ⟨rfl, hww⟩
        refine ⟨_, rfl, ?_⟩
        rw [hww]
        refine l_v (by first | exact (r_assign (v := iV _) rfl) | exact (r_assign rfl)) ?_
        refine l_nil (nrm_then ?_)
        refine c_rseq ?_
        refine l_v (r_move (v := .pointer _) rfl) ?_
        refine l_v (by first | exact (r_move (v := .slice _ _ _) rfl) | exact (r_move rfl)) ?_
        refine l_v (by first | exact (r_move (v := iV _) rfl) | exact (r_move rfl)) ?_
        refine l_v (r_indexAddr_l (k := i) Try.underlying22 I32 rfl rfl hil) ?_
        refine l_v (r_load_aggP Try.underlying32 I32 rfl (hX _ hs.below) rfl) ?_
        refine l_call (r_call Try.func11 rfl rfl) ?_
        refine Calls.mono (do_c b S hg (by omega) o (by omega) w _ _ hs hoo.1) ?_
        rintro e w_ ⟨rfl, hs⟩
        refine ⟨_, rfl, ?_⟩
        have hg2 := good_do hg o
        have hri2 := (root_do hg hri o).1
        have hkb2 := kb_do hkb o hoo.2.1.2
        have hst2 := do_steps S o
        have hrm2 := (room_do S o).trans hrm
        have hsame := same_do hri o
        generalize doS S o = T at *
        have hu0 := (hg2.le 0 (by decide)).1
        have hu1 := (hg2.le 1 (by decide)).1
        rw [hrm2] at hu0 hu1
        have hu0 : T.1.used 0 ≤ (x.toNat : Int) := hu0
        have hu1 : T.1.used 1 ≤ (y.toNat : Int) := hu1
        have f62 : decide (T.1.used 0 > (x.toNat : Int)) = false := decide_eq_false (by omega)
        have f68 : decide (T.1.used 1 > (y.toNat : Int)) = false := decide_eq_false (by omega)
        refine l_v (by first | exact (r_assign (v := iV _) rfl) | exact (r_assign rfl)) ?_
        refine l_nil (nrm_then ?_)
        refine c_seq ?_
        refine c_rseq ?_
        refine l_v (r_move (v := .pointer _) rfl) ?_
        refine l_call (r_call Try.func23 rfl rfl) ?_
        refine Calls.mono (used_c b T.1 0 (by decide) w _ _ hs) ?_
        rintro e w_ ⟨rfl, hww⟩
        refine ⟨_, rfl, ?_⟩
        rw [hww]
        refine l_v (by first | exact (r_move (v := u8V _) rfl) | exact (r_move rfl)) ?_
        refine l_v (r_cv_8i Try.underlying5 Try.underlying3 rfl) ?_
        refine l_v (r_gtri rfl rfl) ?_
        refine l_v (by first | exact (r_move (v := bV _) rfl) | exact (r_move rfl)) ?_
        refine l_vg (r_move (v := .pointer _) rfl) rfl (f62) ?_
        refine l_callg (r_call Try.func23 rfl rfl) rfl (f62) ?_
        refine Calls.mono (used_c b T.1 1 (by decide) w _ _ hs) ?_
        rintro e w_ ⟨rfl, hww⟩
        refine ⟨_, rfl, ?_⟩
        rw [hww]
        refine l_vg (by first | exact (r_move (v := u8V _) rfl) | exact (r_move rfl)) rfl (f62) ?_
        refine l_vg (r_cv_8i Try.underlying5 Try.underlying3 rfl) rfl (f62) ?_
        refine l_vg (r_gtri rfl rfl) rfl (f62) ?_
        refine l_v (r_pick_f rfl f62 rfl) ?_
        refine l_nil (nrm_then ?_)
        refine c_false rfl (f68) ?_
        refine c_skip (nrm_then ?_)
        refine c_rseq ?_
        refine l_v (by first | exact (r_move (v := iV _) rfl) | exact (r_move rfl)) ?_
        refine l_v (r_neqi rfl rfl) ?_
        by_cases he : T.2 = 0
        · have f71 : decide (T.2 ≠ 0) = false := decide_eq_false (fun h => h he)
          refine l_v (by first | exact (r_move (v := bV _) rfl) | exact (r_move rfl)) ?_
          refine l_no rfl (f71) ?_
          refine l_no rfl (f71) ?_
          refine l_no rfl (f71) ?_
          refine l_no rfl (f71) ?_
          refine l_no rfl (f71) ?_
          refine l_skip (.inr rfl) ?_
          refine l_skip (.inr rfl) ?_
          refine l_skip (.inr rfl) ?_
          refine l_skip (.inr rfl) ?_
          refine l_no rfl (f71) ?_
          refine l_no rfl (f71) ?_
          refine l_skip (.inr rfl) ?_
          refine l_skip (.inr rfl) ?_
          refine l_skip (.inr rfl) ?_
          refine l_skip (.inr rfl) ?_
          refine l_skip (.inr rfl) ?_
          refine l_no rfl (f71) ?_
          refine l_no rfl (f71) ?_
          refine l_skip (.inr rfl) ?_
          refine l_skip (.inr rfl) ?_
          refine l_skip (.inr rfl) ?_
          refine l_skip (.inr rfl) ?_
          refine l_no rfl (f71) ?_
          refine l_v (r_pick_f rfl f71 rfl) ?_
          refine l_nil (nrm_then ?_)
          refine c_false rfl (rfl) ?_
          refine c_skip (nrm_block (nrm_then ?_))
          refine c_region ?_
          refine l_v (by first | exact (r_move (v := iV _) rfl) | exact (r_move rfl)) ?_
          refine l_v (r_addi rfl rfl (by omega)) ?_
          refine l_v (by first | exact (r_assign (v := iV _) rfl) | exact (r_assign rfl)) ?_
          refine l_nil (nrm_then ?_)
          refine And.intro (by refine ⟨?_, ?_, ?_, ?_, trivial⟩ <;> ((conv => lhs; whnf); (try conv => rhs; whnf))) ?_
          exact ⟨os.length - (i + 1), by omega, i + 1, T.1, by omega, rfl, hg2, hri2, hkb2, hrm2, by omega, hs⟩
        · have f71 : decide (T.2 ≠ 0) = true := decide_eq_true he
          have hTS := hsame he
          have f76 : decide (T.1.used 0 ≠ S.used 0) = false := decide_eq_false (fun h => h (by rw [hTS]))
          have f81 : decide (T.1.used 1 ≠ S.used 1) = false := decide_eq_false (fun h => h (by rw [hTS]))
          have f94 : decide (T.1.root ≠ S.root) = false := decide_eq_false (fun h => h (by rw [hTS]))
          refine l_v (by first | exact (r_move (v := bV _) rfl) | exact (r_move rfl)) ?_
          refine l_vg (r_move (v := .pointer _) rfl) rfl (f71) ?_
          refine l_callg (r_call Try.func23 rfl rfl) rfl (f71) ?_
          refine Calls.mono (used_c b T.1 0 (by decide) w _ _ hs) ?_
          rintro e w_ ⟨rfl, hww⟩
          refine ⟨_, rfl, ?_⟩
          rw [hww]
          refine l_vg (by first | exact (r_move (v := iV _) rfl) | exact (r_move rfl)) rfl (f71) ?_
          refine l_vg (r_neqi rfl rfl) rfl (f71) ?_
          refine l_vg (by first | exact (r_move (v := bV _) rfl) | exact (r_move rfl)) rfl (f71) ?_
          refine l_vg (r_move (v := .pointer _) rfl) rfl (f76) ?_
          refine l_callg (r_call Try.func23 rfl rfl) rfl (f76) ?_
          refine Calls.mono (used_c b T.1 1 (by decide) w _ _ hs) ?_
          rintro e w_ ⟨rfl, hww⟩
          refine ⟨_, rfl, ?_⟩
          rw [hww]
          refine l_vg (by first | exact (r_move (v := iV _) rfl) | exact (r_move rfl)) rfl (f76) ?_
          refine l_vg (r_neqi rfl rfl) rfl (f76) ?_
          refine l_vg (r_pick_f rfl f76 rfl) rfl (f71) ?_
          refine l_vg (by first | exact (r_move (v := bV _) rfl) | exact (r_move rfl)) rfl (f71) ?_
          refine l_vg (r_move (v := .pointer _) rfl) rfl (f81) ?_
          refine l_callg (r_call Try.func24 rfl rfl) rfl (f81) ?_
          refine Calls.mono (files_c b T.1 hg2 hkb2 w _ _ hs) ?_
          rintro e w_ ⟨v2, zs2, rfl, hz2, hs⟩
          refine ⟨_, rfl, ?_⟩
          obtain ⟨Az2, cz2, rfl, hcz2⟩ := hs.rowForm
          have hs := hs.drop
          have f88 : decide ((zs2.length : Int) ≠ (zs.length : Int)) = false := decide_eq_false (fun h => h (by
            have h1 := hz.length_eq
            have h2 := hz2.length_eq
            rw [hTS] at h2
            omega))
          refine l_vg (r_len_l Try.underlying47 rfl) rfl (f81) ?_
          refine l_vg (by first | exact (r_move (v := iV _) rfl) | exact (r_move rfl)) rfl (f81) ?_
          refine l_vg (r_neqi rfl rfl) rfl (f81) ?_
          refine l_vg (r_pick_f rfl f81 rfl) rfl (f71) ?_
          refine l_vg (by first | exact (r_move (v := bV _) rfl) | exact (r_move rfl)) rfl (f71) ?_
          refine l_vg (r_move (v := .pointer _) rfl) rfl (f88) ?_
          refine l_callg (r_call Try.func19 rfl rfl) rfl (f88) ?_
          refine Calls.mono (root_c b T.1 w _ _ hs) ?_
          rintro e w_ ⟨rfl, hww⟩
          refine ⟨_, rfl, ?_⟩
          rw [hww]
          refine l_vg (by first | exact (r_move (v := iV _) rfl) | exact (r_move rfl)) rfl (f88) ?_
          refine l_vg (r_neqi rfl rfl) rfl (f88) ?_
          refine l_vg (r_pick_f rfl f88 rfl) rfl (f71) ?_
          refine l_v (r_pick_t rfl f71 rfl) ?_
          refine l_nil (nrm_then ?_)
          refine c_false rfl (f94) ?_
          refine c_skip (nrm_block (nrm_then ?_))
          refine c_region ?_
          refine l_v (by first | exact (r_move (v := iV _) rfl) | exact (r_move rfl)) ?_
          refine l_v (r_addi rfl rfl (by omega)) ?_
          refine l_v (by first | exact (r_assign (v := iV _) rfl) | exact (r_assign rfl)) ?_
          refine l_nil (nrm_then ?_)
          refine And.intro (by refine ⟨?_, ?_, ?_, ?_, trivial⟩ <;> ((conv => lhs; whnf); (try conv => rhs; whnf))) ?_
          exact ⟨os.length - (i + 1), by omega, i + 1, T.1, by omega, rfl, hg2, hri2, hkb2, hrm2, by omega, hs⟩
      · replace h1 := of_decide_eq_false h1
        refine c_exit (ex_then (ex_then (ex_hit (nrm_then ?_))))
        refine c_rseq ?_
        refine l_v (r_move (v := .pointer _) rfl) ?_
        refine l_call (r_call Try.func12 rfl rfl) ?_
        refine Calls.mono (back_c b S hg none 0 [] w _ _ hs (fun w' h => Rd.none_ _ _ _)) ?_
        rintro e w_ ⟨⟨vb, rfl⟩, hs⟩
        refine ⟨_, rfl, ?_⟩
        have hgB : GoodS (backS S []) := good_do hg oBack
        have hriB : RI (backS S []) := (root_do hg hri oBack).1
        have hkB : KB (backS S []) := kb_do hkb oBack (by decide)
        have hstB : (backS S []).steps ≤ 200 := by show S.steps ≤ 200; omega
        generalize backS S [] = B at *
        have hfB := hgB.few
        refine l_nil (nrm_then ?_)
        refine c_rseq ?_
        refine l_v (r_move (v := .pointer _) rfl) ?_
        refine l_call (r_call Try.func24 rfl rfl) ?_
        refine Calls.mono (files_c b B hgB hkB w _ _ hs) ?_
        rintro e w_ ⟨v, zs, rfl, hz, hs⟩
        refine ⟨_, rfl, ?_⟩
        obtain ⟨Az, cz, rfl, hcz⟩ := hs.rowForm
        have hzl : zs.length = B.files.length := by have := hz.length_eq; rwa [List.length_map] at this
        have hznd : zs.Nodup := hz.nodup_iff.2 hgB.nd
        refine l_v (by first | exact (r_assign (v := .slice _ _ _) rfl) | exact (r_assign rfl)) ?_
        refine l_nil (nrm_then ?_)
        refine c_seq ?_
        refine c_rseq ?_
        refine l_v (by first | exact (r_assign (v := iV _) rfl) | exact (r_assign rfl)) ?_
        refine l_nil (nrm_then ?_)
        refine c_block ?_
        refine c_loopn [7, 15] (fun m f' w' => ∃ i T, i + m = zs.length ∧ f' 16 = iV (i : Int) ∧ DropI B (zs.take i) T ∧ T.steps ≤ 200 + (i : Int) ∧ Eng.Sep w w' (RowC 3 1 (.slice Az zs.length cz) zs.length (zs.map iV) :: diskH b T :: [])) ?_ ?_
        · exact ⟨zs.length, 0, B, by omega, rfl, drop_start hgB hriB, by omega, hs⟩
        · rintro m g w_ ⟨i, T, hi, h16, hd, hst2, hs⟩
          refine OkC.env ?_ (fixH (L := [(16, _)]) ⟨h16, trivial⟩)
          clear h16
          refine c_seq ?_
          refine c_rseq ?_
          refine l_v (by first | exact (r_move (v := iV _) rfl) | exact (r_move rfl)) ?_
          refine l_v (by first | exact (r_move (v := .slice _ _ _) rfl) | exact (r_move rfl)) ?_
          refine l_v (r_len_l Try.underlying47 rfl) ?_
          refine l_v (r_lssi rfl rfl) ?_
          refine l_nil (nrm_then ?_)
          refine c_cond rfl (fun h2 => ?_) (fun h2 => ?_)
          · have hil : i < zs.length := by have := of_decide_eq_true h2; omega
            obtain ⟨n, hni⟩ : ∃ n, zs[i]? = some n := ⟨zs[i], List.getElem?_eq_getElem hil⟩
            have hnm : n ∈ zs := List.mem_of_getElem? hni
            have hnew : n ∉ zs.take i := by
              intro h
              obtain ⟨j, hj⟩ := List.mem_iff_getElem?.1 h
              rw [List.getElem?_take] at hj
              split at hj
              · rename_i hji
                have := (List.getElem?_inj (by omega) hznd).1 (hj.trans hni.symm)
                omega
              · cases hj
            have htk : zs.take (i + 1) = zs.take i ++ [n] := by rw [List.take_add_one, hni]; rfl
            have hbs : (B.get n).isSome = true := (mem_keys n).1 (hz.mem_iff.1 hnm)
            obtain ⟨hd2, hdec, hst3⟩ := drop_step hd hnew hbs
            obtain ⟨ad, hAz, _⟩ := hs.rd.ad (by omega)
            subst hAz
            have hcell := num_cell hs hni
            replace h2 := of_decide_eq_true h2
            refine c_skip (nrm_then ?_)
            refine c_seq ?_
            refine c_block ?_
            refine c_seq ?_
            have hs := hs.drew
            refine c_floatG (fun w' => w'.cell? (ad.add i) = some (iV n)) [12, 5] 14 (by kernel_rfl) (by kernel_rfl) (hcell) ?_
            show OkG _ _ _ _ _ _ (_ :: _) 0 _ _
            refine g_v (fun wl hbl => by exact (r_move (v := .pointer _) rfl)) ?_
            refine g_v (fun wl hbl => by first | exact (r_move (v := .slice _ _ _) rfl) | exact (r_move rfl)) ?_
            refine g_v (fun wl hbl => by first | exact (r_move (v := iV _) rfl) | exact (r_move rfl)) ?_
            refine g_v (fun wl hbl => by exact (r_indexAddr_l1 (k := i) Try.underlying47 I3 rfl rfl hil)) ?_
            refine g_v (fun wl hbl => by exact (r_load Try.underlying3 rfl hbl)) ?_
            refine g_call (r_call Try.func20 rfl rfl) ?_
            refine Calls.mono (drop_c b T hd.good (by omega) n w _ _ (hs.pull 1)) ?_
            rintro e w_ ⟨rfl, hs⟩
            refine ⟨_, rfl, num_cell (hs.pull 1) hni, ?_⟩
            have hro := hd2.root
            generalize dropS T n = U at *
            refine g_v (fun wl hbl => by exact (r_eqli rfl rfl)) ?_
            refine g_v (fun wl hbl => by first | exact (r_move (v := .slice _ _ _) rfl) | exact (r_move rfl)) ?_
            refine g_v (fun wl hbl => by first | exact (r_move (v := iV _) rfl) | exact (r_move rfl)) ?_
            refine g_v (fun wl hbl => by exact (r_indexAddr_l1 (k := i) Try.underlying47 I3 rfl rfl hil)) ?_
            refine g_v (fun wl hbl => by exact (r_load Try.underlying3 rfl hbl)) ?_
            refine g_v (fun wl hbl => by exact (r_move (v := .pointer _) rfl)) ?_
            refine g_call (r_call Try.func19 rfl rfl) ?_
            refine Calls.mono (root_c b U.1 w _ _ hs) ?_
            rintro e w_ ⟨rfl, hww⟩
            refine ⟨_, rfl, (by rw [hww]; exact num_cell (hs.pull 1) hni), ?_⟩
            rw [hww]
            refine g_v (fun wl hbl => by exact (r_eqli rfl rfl)) ?_
            refine g_nil ?_
            show OkL _ _ _ _ (_ :: _) _ _
            refine l_v (r_eqlb Try.underlying4 rfl rfl) ?_
            refine l_nil (nrm_then ?_)
            have f121 : (decide (U.2 = 0) == decide (n = U.1.root)) = false := by rw [hdec, hro]; exact beq_no _
            refine c_false rfl (f121) ?_
            refine c_skip (nrm_block (nrm_then ?_))
            refine c_region ?_
            refine l_v (by first | exact (r_move (v := iV _) rfl) | exact (r_move rfl)) ?_
            refine l_v (r_addi rfl rfl (by omega)) ?_
            refine l_v (by first | exact (r_assign (v := iV _) rfl) | exact (r_assign rfl)) ?_
            refine l_nil (nrm_then ?_)
            refine And.intro (by refine ⟨?_, ?_, trivial⟩ <;> ((conv => lhs; whnf); (try conv => rhs; whnf))) ?_
            exact ⟨zs.length - (i + 1), by omega, i + 1, U.1, by omega, rfl, by rw [htk]; exact hd2, by omega, hs.pull 1⟩
          · obtain rfl : i = zs.length := by have := of_decide_eq_false h2; omega
            rw [List.take_length] at hd
            have hend := drop_end hd hgB hz
            have hs := hs.drop
            have hu0 := hd.good.le 0 (by decide)
            have hu1 := hd.good.le 1 (by decide)
            have hs0 := hd.good.sum 0 (by decide)
            have hs1 := hd.good.sum 1 (by decide)
            replace h2 := of_decide_eq_false h2
            refine c_exit (ex_then (ex_then (ex_hit (nrm_then ?_))))
            refine c_rseq ?_
            refine l_v (by first | exact (r_assign (v := iV _) rfl) | exact (r_assign rfl)) ?_
            refine l_nil (nrm_then ?_)
            refine c_seq ?_
            refine c_rseq ?_
            refine l_v (r_move (v := .pointer _) rfl) ?_
            refine l_call (r_call Try.func19 rfl rfl) ?_
            refine Calls.mono (root_c b T w _ _ hs) ?_
            rintro e w_ ⟨rfl, hww⟩
            refine ⟨_, rfl, ?_⟩
            rw [hww]
            refine l_v (r_gtri rfl rfl) ?_
            refine l_nil (nrm_then ?_)
            rcases hend with ⟨hr0, hsum⟩ | ⟨hr0, xf, hxf, hsum⟩
            · refine c_false rfl ((decide_eq_false (by omega))) ?_
              refine c_skip (nrm_then ?_)
              refine c_rseq ?_
              refine l_v (r_move (v := .pointer _) rfl) ?_
              refine l_call (r_call Try.func23 rfl rfl) ?_
              refine Calls.mono (used_c b T 0 (by decide) w _ _ hs) ?_
              rintro e w_ ⟨rfl, hww⟩
              refine ⟨_, rfl, ?_⟩
              rw [hww]
              refine l_v (r_move (v := .pointer _) rfl) ?_
              refine l_call (r_call Try.func23 rfl rfl) ?_
              refine Calls.mono (used_c b T 1 (by decide) w _ _ hs) ?_
              rintro e w_ ⟨rfl, hww⟩
              refine ⟨_, rfl, ?_⟩
              rw [hww]
              refine l_v (r_addi rfl rfl (by omega)) ?_
              refine l_v (by first | exact (r_move (v := iV _) rfl) | exact (r_move rfl)) ?_
              refine l_v (r_eqli rfl rfl) ?_
              refine l_v (by first | exact (r_assign (v := bV _) rfl) | exact (r_assign rfl)) ?_
              refine l_nil (nrm_then ?_)
              refine c_ret ?_
              show Fin _ _ _ _ _
              refine fin1 rfl ?_
              rw [hsum]
              exact ⟨rfl, hs.below⟩
            · have hfd := find_is hd.ri.down hxf
              have hxl := (hd.good.size hxf).1
              refine c_true rfl ((decide_eq_true (by omega))) ?_
              refine c_rseq ?_
              refine l_v (r_move (v := .pointer _) rfl) ?_
              refine l_v (r_move (v := .pointer _) rfl) ?_
              refine l_call (r_call Try.func19 rfl rfl) ?_
              refine Calls.mono (root_c b T w _ _ hs) ?_
              rintro e w_ ⟨rfl, hww⟩
              refine ⟨_, rfl, ?_⟩
              rw [hww]
              refine l_call (r_call Try.func14 rfl rfl) ?_
              refine Calls.mono (size_c b T hd.good T.root w _ _ hs) ?_
              rintro e w_ ⟨rfl, hb5⟩
              refine ⟨_, rfl, ?_⟩
              have hs := hs.below_ hb5
              rw [size_yes hfd hxf]
              refine l_v (r_move rfl) ?_
              refine l_v (r_extract rfl rfl) ?_
              refine l_v (r_extract rfl rfl) ?_
              refine l_v (r_extract rfl rfl) ?_
              refine l_v (by first | exact (r_assign (v := iV _) rfl) | exact (r_assign rfl)) ?_
              refine l_v (by first | exact (r_assign (v := iV _) rfl) | exact (r_assign rfl)) ?_
              refine l_v (by first | exact (r_assign (v := iV _) rfl) | exact (r_assign rfl)) ?_
              refine l_nil (nrm_then ?_)
              refine c_rseq ?_
              refine l_v (by first | exact (r_move (v := iV _) rfl) | exact (r_move rfl)) ?_
              refine l_call (r_call Try.func25 rfl rfl) ?_
              refine Calls.mono (rblocks_c xf.data.length (by omega) _) ?_
              rintro e w_ ⟨rfl, hb6⟩
              refine ⟨_, rfl, ?_⟩
              have hs := hs.below_ hb6
              refine l_v (by first | exact (r_assign (v := iV _) rfl) | exact (r_assign rfl)) ?_
              refine l_nil (nrm_then ?_)
              refine c_rseq ?_
              refine l_v (by first | exact (r_move (v := iV _) rfl) | exact (r_move rfl)) ?_
              refine l_v (r_neqi rfl rfl) ?_
              refine l_nil (nrm_then ?_)
              refine c_false rfl (rfl) ?_
              refine c_skip (nrm_then ?_)
              refine c_rseq ?_
              refine l_v (r_move (v := .pointer _) rfl) ?_
              refine l_call (r_call Try.func23 rfl rfl) ?_
              refine Calls.mono (used_c b T 0 (by decide) w _ _ hs) ?_
              rintro e w_ ⟨rfl, hww⟩
              refine ⟨_, rfl, ?_⟩
              rw [hww]
              refine l_v (r_move (v := .pointer _) rfl) ?_
              refine l_call (r_call Try.func23 rfl rfl) ?_
              refine Calls.mono (used_c b T 1 (by decide) w _ _ hs) ?_
              rintro e w_ ⟨rfl, hww⟩
              refine ⟨_, rfl, ?_⟩
              rw [hww]
              refine l_v (r_addi rfl rfl (by omega)) ?_
              refine l_v (by first | exact (r_move (v := iV _) rfl) | exact (r_move rfl)) ?_
              refine l_v (r_eqli rfl rfl) ?_
              refine l_v (by first | exact (r_assign (v := bV _) rfl) | exact (r_assign rfl)) ?_
              refine l_nil (nrm_then ?_)
              refine c_ret ?_
              show Fin _ _ _ _ _
              refine fin1 rfl ?_
              rw [hsum]
              exact ⟨(show Ending.returned (bV (decide ((blocksN xf.data.length : Int) = (blocksN xf.data.length : Int)))) = _ by rw [decide_eq_true rfl]), hs.below⟩
  · have f : (!bf) = true := by rw [hbf]; rfl
    refine c_true rfl (f) ?_
    refine c_rseq ?_
    refine l_call (r_call Try.func8 rfl rfl) ?_
    refine Calls.mono (awake_c _) ?_
    rintro e w_ ⟨rfl, hb⟩
    refine ⟨_, rfl, ?_⟩
    have hs := hs.below_ hb
    refine l_v (by first | exact (r_assign (v := bV _) rfl) | exact (r_assign rfl)) ?_
    refine l_nil (nrm_then ?_)
    refine c_ret (ret_then ?_)
    show Fin _ _ _ _ _
    refine fin1 rfl ?_
    exact ⟨rfl, hs.below⟩
end Go.Proofs.Ytnneoipoaoefkaa.Dsk
