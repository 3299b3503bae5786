/- The walk of Rising. -/
import Derived.Test.YtfjnjnkmkbbjoaaBlkRise
namespace Go.Proofs.Ytfjnjnkmkbbjoaa.Blk
open Go Go.RowKit Go.Proofs.Ytfjnjnkmkbbjoaa.Eng Go.Proofs.Ytfjnjnkmkbbjoaa.Six Go.Proofs.Ytfjnjnkmkbbjoaa.CrcFn
set_option linter.unusedVariables false
set_option maxRecDepth 100000
set_option maxHeartbeats 8000000 in
theorem rising_c (A : Option Addr) (c : Nat) (xs : List Ent) (hx : ∀ x ∈ xs, x.key.length ≤ 60000 ∧ x.val.length ≤ 60000) (hxn : xs.length ≤ 3001) (w0 w : World) (R : List HP) (hr : Rd w 3 A xs.length (xs.flatMap entC)) (hs : Eng.Sep w0 w R) (hr0 : ∀ w', Eng.Sep w0 w' R → True) :
    Calls Try.prog 17 #[.slice A xs.length c] w fun e w' => ∃ v ys, e = .returned v ∧ sorted ys ∧ (∀ y ∈ ys, good y) ∧ ys.length ≤ xs.length ∧ Eng.Sep w0 w' (rowE v ys :: R) := by
  have hn := hr.2.1
  refine Calls.mono (R := fun e w' => ∃ v ys, e = .returned v ∧ sorted ys ∧ (∀ y ∈ ys, good y) ∧ ys.length ≤ xs.length ∧ Eng.Sep w w' [rowE v ys]) ?_ (by
    rintro e w' ⟨v, ys, h1, h2, h3, h4, h5⟩
    exact ⟨v, ys, h1, h2, h3, h4, hs.trans h5⟩)
  clear hs hr0
  refine enter (P := Try.prog) Try.func17 rfl rfl ?_
  have hs := (Sep.init w).rowNil 44 3
  refine c_rseq ?_
  refine l_v (by first | exact (r_assign (v := .slice _ _ _) rfl) | exact (r_assign rfl)) ?_
  refine l_nil (nrm_then ?_)
  refine c_rseq ?_
  refine l_v (by first | exact (r_assign (v := .slice _ _ _) rfl) | exact (r_assign rfl)) ?_
  refine l_nil (nrm_then ?_)
  refine c_seq ?_
  refine c_rseq ?_
  refine l_v (by first | exact (r_assign (v := iV _) rfl) | exact (r_assign rfl)) ?_
  refine l_nil (nrm_then ?_)
  refine c_block ?_
  refine c_loopn [0, 2] (fun m f' w' => ∃ (i : Nat) (v : Value) (out : List Ent), i + m = xs.length ∧ f' 4 = iV (i : Int) ∧ f' 3 = v ∧ sorted out ∧ (∀ y ∈ out, good y) ∧ out.length ≤ i ∧ Eng.Sep w w' [rowE v out]) ?_ ?_
  · exact ⟨xs.length, 0, .slice none 0 0, [], by omega, rfl, rfl, List.Pairwise.nil, by simp, Nat.le_refl _, hs⟩
  · rintro m g w_ ⟨i, v, out, hi, h4, h3, hso, hgo, hol, hs⟩
    have hr0 := hr.below hs.below
    refine OkC.env ?_ (fixH (L := [(4, _), (3, _)]) ⟨h4, h3, trivial⟩)
    clear h4 h3
    refine c_seq ?_
    refine c_rseq ?_
    refine l_v (by first | exact (r_move (v := iV _) rfl) | exact (r_move rfl)) ?_
    refine l_v (by first | exact (r_move (v := .slice _ _ _) rfl) | exact (r_move rfl)) ?_
    refine l_v (r_len_l Try.underlying22 rfl) ?_
    refine l_v (r_lssi rfl rfl) ?_
    refine l_nil (nrm_then ?_)
    refine c_cond rfl (fun h1 => ?_) (fun h1 => ?_)
    · have hil : i < xs.length := by have := of_decide_eq_true h1; omega
      obtain ⟨x0, hxi⟩ : ∃ x, xs[i]? = some x := ⟨xs[i], List.getElem?_eq_getElem hil⟩
      have hsK := hs
      obtain ⟨ad0, rfl, _⟩ := hr.ad (by omega)
      have hs := hsK
      have hX := rd_item hr0 (fun y _ => rfl) (by decide) hxi
      have hel : ∀ x : Ent, (entC x).length = 3 := fun _ => rfl
      have hel0 := hel x0
      have hone0 := ent_one x0
      obtain ⟨hk0, hv0⟩ := hx x0 (List.mem_of_getElem? hxi)
      replace h1 := of_decide_eq_true h1
      refine c_skip (nrm_then ?_)
      refine c_seq ?_
      refine c_block ?_
      refine c_rseq ?_
      refine l_v (by first | exact (r_move (v := .slice _ _ _) rfl) | exact (r_move rfl)) ?_
      refine l_v (by first | exact (r_move (v := iV _) rfl) | exact (r_move rfl)) ?_
      refine l_v (r_indexAddr_l (k := i) Try.underlying22 I44 rfl rfl hil) ?_
      refine l_v (r_load_aggP Try.underlying44 I44 rfl hX rfl) ?_
      refine l_alloc hs I44 ?_
      intro b5 w5 hs hB5 hlt5
      first | refine l_store_whole (i := 0) hs rfl I44 rfl rfl (by first | assumption | (simp; done)) (by first | assumption | (simp; done)) (by first | assumption | simp [Value.oneCell']) ?_ | refine l_store_whole (i := 1) hs rfl I44 rfl rfl (by first | assumption | (simp; done)) (by first | assumption | (simp; done)) (by first | assumption | simp [Value.oneCell']) ?_ | refine l_store_whole (i := 2) hs rfl I44 rfl rfl (by first | assumption | (simp; done)) (by first | assumption | (simp; done)) (by first | assumption | simp [Value.oneCell']) ?_ | refine l_store_whole (i := 3) hs rfl I44 rfl rfl (by first | assumption | (simp; done)) (by first | assumption | (simp; done)) (by first | assumption | simp [Value.oneCell']) ?_ | refine l_store_whole (i := 4) hs rfl I44 rfl rfl (by first | assumption | (simp; done)) (by first | assumption | (simp; done)) (by first | assumption | simp [Value.oneCell']) ?_ | refine l_store_whole (i := 5) hs rfl I44 rfl rfl (by first | assumption | (simp; done)) (by first | assumption | (simp; done)) (by first | assumption | simp [Value.oneCell']) ?_ | refine l_store_whole (i := 6) hs rfl I44 rfl rfl (by first | assumption | (simp; done)) (by first | assumption | (simp; done)) (by first | assumption | simp [Value.oneCell']) ?_
      intro w_ hs
      refine l_nil (nrm_then ?_)
      refine c_seq ?_
      refine c_rseq ?_
      refine l_v (by first | exact (r_fieldAddr0 (off := 2) (T := 4) (by kernel_rfl) rfl) | exact (r_fieldAddr (off := 2) (T := 4) (by kernel_rfl) rfl)) ?_
      refine l_v (by first | exact (r_load_at (i := 0) hs rfl Try.underlying4 rfl rfl) | exact (r_load_at (i := 1) hs rfl Try.underlying4 rfl rfl) | exact (r_load_at (i := 2) hs rfl Try.underlying4 rfl rfl) | exact (r_load_at (i := 3) hs rfl Try.underlying4 rfl rfl) | exact (r_load_at (i := 4) hs rfl Try.underlying4 rfl rfl) | exact (r_load_at (i := 5) hs rfl Try.underlying4 rfl rfl) | exact (r_load_at (i := 6) hs rfl Try.underlying4 rfl rfl)) ?_
      refine l_nil (nrm_then ?_)
      have hs : Eng.Sep w w_ [blk b5 (entC x0) 44, rowE v out] := hs
      refine c_mid [0, 2, 3, 4, 5] (fun f' w' => Eng.Sep w w' [blk b5 (entC (norm x0)) 44, rowE v out]) ?_ ?_
      · skip
        rcases Bool.eq_false_or_eq_true x0.gone with hg | hg
        · refine c_true rfl (hg) ?_
          refine c_region ?_
          refine l_v (by first | exact (r_fieldAddr0 (off := 1) (T := 9) (by kernel_rfl) rfl) | exact (r_fieldAddr (off := 1) (T := 9) (by kernel_rfl) rfl)) ?_
          first | refine l_store (i := 0) (v := sV _) hs rfl I9 rfl rfl (by first | (simp; done) | (simp; omega) | omega) ?_ | refine l_store (i := 1) (v := sV _) hs rfl I9 rfl rfl (by first | (simp; done) | (simp; omega) | omega) ?_ | refine l_store (i := 2) (v := sV _) hs rfl I9 rfl rfl (by first | (simp; done) | (simp; omega) | omega) ?_ | refine l_store (i := 3) (v := sV _) hs rfl I9 rfl rfl (by first | (simp; done) | (simp; omega) | omega) ?_ | refine l_store (i := 4) (v := sV _) hs rfl I9 rfl rfl (by first | (simp; done) | (simp; omega) | omega) ?_ | refine l_store (i := 5) (v := sV _) hs rfl I9 rfl rfl (by first | (simp; done) | (simp; omega) | omega) ?_ | refine l_store (i := 6) (v := sV _) hs rfl I9 rfl rfl (by first | (simp; done) | (simp; omega) | omega) ?_
          intro w_ hs
          refine l_nil (nrm_then ?_)
          refine And.intro (by refine ⟨?_, ?_, ?_, ?_, ?_, trivial⟩ <;> ((conv => lhs; whnf); (try conv => rhs; whnf))) ?_
          have e : norm x0 = ⟨x0.key, [], x0.gone⟩ := if_pos hg
          rw [e]
          exact hs
        · skip
          refine c_false rfl (hg) ?_
          refine c_skip (nrm_then ?_)
          refine And.intro (by refine ⟨?_, ?_, ?_, ?_, ?_, trivial⟩ <;> ((conv => lhs; whnf); (try conv => rhs; whnf))) ?_
          have e : norm x0 = x0 := if_neg (by rw [hg]; decide)
          rw [e]
          exact hs
      · rintro g w_ hs
        show OkC _ _ _ _ _ _
        have hnk := norm_key x0
        have hgx := norm_good hk0 hv0
        generalize norm x0 = x at *
        have hone := ent_one x
        have helx := hel x
        obtain ⟨A3, c3, rfl, hc3⟩ := (hs.pull 1).rowForm
        refine c_rseq ?_
        refine l_v (by first | exact (r_assign (v := iV _) rfl) | exact (r_assign rfl)) ?_
        refine l_nil (nrm_then ?_)
        refine c_seq ?_
        refine c_block ?_
        refine c_loopn [0, 2, 3, 4, 5] (fun m f' w' => ∃ j : Nat, f' 6 = iV (j : Int) ∧ j + m = out.length ∧ (∀ i, i < j → ∀ y, out[i]? = some y → klt y.key x.key = true) ∧ Eng.Sep w w' [blk b5 (entC x) 44, rowE (.slice A3 out.length c3) out]) ?_ ?_
        · exact ⟨out.length, 0, rfl, by omega, fun i hi => absurd hi (by omega), hs⟩
        · rintro m g w_ ⟨j, h6, hj, hlt, hs⟩
          refine OkC.env ?_ (fixH (L := [(6, _)]) ⟨h6, trivial⟩)
          clear h6
          refine c_seq ?_
          refine c_seq ?_
          by_cases hjl : j < out.length
          · have f24 : decide ((j : Int) < (out.length : Int)) = true := decide_eq_true (by omega)
            obtain ⟨y, hyj⟩ : ∃ y, out[j]? = some y := ⟨out[j], List.getElem?_eq_getElem hjl⟩
            have hsK := hs
            obtain ⟨ad, rfl, _⟩ := (hs.pull 1).rd.ad (by omega)
            have hs := hsK
            have hY := rd_item (hs.pull 1).rd (fun y _ => rfl) (by decide) hyj
            refine c_still (by kernel_rfl) (by kernel_rfl) ?_
            have hs := hs.drew
            refine s_v (by first | exact (r_move (v := iV _) rfl) | exact (r_move rfl)) ?_
            refine s_v (by first | exact (r_move (v := .slice _ _ _) rfl) | exact (r_move rfl)) ?_
            refine s_v (r_len_l Try.underlying22 rfl) ?_
            refine s_v (r_lssi rfl rfl) ?_
            refine s_v (by first | exact (r_move (v := bV _) rfl) | exact (r_move rfl)) ?_
            refine s_vg (by first | exact (r_move (v := .slice _ _ _) rfl) | exact (r_move rfl)) rfl (f24) ?_
            refine s_vg (by first | exact (r_move (v := iV _) rfl) | exact (r_move rfl)) rfl (f24) ?_
            refine s_vg (r_indexAddr_l (k := j) Try.underlying22 I44 rfl rfl hjl) rfl (f24) ?_
            refine s_vg (r_fieldAddrP (off := 0) (T := 9) (by kernel_rfl) rfl) rfl (f24) ?_
            refine s_vg (r_load Try.underlying9 rfl (hY 0 _ rfl)) rfl (f24) ?_
            refine s_vg (by first | exact (r_fieldAddr0 (off := 0) (T := 9) (by kernel_rfl) rfl) | exact (r_fieldAddr (off := 0) (T := 9) (by kernel_rfl) rfl)) rfl (f24) ?_
            refine s_vg (by first | exact (r_load_at (i := 0) hs rfl Try.underlying9 rfl rfl) | exact (r_load_at (i := 1) hs rfl Try.underlying9 rfl rfl) | exact (r_load_at (i := 2) hs rfl Try.underlying9 rfl rfl) | exact (r_load_at (i := 3) hs rfl Try.underlying9 rfl rfl) | exact (r_load_at (i := 4) hs rfl Try.underlying9 rfl rfl) | exact (r_load_at (i := 5) hs rfl Try.underlying9 rfl rfl) | exact (r_load_at (i := 6) hs rfl Try.underlying9 rfl rfl)) rfl (f24) ?_
            refine s_vg (r_lsss rfl rfl) rfl (f24) ?_
            refine s_v (r_pick_t rfl f24 rfl) ?_
            refine s_nil (nrm_then ?_)
            rcases Bool.eq_false_or_eq_true (klt y.key x.key) with hq | hq
            · refine c_true rfl (hq) ?_
              refine c_skip (nrm_then ?_)
              refine c_block ?_
              refine c_region ?_
              refine l_v (by first | exact (r_move (v := iV _) rfl) | exact (r_move rfl)) ?_
              refine l_v (r_addi rfl rfl (by omega)) ?_
              refine l_v (by first | exact (r_assign (v := iV _) rfl) | exact (r_assign rfl)) ?_
              refine l_nil (nrm_block (nrm_then ?_))
              refine And.intro (by refine ⟨?_, ?_, ?_, ?_, ?_, trivial⟩ <;> ((conv => lhs; whnf); (try conv => rhs; whnf))) ?_
              refine ⟨out.length - (j + 1), by omega, j + 1, rfl, by omega, fun i hi z hz => ?_, hs⟩
              rcases Nat.lt_succ_iff_lt_or_eq.1 hi with h | rfl
              · exact hlt i h z hz
              · rw [hyj] at hz; obtain rfl := Option.some.inj hz; exact hq
            · skip
              refine c_false rfl (hq) ?_
              refine c_exit (ex_then (ex_then (ex_hit (nrm_then ?_))))
              refine c_seq ?_
              refine c_seq ?_
              have hY := rd_item (hs.pull 1).rd (fun y _ => rfl) (by decide) hyj
              refine c_still (by kernel_rfl) (by kernel_rfl) ?_
              have hs := hs.drew
              refine s_v (by first | exact (r_move (v := iV _) rfl) | exact (r_move rfl)) ?_
              refine s_v (by first | exact (r_move (v := .slice _ _ _) rfl) | exact (r_move rfl)) ?_
              refine s_v (r_len_l Try.underlying22 rfl) ?_
              refine s_v (r_lssi rfl rfl) ?_
              refine s_v (by first | exact (r_move (v := bV _) rfl) | exact (r_move rfl)) ?_
              refine s_vg (by first | exact (r_move (v := .slice _ _ _) rfl) | exact (r_move rfl)) rfl (f24) ?_
              refine s_vg (by first | exact (r_move (v := iV _) rfl) | exact (r_move rfl)) rfl (f24) ?_
              refine s_vg (r_indexAddr_l (k := j) Try.underlying22 I44 rfl rfl hjl) rfl (f24) ?_
              refine s_vg (r_fieldAddrP (off := 0) (T := 9) (by kernel_rfl) rfl) rfl (f24) ?_
              refine s_vg (r_load Try.underlying9 rfl (hY 0 _ rfl)) rfl (f24) ?_
              refine s_vg (by first | exact (r_fieldAddr0 (off := 0) (T := 9) (by kernel_rfl) rfl) | exact (r_fieldAddr (off := 0) (T := 9) (by kernel_rfl) rfl)) rfl (f24) ?_
              refine s_vg (by first | exact (r_load_at (i := 0) hs rfl Try.underlying9 rfl rfl) | exact (r_load_at (i := 1) hs rfl Try.underlying9 rfl rfl) | exact (r_load_at (i := 2) hs rfl Try.underlying9 rfl rfl) | exact (r_load_at (i := 3) hs rfl Try.underlying9 rfl rfl) | exact (r_load_at (i := 4) hs rfl Try.underlying9 rfl rfl) | exact (r_load_at (i := 5) hs rfl Try.underlying9 rfl rfl) | exact (r_load_at (i := 6) hs rfl Try.underlying9 rfl rfl)) rfl (f24) ?_
              refine s_vg (r_eqls rfl rfl) rfl (f24) ?_
              refine s_v (r_pick_t rfl f24 rfl) ?_
              refine s_nil (nrm_then ?_)
              refine c_cond rfl (fun h5 => ?_) (fun h5 => ?_)
              · have h5' : y.key = x.key := by have h := of_decide_eq_true h5; have h2 := congrArg toL h; simpa [Eng.toL_ofL] using h2
                replace h5 := of_decide_eq_true h5
                refine c_rseq ?_
                refine l_v (by first | exact (r_move (v := .slice _ _ _) rfl) | exact (r_move rfl)) ?_
                refine l_v (by first | exact (r_move (v := iV _) rfl) | exact (r_move rfl)) ?_
                have hs := hs.pull 1
                refine l_v (r_load_whole (i := 1) hs rfl Try.underlying44 I44 rfl helx) ?_
                refine l_v (r_indexAddr_l (k := j) Try.underlying22 I44 rfl rfl hjl) ?_
                refine l_store_row hs I44 rfl rfl hjl helx hone ?_
                intro w54 hs
                have hs := (rowE_set rfl hjl hs)
                refine l_nil (nrm_then ?_)
                refine c_exit (ex_then (ex_hit (nrm_then ?_)))
                refine c_region ?_
                refine l_v (by first | exact (r_move (v := iV _) rfl) | exact (r_move rfl)) ?_
                refine l_v (r_addi rfl rfl (by omega)) ?_
                refine l_v (by first | exact (r_assign (v := iV _) rfl) | exact (r_assign rfl)) ?_
                refine l_nil (nrm_then ?_)
                refine And.intro (by refine ⟨?_, ?_, trivial⟩ <;> ((conv => lhs; whnf); (try conv => rhs; whnf))) ?_
                have hs := (hs.pull 1).drop
                refine ⟨xs.length - (i + 1), by omega, i + 1, .slice (some ad) out.length c3, out.set j x, by omega, rfl, rfl, sorted_set hso hyj h5', fun z hz => ?_, by rw [List.length_set]; omega, hs⟩
                rcases List.mem_or_eq_of_mem_set hz with h | rfl
                · exact hgo z h
                · exact hgx
              · have hne : ¬ y.key = x.key := fun h => (of_decide_eq_false h5) (by rw [h])
                have hsi := sorted_ins hso hlt (fun z hz => by rw [hyj] at hz; obtain rfl := Option.some.inj hz; exact klt_tri hq hne)
                replace h5 := of_decide_eq_false h5
                refine c_skip (nrm_then ?_)
                refine c_rseq ?_
                refine l_v (by first | exact (r_move (v := .slice _ _ _) rfl) | exact (r_move rfl)) ?_
                refine l_v (r_build (l := []) rfl ((fun (_ : Unit) => (by kernel_rfl : Program.built Try.prog 44 [] = some #[sV ByteArray.empty, sV ByteArray.empty, bV false])) ())) ?_
                refine l_lit [.agg (entC entZ).toArray] hs Try.underlying22 I44 rfl (by intro u hu; rw [List.mem_singleton.1 hu]; rfl) (by decide) rfl (by decide) (by decide) ?_
                intro b57 w57 hs hB57 hlt57
                have e1 : ([Value.agg (entC entZ).toArray].flatMap fun v => v.cells.toList) = entC entZ := by simp [Value.cells]
                rw [e1] at hs
                have hs := (hs.pull 2).pull 1
                refine l_append_lit Try.underlying22 I44 (by kernel_rfl) (by decide) rfl rfl hs (hel entZ) (ent_one entZ) (by omega) (by omega) ?_
                intro v58 w58 hs
                have hs := rowE_app hs
                have hl58 : (out ++ [entZ]).length = out.length + 1 := by rw [List.length_append]; rfl
                obtain ⟨ad8, c8, rfl, hc8⟩ := rowE_ad hs (by omega)
                rw [hl58] at hs
                have hs : Eng.Sep w w58 [RowC 44 3 (.slice (some ad8) (out.length + 1) c8) (out.length + 1) ((out ++ [entZ]).flatMap entC), blk b5 (entC x) 44] := by unfold rowE at hs; rw [hl58] at hs; exact hs
                rw [hl58]
                refine l_v (by first | exact (r_assign (v := .slice _ _ _) rfl) | exact (r_assign rfl)) ?_
                refine l_nil (nrm_then ?_)
                refine c_seq ?_
                refine c_rseq ?_
                refine l_v (by first | exact (r_move (v := .slice _ _ _) rfl) | exact (r_move rfl)) ?_
                refine l_v (r_len_l Try.underlying22 rfl) ?_
                refine l_v (r_subi rfl rfl (by omega)) ?_
                refine l_v (by first | exact (r_assign (v := iV _) rfl) | exact (r_assign rfl)) ?_
                refine l_nil (nrm_then ?_)
                refine c_block ?_
                refine c_loopn [0, 2, 3, 4, 5, 6] (fun m f' w' => ∃ (k : Nat) (z : Ent), f' 7 = iV (k : Int) ∧ k = j + m ∧ k ≤ out.length ∧ Eng.Sep w w' [RowC 44 3 (.slice (some ad8) (out.length + 1) c8) (out.length + 1) ((out.take k ++ z :: out.drop k).flatMap entC), blk b5 (entC x) 44]) ?_ ?_
                · exact ⟨out.length - j, out.length, entZ, congrArg iV (by omega), by omega, by omega, by rw [List.take_length, List.drop_length]; exact hs⟩
                · rintro m g w_ ⟨k, z, h7, hkm, hkl, hs⟩
                  have hcl : (out.take k ++ z :: out.drop k).length = out.length + 1 := by rw [List.length_append, List.length_take, List.length_cons, List.length_drop]; omega
                  refine OkC.env ?_ (fixH (L := [(7, _)]) ⟨h7, trivial⟩)
                  clear h7
                  refine c_seq ?_
                  refine c_rseq ?_
                  refine l_v (by first | exact (r_move (v := iV _) rfl) | exact (r_move rfl)) ?_
                  refine l_v (by first | exact (r_move (v := iV _) rfl) | exact (r_move rfl)) ?_
                  refine l_v (r_gtri rfl rfl) ?_
                  refine l_nil (nrm_then ?_)
                  refine c_cond rfl (fun h8 => ?_) (fun h8 => ?_)
                  · obtain ⟨k, rfl⟩ : ∃ q, k = q + 1 := ⟨k - 1, by have := of_decide_eq_true h8; omega⟩
                    obtain ⟨y8, hy8⟩ : ∃ y, out[k]? = some y := ⟨out[k], List.getElem?_eq_getElem (by omega)⟩
                    have hcy : (out.take (k + 1) ++ z :: out.drop (k + 1))[k]? = some y8 := by rw [List.getElem?_append_left (by rw [List.length_take]; omega), List.getElem?_take_of_lt (by omega)]; exact hy8
                    have hY8 := rd_item (n := out.length + 1) hs.rd (fun y _ => rfl) (by decide) hcy
                    have hone8 := ent_one y8
                    replace h8 := of_decide_eq_true h8
                    refine c_skip (nrm_then ?_)
                    refine c_seq ?_
                    refine c_block ?_
                    refine c_region ?_
                    refine l_v (by first | exact (r_move (v := .slice _ _ _) rfl) | exact (r_move rfl)) ?_
                    refine l_v (by first | exact (r_move (v := iV _) rfl) | exact (r_move rfl)) ?_
                    refine l_v (by first | exact (r_move (v := .slice _ _ _) rfl) | exact (r_move rfl)) ?_
                    refine l_v (by first | exact (r_move (v := iV _) rfl) | exact (r_move rfl)) ?_
                    refine l_v (r_pred (j := k) rfl rfl (by omega)) ?_
                    refine l_v (r_indexAddr_l (k := k) Try.underlying22 I44 rfl rfl (by omega)) ?_
                    refine l_v (r_load_aggP Try.underlying44 I44 rfl hY8 rfl) ?_
                    refine l_v (r_indexAddr_l (k := k + 1) Try.underlying22 I44 rfl rfl (by omega)) ?_
                    refine l_store_row (k := k + 1) hs I44 rfl rfl (by omega) (hel y8) hone8 ?_
                    intro w74 hs
                    have hs := rowE_set hcl (by omega) hs
                    unfold rowE at hs
                    rw [List.length_set, hcl, take_set (by omega), take_shift hy8] at hs
                    refine l_nil (nrm_block (nrm_then ?_))
                    refine c_region ?_
                    refine l_v (by first | exact (r_move (v := iV _) rfl) | exact (r_move rfl)) ?_
                    refine l_v (r_pred (j := k) rfl rfl (by omega)) ?_
                    refine l_v (by first | exact (r_assign (v := iV _) rfl) | exact (r_assign rfl)) ?_
                    refine l_nil (nrm_then ?_)
                    refine And.intro (by refine ⟨?_, ?_, ?_, ?_, ?_, ?_, trivial⟩ <;> ((conv => lhs; whnf); (try conv => rhs; whnf))) ?_
                    exact ⟨k - j, by omega, k, y8, rfl, by omega, by omega, hs⟩
                  · obtain rfl : k = j := by have := of_decide_eq_false h8; omega
                    replace h8 := of_decide_eq_false h8
                    refine c_exit (ex_then (ex_then (ex_hit (nrm_then ?_))))
                    refine c_region ?_
                    refine l_v (by first | exact (r_move (v := .slice _ _ _) rfl) | exact (r_move rfl)) ?_
                    refine l_v (by first | exact (r_move (v := iV _) rfl) | exact (r_move rfl)) ?_
                    refine l_v (r_load_whole (i := 1) hs rfl Try.underlying44 I44 rfl helx) ?_
                    refine l_v (r_indexAddr_l (k := k) Try.underlying22 I44 rfl rfl (by omega)) ?_
                    refine l_store_row (k := k) hs I44 rfl rfl (by omega) helx hone ?_
                    intro w78 hs
                    have hs := rowE_set hcl (by omega) hs
                    unfold rowE at hs
                    rw [List.length_set, hcl, take_set (by omega)] at hs
                    refine l_nil (nrm_block (nrm_then ?_))
                    refine c_region ?_
                    refine l_v (by first | exact (r_move (v := iV _) rfl) | exact (r_move rfl)) ?_
                    refine l_v (r_addi rfl rfl (by omega)) ?_
                    refine l_v (by first | exact (r_assign (v := iV _) rfl) | exact (r_assign rfl)) ?_
                    refine l_nil (nrm_then ?_)
                    refine And.intro (by refine ⟨?_, ?_, trivial⟩ <;> ((conv => lhs; whnf); (try conv => rhs; whnf))) ?_
                    have hs := (hs.pull 1).drop
                    have hil8 : (insAt out k x).length = out.length + 1 := by unfold insAt; rw [List.length_append, List.length_take, List.length_cons, List.length_drop]; omega
                    refine ⟨xs.length - (i + 1), by omega, i + 1, .slice (some ad8) (out.length + 1) c8, insAt out k x, by omega, rfl, rfl, hsi, fun z hz => ?_, by omega, by unfold rowE; rw [hil8]; exact hs⟩
                    unfold insAt at hz
                    rcases List.mem_append.1 hz with h | h
                    · exact hgo z (List.mem_of_mem_take h)
                    · rcases List.mem_cons.1 h with rfl | h
                      · exact hgx
                      · exact hgo z (List.mem_of_mem_drop h)
          · have f24 : decide ((j : Int) < (out.length : Int)) = false := decide_eq_false (by omega)
            have hsi := sorted_ins hso hlt (fun z hz => by rw [List.getElem?_eq_none (by omega)] at hz; cases hz)
            refine c_still (by kernel_rfl) (by kernel_rfl) ?_
            have hs := hs.drew
            refine s_v (by first | exact (r_move (v := iV _) rfl) | exact (r_move rfl)) ?_
            refine s_v (by first | exact (r_move (v := .slice _ _ _) rfl) | exact (r_move rfl)) ?_
            refine s_v (r_len_l Try.underlying22 rfl) ?_
            refine s_v (r_lssi rfl rfl) ?_
            refine s_v (by first | exact (r_move (v := bV _) rfl) | exact (r_move rfl)) ?_
            refine s_skip (dj := 25) (b := true) (.inl (by first | rfl | (rw [show _ = _ from f24]; rfl) | exact congrArg Value.bool (f24))) ?_
            refine s_skip (dj := 25) (b := true) (.inl (by first | rfl | (rw [show _ = _ from f24]; rfl) | exact congrArg Value.bool (f24))) ?_
            refine s_skip (dj := 25) (b := true) (.inl (by first | rfl | (rw [show _ = _ from f24]; rfl) | exact congrArg Value.bool (f24))) ?_
            refine s_skip (dj := 25) (b := true) (.inl (by first | rfl | (rw [show _ = _ from f24]; rfl) | exact congrArg Value.bool (f24))) ?_
            refine s_skip (dj := 25) (b := true) (.inl (by first | rfl | (rw [show _ = _ from f24]; rfl) | exact congrArg Value.bool (f24))) ?_
            refine s_skip (dj := 25) (b := true) (.inl (by first | rfl | (rw [show _ = _ from f24]; rfl) | exact congrArg Value.bool (f24))) ?_
            refine s_skip (dj := 25) (b := true) (.inl (by first | rfl | (rw [show _ = _ from f24]; rfl) | exact congrArg Value.bool (f24))) ?_
            refine s_skip (dj := 25) (b := true) (.inl (by first | rfl | (rw [show _ = _ from f24]; rfl) | exact congrArg Value.bool (f24))) ?_
            refine s_v (r_pick_f rfl f24 rfl) ?_
            refine s_nil (nrm_then ?_)
            refine c_false rfl (rfl) ?_
            refine c_exit (ex_then (ex_then (ex_hit (nrm_then ?_))))
            refine c_seq ?_
            refine c_seq ?_
            refine c_still (by kernel_rfl) (by kernel_rfl) ?_
            have hs := hs.drew
            refine s_v (by first | exact (r_move (v := iV _) rfl) | exact (r_move rfl)) ?_
            refine s_v (by first | exact (r_move (v := .slice _ _ _) rfl) | exact (r_move rfl)) ?_
            refine s_v (r_len_l Try.underlying22 rfl) ?_
            refine s_v (r_lssi rfl rfl) ?_
            refine s_v (by first | exact (r_move (v := bV _) rfl) | exact (r_move rfl)) ?_
            refine s_skip (dj := 41) (b := true) (.inl (by first | rfl | (rw [show _ = _ from f24]; rfl) | exact congrArg Value.bool (f24))) ?_
            refine s_skip (dj := 41) (b := true) (.inl (by first | rfl | (rw [show _ = _ from f24]; rfl) | exact congrArg Value.bool (f24))) ?_
            refine s_skip (dj := 41) (b := true) (.inl (by first | rfl | (rw [show _ = _ from f24]; rfl) | exact congrArg Value.bool (f24))) ?_
            refine s_skip (dj := 41) (b := true) (.inl (by first | rfl | (rw [show _ = _ from f24]; rfl) | exact congrArg Value.bool (f24))) ?_
            refine s_skip (dj := 41) (b := true) (.inl (by first | rfl | (rw [show _ = _ from f24]; rfl) | exact congrArg Value.bool (f24))) ?_
            refine s_skip (dj := 41) (b := true) (.inl (by first | rfl | (rw [show _ = _ from f24]; rfl) | exact congrArg Value.bool (f24))) ?_
            refine s_skip (dj := 41) (b := true) (.inl (by first | rfl | (rw [show _ = _ from f24]; rfl) | exact congrArg Value.bool (f24))) ?_
            refine s_skip (dj := 41) (b := true) (.inl (by first | rfl | (rw [show _ = _ from f24]; rfl) | exact congrArg Value.bool (f24))) ?_
            refine s_v (r_pick_f rfl f24 rfl) ?_
            refine s_nil (nrm_then ?_)
            refine c_false rfl (rfl) ?_
            refine c_skip (nrm_then ?_)
            refine c_rseq ?_
            refine l_v (by first | exact (r_move (v := .slice _ _ _) rfl) | exact (r_move rfl)) ?_
            refine l_v (r_build (l := []) rfl ((fun (_ : Unit) => (by kernel_rfl : Program.built Try.prog 44 [] = some #[sV ByteArray.empty, sV ByteArray.empty, bV false])) ())) ?_
            refine l_lit [.agg (entC entZ).toArray] hs Try.underlying22 I44 rfl (by intro u hu; rw [List.mem_singleton.1 hu]; rfl) (by decide) rfl (by decide) (by decide) ?_
            intro b57 w57 hs hB57 hlt57
            have e1 : ([Value.agg (entC entZ).toArray].flatMap fun v => v.cells.toList) = entC entZ := by simp [Value.cells]
            rw [e1] at hs
            have hs := (hs.pull 2).pull 1
            refine l_append_lit Try.underlying22 I44 (by kernel_rfl) (by decide) rfl rfl hs (hel entZ) (ent_one entZ) (by omega) (by omega) ?_
            intro v58 w58 hs
            have hs := rowE_app hs
            have hl58 : (out ++ [entZ]).length = out.length + 1 := by rw [List.length_append]; rfl
            obtain ⟨ad8, c8, rfl, hc8⟩ := rowE_ad hs (by omega)
            rw [hl58] at hs
            have hs : Eng.Sep w w58 [RowC 44 3 (.slice (some ad8) (out.length + 1) c8) (out.length + 1) ((out ++ [entZ]).flatMap entC), blk b5 (entC x) 44] := by unfold rowE at hs; rw [hl58] at hs; exact hs
            rw [hl58]
            refine l_v (by first | exact (r_assign (v := .slice _ _ _) rfl) | exact (r_assign rfl)) ?_
            refine l_nil (nrm_then ?_)
            refine c_seq ?_
            refine c_rseq ?_
            refine l_v (by first | exact (r_move (v := .slice _ _ _) rfl) | exact (r_move rfl)) ?_
            refine l_v (r_len_l Try.underlying22 rfl) ?_
            refine l_v (r_subi rfl rfl (by omega)) ?_
            refine l_v (by first | exact (r_assign (v := iV _) rfl) | exact (r_assign rfl)) ?_
            refine l_nil (nrm_then ?_)
            refine c_block ?_
            refine c_loopn [0, 2, 3, 4, 5, 6] (fun m f' w' => ∃ (k : Nat) (z : Ent), f' 7 = iV (k : Int) ∧ k = j + m ∧ k ≤ out.length ∧ Eng.Sep w w' [RowC 44 3 (.slice (some ad8) (out.length + 1) c8) (out.length + 1) ((out.take k ++ z :: out.drop k).flatMap entC), blk b5 (entC x) 44]) ?_ ?_
            · exact ⟨out.length - j, out.length, entZ, congrArg iV (by omega), by omega, by omega, by rw [List.take_length, List.drop_length]; exact hs⟩
            · rintro m g w_ ⟨k, z, h7, hkm, hkl, hs⟩
              have hcl : (out.take k ++ z :: out.drop k).length = out.length + 1 := by rw [List.length_append, List.length_take, List.length_cons, List.length_drop]; omega
              refine OkC.env ?_ (fixH (L := [(7, _)]) ⟨h7, trivial⟩)
              clear h7
              refine c_seq ?_
              refine c_rseq ?_
              refine l_v (by first | exact (r_move (v := iV _) rfl) | exact (r_move rfl)) ?_
              refine l_v (by first | exact (r_move (v := iV _) rfl) | exact (r_move rfl)) ?_
              refine l_v (r_gtri rfl rfl) ?_
              refine l_nil (nrm_then ?_)
              refine c_cond rfl (fun h8 => ?_) (fun h8 => ?_)
              · obtain ⟨k, rfl⟩ : ∃ q, k = q + 1 := ⟨k - 1, by have := of_decide_eq_true h8; omega⟩
                obtain ⟨y8, hy8⟩ : ∃ y, out[k]? = some y := ⟨out[k], List.getElem?_eq_getElem (by omega)⟩
                have hcy : (out.take (k + 1) ++ z :: out.drop (k + 1))[k]? = some y8 := by rw [List.getElem?_append_left (by rw [List.length_take]; omega), List.getElem?_take_of_lt (by omega)]; exact hy8
                have hY8 := rd_item (n := out.length + 1) hs.rd (fun y _ => rfl) (by decide) hcy
                have hone8 := ent_one y8
                replace h8 := of_decide_eq_true h8
                refine c_skip (nrm_then ?_)
                refine c_seq ?_
                refine c_block ?_
                refine c_region ?_
                refine l_v (by first | exact (r_move (v := .slice _ _ _) rfl) | exact (r_move rfl)) ?_
                refine l_v (by first | exact (r_move (v := iV _) rfl) | exact (r_move rfl)) ?_
                refine l_v (by first | exact (r_move (v := .slice _ _ _) rfl) | exact (r_move rfl)) ?_
                refine l_v (by first | exact (r_move (v := iV _) rfl) | exact (r_move rfl)) ?_
                refine l_v (r_pred (j := k) rfl rfl (by omega)) ?_
                refine l_v (r_indexAddr_l (k := k) Try.underlying22 I44 rfl rfl (by omega)) ?_
                refine l_v (r_load_aggP Try.underlying44 I44 rfl hY8 rfl) ?_
                refine l_v (r_indexAddr_l (k := k + 1) Try.underlying22 I44 rfl rfl (by omega)) ?_
                refine l_store_row (k := k + 1) hs I44 rfl rfl (by omega) (hel y8) hone8 ?_
                intro w74 hs
                have hs := rowE_set hcl (by omega) hs
                unfold rowE at hs
                rw [List.length_set, hcl, take_set (by omega), take_shift hy8] at hs
                refine l_nil (nrm_block (nrm_then ?_))
                refine c_region ?_
                refine l_v (by first | exact (r_move (v := iV _) rfl) | exact (r_move rfl)) ?_
                refine l_v (r_pred (j := k) rfl rfl (by omega)) ?_
                refine l_v (by first | exact (r_assign (v := iV _) rfl) | exact (r_assign rfl)) ?_
                refine l_nil (nrm_then ?_)
                refine And.intro (by refine ⟨?_, ?_, ?_, ?_, ?_, ?_, trivial⟩ <;> ((conv => lhs; whnf); (try conv => rhs; whnf))) ?_
                exact ⟨k - j, by omega, k, y8, rfl, by omega, by omega, hs⟩
              · obtain rfl : k = j := by have := of_decide_eq_false h8; omega
                replace h8 := of_decide_eq_false h8
                refine c_exit (ex_then (ex_then (ex_hit (nrm_then ?_))))
                refine c_region ?_
                refine l_v (by first | exact (r_move (v := .slice _ _ _) rfl) | exact (r_move rfl)) ?_
                refine l_v (by first | exact (r_move (v := iV _) rfl) | exact (r_move rfl)) ?_
                refine l_v (r_load_whole (i := 1) hs rfl Try.underlying44 I44 rfl helx) ?_
                refine l_v (r_indexAddr_l (k := k) Try.underlying22 I44 rfl rfl (by omega)) ?_
                refine l_store_row (k := k) hs I44 rfl rfl (by omega) helx hone ?_
                intro w78 hs
                have hs := rowE_set hcl (by omega) hs
                unfold rowE at hs
                rw [List.length_set, hcl, take_set (by omega)] at hs
                refine l_nil (nrm_block (nrm_then ?_))
                refine c_region ?_
                refine l_v (by first | exact (r_move (v := iV _) rfl) | exact (r_move rfl)) ?_
                refine l_v (r_addi rfl rfl (by omega)) ?_
                refine l_v (by first | exact (r_assign (v := iV _) rfl) | exact (r_assign rfl)) ?_
                refine l_nil (nrm_then ?_)
                refine And.intro (by refine ⟨?_, ?_, trivial⟩ <;> ((conv => lhs; whnf); (try conv => rhs; whnf))) ?_
                have hs := (hs.pull 1).drop
                have hil8 : (insAt out k x).length = out.length + 1 := by unfold insAt; rw [List.length_append, List.length_take, List.length_cons, List.length_drop]; omega
                refine ⟨xs.length - (i + 1), by omega, i + 1, .slice (some ad8) (out.length + 1) c8, insAt out k x, by omega, rfl, rfl, hsi, fun z hz => ?_, by omega, by unfold rowE; rw [hil8]; exact hs⟩
                unfold insAt at hz
                rcases List.mem_append.1 hz with h | h
                · exact hgo z (List.mem_of_mem_take h)
                · rcases List.mem_cons.1 h with rfl | h
                  · exact hgx
                  · exact hgo z (List.mem_of_mem_drop h)
    · replace h1 := of_decide_eq_false h1
      refine c_exit (ex_then (ex_then (ex_hit (nrm_then ?_))))
      refine c_rseq ?_
      refine l_v (by first | exact (r_move (v := .slice _ _ _) rfl) | exact (r_move rfl)) ?_
      refine l_v (by first | exact (r_assign (v := .slice _ _ _) rfl) | exact (r_assign rfl)) ?_
      refine l_nil (nrm_then ?_)
      refine c_ret ?_
      show Fin _ _ _ _ _
      refine fin1 rfl ?_
      exact ⟨v, out, rfl, hso, hgo, by omega, hs⟩
end Go.Proofs.Ytfjnjnkmkbbjoaa.Blk
