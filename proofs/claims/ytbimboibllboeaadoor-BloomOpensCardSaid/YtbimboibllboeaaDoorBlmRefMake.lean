/- The walk of the document's Make. -/
import Derived.Test.YtbimboibllboeaaDoorBlmRef
import Derived.Test.YtbimboibllboeaaDoorBlmNever
namespace Go.Proofs.YtbimboibllboeaaDoor.Blm
open Go Go.RowKit Go.Proofs.YtbimboibllboeaaDoor.Eng Go.Proofs.YtbimboibllboeaaDoor.Sha Go.Proofs.YtbimboibllboeaaDoor.Six
set_option linter.unusedVariables false
set_option maxRecDepth 100000
theorem built_rz : Program.built Tryd.prog 31 [] = some [iV 0, .slice none 0 0].toArray :=
  built_of I31 (places := [(0, 1), (1, 1)]) (by kernel_rfl) (cs := [iV 0, .slice none 0 0]) rfl rfl
theorem built_rf (h : Int) (v : Value) (hv : v.oneCell' = true) : Program.built Tryd.prog 31 [(0, iV h), (1, v)] = some [iV h, v].toArray := by
  refine built_of I31 (places := [(0, 1), (1, 1)]) (by kernel_rfl) (cs := [iV 0, .slice none 0 0]) rfl ?_
  refine fill_step (off := 0) (l := [iV h]) rfl rfl (by simp) ?_
  exact fill_step (off := 1) (l := [v]) rfl (cells_one hv) (by simp) rfl
theorem bvs_put {b : List UInt8} {n : Nat} (hn : n < 8 * b.length) : (bvs b).set n (bV true) = bvs (putB b n) := by
  unfold bvs; rw [BL_put hn, List.map_set]
set_option maxHeartbeats 16000000 in
theorem rmake_c (per : Int) (A : Option Addr) (c : Nat) (keys : List ByteArray) (hn : keys.length ≤ 2000) (hz : ∀ s ∈ keys, s.size ≤ 100000) (w0 w : World) (R : List HP) (hs : Eng.Sep w0 w R) (hr0 : ∀ w', Eng.Sep w0 w' R → Rd w' 1 A keys.length (keys.map sV)) :
    Calls Tryd.prog 11 #[iV per, .slice A keys.length c] w fun e w' => (makeE per keys.length ≠ 0 ∧ e = .returned (.tuple #[.agg #[iV 0, .slice none 0 0], iV (makeE per keys.length)]) ∧ Eng.Sep w0 w' R) ∨
      (makeE per keys.length = 0 ∧ ∃ bb, e = .returned (.tuple #[rfV (hashN per.toNat) (some ⟨bb, 0, none⟩) (8 * (8 * wordsN per.toNat keys.length)) (8 * (8 * wordsN per.toNat keys.length)), iV 0]) ∧ Eng.Sep w0 w' (blk bb (bvs (makeB (hashN per.toNat) (8 * wordsN per.toNat keys.length) (keys.map toL))) 4 :: R)) := by
  unfold makeE
  refine enter (P := Tryd.prog) Tryd.func11 rfl rfl ?_
  refine c_rseq ?_
  refine l_alloc hs I31 ?_
  intro b4 w4 hs hB4 hlt4
  refine l_v (by first | exact (r_assign (v := iV _) rfl) | exact (r_assign rfl)) ?_
  refine l_nil (nrm_then ?_)
  refine c_seq ?_
  refine c_rseq ?_
  refine l_v (by first | exact (r_move (v := iV _) rfl) | exact (r_move rfl)) ?_
  refine l_v (r_lssi rfl rfl) ?_
  by_cases h1 : per < 1
  · have f1 : decide (per < 1) = true := decide_eq_true h1
    rw [if_pos (Or.inl h1)]
    refine l_v (by first | exact (r_move (v := bV _) rfl) | exact (r_move rfl)) ?_
    refine l_no rfl (f1) ?_
    refine l_no rfl (f1) ?_
    refine l_v (r_pick_t rfl f1 rfl) ?_
    refine l_nil (nrm_then ?_)
    refine c_true rfl (rfl) ?_
    refine c_rseq ?_
    refine l_v (r_build (l := []) rfl built_rz) ?_
    first | refine l_store_whole (i := 0) hs rfl I31 rfl rfl (by first | assumption | (simp; done)) (by first | assumption | (simp; done)) (by first | assumption | simp [Value.oneCell']) ?_ | refine l_store_whole (i := 1) hs rfl I31 rfl rfl (by first | assumption | (simp; done)) (by first | assumption | (simp; done)) (by first | assumption | simp [Value.oneCell']) ?_ | refine l_store_whole (i := 2) hs rfl I31 rfl rfl (by first | assumption | (simp; done)) (by first | assumption | (simp; done)) (by first | assumption | simp [Value.oneCell']) ?_ | refine l_store_whole (i := 3) hs rfl I31 rfl rfl (by first | assumption | (simp; done)) (by first | assumption | (simp; done)) (by first | assumption | simp [Value.oneCell']) ?_ | refine l_store_whole (i := 4) hs rfl I31 rfl rfl (by first | assumption | (simp; done)) (by first | assumption | (simp; done)) (by first | assumption | simp [Value.oneCell']) ?_ | refine l_store_whole (i := 5) hs rfl I31 rfl rfl (by first | assumption | (simp; done)) (by first | assumption | (simp; done)) (by first | assumption | simp [Value.oneCell']) ?_ | refine l_store_whole (i := 6) hs rfl I31 rfl rfl (by first | assumption | (simp; done)) (by first | assumption | (simp; done)) (by first | assumption | simp [Value.oneCell']) ?_
    intro w_ hs
    refine l_v (by first | exact (r_assign (v := iV _) rfl) | exact (r_assign rfl)) ?_
    refine l_nil (nrm_then ?_)
    refine c_ret (ret_then ?_)
    show Fin _ _ _ _ _
    refine fin2c rfl rfl (run_loadVar_agg Tryd.underlying31 rfl I31 rfl (cells_whole (hs.at_ 0).1)) ?_
    exact .inl ⟨by decide, rfl, hs.drop⟩
  · have f1 : decide (per < 1) = false := decide_eq_false h1
    refine l_v (by first | exact (r_move (v := bV _) rfl) | exact (r_move rfl)) ?_
    refine l_vg (by first | exact (r_move (v := iV _) rfl) | exact (r_move rfl)) rfl (f1) ?_
    refine l_vg (r_gtri rfl rfl) rfl (f1) ?_
    refine l_v (r_pick_f rfl f1 rfl) ?_
    refine l_nil (nrm_then ?_)
    refine c_cond rfl (fun h2 => ?_) (fun h2 => ?_)
    · replace h2 := of_decide_eq_true h2
      refine c_rseq ?_
      refine l_v (r_build (l := []) rfl built_rz) ?_
      first | refine l_store_whole (i := 0) hs rfl I31 rfl rfl (by first | assumption | (simp; done)) (by first | assumption | (simp; done)) (by first | assumption | simp [Value.oneCell']) ?_ | refine l_store_whole (i := 1) hs rfl I31 rfl rfl (by first | assumption | (simp; done)) (by first | assumption | (simp; done)) (by first | assumption | simp [Value.oneCell']) ?_ | refine l_store_whole (i := 2) hs rfl I31 rfl rfl (by first | assumption | (simp; done)) (by first | assumption | (simp; done)) (by first | assumption | simp [Value.oneCell']) ?_ | refine l_store_whole (i := 3) hs rfl I31 rfl rfl (by first | assumption | (simp; done)) (by first | assumption | (simp; done)) (by first | assumption | simp [Value.oneCell']) ?_ | refine l_store_whole (i := 4) hs rfl I31 rfl rfl (by first | assumption | (simp; done)) (by first | assumption | (simp; done)) (by first | assumption | simp [Value.oneCell']) ?_ | refine l_store_whole (i := 5) hs rfl I31 rfl rfl (by first | assumption | (simp; done)) (by first | assumption | (simp; done)) (by first | assumption | simp [Value.oneCell']) ?_ | refine l_store_whole (i := 6) hs rfl I31 rfl rfl (by first | assumption | (simp; done)) (by first | assumption | (simp; done)) (by first | assumption | simp [Value.oneCell']) ?_
      intro w_ hs
      refine l_v (by first | exact (r_assign (v := iV _) rfl) | exact (r_assign rfl)) ?_
      refine l_nil (nrm_then ?_)
      rw [if_pos (Or.inr h2)]
      refine c_ret (ret_then ?_)
      show Fin _ _ _ _ _
      refine fin2c rfl rfl (run_loadVar_agg Tryd.underlying31 rfl I31 rfl (cells_whole (hs.at_ 0).1)) ?_
      exact .inl ⟨by decide, rfl, hs.drop⟩
    · obtain ⟨p, rfl⟩ : ∃ p : Nat, per = (p : Int) := ⟨per.toNat, by omega⟩
      have hp1 : 1 ≤ p ∧ p ≤ 32 := by have := of_decide_eq_false h2; omega
      rw [if_neg (by omega), if_neg (by omega), Int.toNat_natCast]
      have hnp : p * keys.length ≤ 32 * 2000 := Nat.mul_le_mul hp1.2 hn
      have enp : (p : Int) * (keys.length : Int) = ((p * keys.length : Nat) : Int) := by rw [Int.natCast_mul]
      replace h2 := of_decide_eq_false h2
      refine c_skip (nrm_then ?_)
      refine c_seq ?_
      refine c_rseq ?_
      refine l_v (by first | exact (r_move (v := .slice _ _ _) rfl) | exact (r_move rfl)) ?_
      refine l_v (r_len_l Tryd.underlying22 rfl) ?_
      refine l_v (r_gtri rfl rfl) ?_
      refine l_nil (nrm_then ?_)
      refine c_false rfl ((decide_eq_false (by omega))) ?_
      refine c_skip (nrm_then ?_)
      refine c_rseq ?_
      refine l_v (by first | exact (r_assign (v := iV _) rfl) | exact (r_assign rfl)) ?_
      refine l_nil (nrm_then ?_)
      refine c_seq ?_
      refine c_block ?_
      refine c_loopn [0, 1, 4, 5] (fun m f' w' => ∃ j : Nat, m + j = p * keys.length + 2 ∧ f' 6 = iV ((64 * j : Nat) : Int) ∧ 1 ≤ j ∧ (j = 1 ∨ 64 * (j - 1) < p * keys.length) ∧ w' = w4) ?_ ?_
      · exact ⟨p * keys.length + 1, 1, by omega, rfl, by omega, .inl rfl, rfl⟩
      · rintro m g w_ ⟨j, hj, h6, hj1, hj2, hw⟩
        subst hw
        refine OkC.env ?_ (fixH (L := [(6, _)]) ⟨h6, trivial⟩)
        clear h6
        refine c_seq ?_
        refine c_rseq ?_
        refine l_v (by first | exact (r_move (v := iV _) rfl) | exact (r_move rfl)) ?_
        refine l_v (by first | exact (r_move (v := iV _) rfl) | exact (r_move rfl)) ?_
        refine l_v (by first | exact (r_move (v := .slice _ _ _) rfl) | exact (r_move rfl)) ?_
        refine l_v (r_len_l Tryd.underlying22 rfl) ?_
        refine l_v (r_muli rfl rfl (by rw [enp]; omega)) ?_
        rw [enp]
        refine l_v (r_lssi rfl rfl) ?_
        refine l_nil (nrm_then ?_)
        refine c_cond rfl (fun h3 => ?_) (fun h3 => ?_)
        · have hlt : 64 * j < p * keys.length := by have := of_decide_eq_true h3; omega
          replace h3 := of_decide_eq_true h3
          refine c_skip (nrm_then ?_)
          refine c_block ?_
          refine c_region ?_
          refine l_v (by first | exact (r_move (v := iV _) rfl) | exact (r_move rfl)) ?_
          refine l_v (r_addi rfl rfl (by omega)) ?_
          refine l_v (by first | exact (r_assign (v := iV _) rfl) | exact (r_assign rfl)) ?_
          refine l_nil (nrm_block (nrm_then ?_))
          refine And.intro (by refine ⟨?_, ?_, ?_, ?_, trivial⟩ <;> ((conv => lhs; whnf); (try conv => rhs; whnf))) ?_
          exact ⟨p * keys.length + 2 - (j + 1), by omega, j + 1, by omega, congrArg iV (by omega), by omega, .inr hlt, rfl⟩
        · have hjw : j = wordsN p keys.length := words_loop hj1 hj2 (by have := of_decide_eq_false h3; omega)
          have hw1 := words_pos p keys.length
          have hw2 := words_le hp1.2 hn
          rw [← hjw] at hw1 hw2 ⊢
          replace h3 := of_decide_eq_false h3
          refine c_exit (ex_then (ex_then (ex_hit (nrm_then ?_))))
          refine c_rseq ?_
          refine l_v (by first | exact (r_move (v := iV _) rfl) | exact (r_move rfl)) ?_
          refine l_v (r_muli rfl rfl (by omega)) ?_
          refine l_v (r_quoi rfl rfl (by omega) (by decide)) ?_
          refine l_v (by first | exact (r_move (v := iV _) rfl) | exact (r_move rfl)) ?_
          refine l_make (l := 64 * j) (c := 64 * j) hs Tryd.underlying29 I4 rfl rfl (Nat.le_refl _) (by omega) (by omega) ?_
          intro b34 w34 hs hB34 hlt34
          rw [show 64 * j = 8 * (8 * j) by omega] at hs ⊢
          have e7 : (p : Int) * 7 / 10 = ((p * 7 / 10 : Nat) : Int) := by omega
          rw [e7]
          have hHq : hashN p = min (max 1 (p * 7 / 10)) 8 := rfl
          generalize hq : p * 7 / 10 = q at *
          rw [hHq]
          have hz0 : (madeCells (Value.bool false).cells (8 * (8 * j) * 1)).toList = bvs (makeK (min (max 1 q) 8) (8 * j) (keys.map toL) 0) := by
            rw [makeK_zero, Nat.mul_one]
            unfold bvs
            rw [BL_zero, List.map_replicate]
            exact toList_madeCells_one _ _
          rw [hz0] at hs
          refine l_v (r_build (l := [(0, iV (q : Int)), (1, .slice (some ⟨b34, 0, none⟩) (8 * (8 * j)) (8 * (8 * j)))]) rfl (built_rf (q : Int) _ rfl)) ?_
          refine l_alloc hs I31 ?_
          intro b7 w7 hs hB7 hlt7
          first | refine l_store_whole (i := 0) hs rfl I31 rfl rfl (by first | assumption | (simp; done)) (by first | assumption | (simp; done)) (by first | assumption | simp [Value.oneCell']) ?_ | refine l_store_whole (i := 1) hs rfl I31 rfl rfl (by first | assumption | (simp; done)) (by first | assumption | (simp; done)) (by first | assumption | simp [Value.oneCell']) ?_ | refine l_store_whole (i := 2) hs rfl I31 rfl rfl (by first | assumption | (simp; done)) (by first | assumption | (simp; done)) (by first | assumption | simp [Value.oneCell']) ?_ | refine l_store_whole (i := 3) hs rfl I31 rfl rfl (by first | assumption | (simp; done)) (by first | assumption | (simp; done)) (by first | assumption | simp [Value.oneCell']) ?_ | refine l_store_whole (i := 4) hs rfl I31 rfl rfl (by first | assumption | (simp; done)) (by first | assumption | (simp; done)) (by first | assumption | simp [Value.oneCell']) ?_ | refine l_store_whole (i := 5) hs rfl I31 rfl rfl (by first | assumption | (simp; done)) (by first | assumption | (simp; done)) (by first | assumption | simp [Value.oneCell']) ?_ | refine l_store_whole (i := 6) hs rfl I31 rfl rfl (by first | assumption | (simp; done)) (by first | assumption | (simp; done)) (by first | assumption | simp [Value.oneCell']) ?_
          intro w_ hs
          refine l_nil (nrm_then ?_)
          refine c_seq ?_
          refine c_rseq ?_
          refine l_v (by first | exact (r_fieldAddr0 (off := 0) (T := 3) (by kernel_rfl) rfl) | exact (r_fieldAddr (off := 0) (T := 3) (by kernel_rfl) rfl)) ?_
          refine l_v (by first | exact (r_load_at (i := 0) hs rfl Tryd.underlying3 rfl rfl) | exact (r_load_at (i := 1) hs rfl Tryd.underlying3 rfl rfl) | exact (r_load_at (i := 2) hs rfl Tryd.underlying3 rfl rfl) | exact (r_load_at (i := 3) hs rfl Tryd.underlying3 rfl rfl) | exact (r_load_at (i := 4) hs rfl Tryd.underlying3 rfl rfl) | exact (r_load_at (i := 5) hs rfl Tryd.underlying3 rfl rfl) | exact (r_load_at (i := 6) hs rfl Tryd.underlying3 rfl rfl)) ?_
          refine l_v (r_eqli rfl rfl) ?_
          refine l_nil (nrm_then ?_)
          have hs : Eng.Sep w0 w_ (blk b7 [iV (q : Int), .slice (some ⟨b34, 0, none⟩) (8 * (8 * j)) (8 * (8 * j))] 31 :: blk b34 (bvs (makeK (min (max 1 q) 8) (8 * j) (keys.map toL) 0)) 4 :: blk b4 [iV 0, .slice none 0 0] 31 :: R) := hs
          refine c_mid [1, 4, 5, 7] (fun f' w' => Eng.Sep w0 w' (blk b7 [iV ((max 1 q : Nat) : Int), .slice (some ⟨b34, 0, none⟩) (8 * (8 * j)) (8 * (8 * j))] 31 :: blk b34 (bvs (makeK (min (max 1 q) 8) (8 * j) (keys.map toL) 0)) 4 :: blk b4 [iV 0, .slice none 0 0] 31 :: R)) ?_ ?_
          · skip
            refine c_cond rfl (fun h5 => ?_) (fun h5 => ?_)
            · have e1 : max 1 q = 1 := by have := of_decide_eq_true h5; omega
              replace h5 := of_decide_eq_true h5
              refine c_region ?_
              refine l_v (by first | exact (r_fieldAddr0 (off := 0) (T := 3) (by kernel_rfl) rfl) | exact (r_fieldAddr (off := 0) (T := 3) (by kernel_rfl) rfl)) ?_
              first | refine l_store (i := 0) (v := iV _) hs rfl I3 rfl rfl (by first | (simp; done) | (simp; omega) | omega) ?_ | refine l_store (i := 1) (v := iV _) hs rfl I3 rfl rfl (by first | (simp; done) | (simp; omega) | omega) ?_ | refine l_store (i := 2) (v := iV _) hs rfl I3 rfl rfl (by first | (simp; done) | (simp; omega) | omega) ?_ | refine l_store (i := 3) (v := iV _) hs rfl I3 rfl rfl (by first | (simp; done) | (simp; omega) | omega) ?_ | refine l_store (i := 4) (v := iV _) hs rfl I3 rfl rfl (by first | (simp; done) | (simp; omega) | omega) ?_ | refine l_store (i := 5) (v := iV _) hs rfl I3 rfl rfl (by first | (simp; done) | (simp; omega) | omega) ?_ | refine l_store (i := 6) (v := iV _) hs rfl I3 rfl rfl (by first | (simp; done) | (simp; omega) | omega) ?_
              intro w_ hs
              refine l_nil (nrm_then ?_)
              refine And.intro (by refine ⟨?_, ?_, ?_, ?_, trivial⟩ <;> ((conv => lhs; whnf); (try conv => rhs; whnf))) ?_
              rw [e1]; exact hs
            · have e1 : max 1 q = q := by have := of_decide_eq_false h5; omega
              replace h5 := of_decide_eq_false h5
              refine c_skip (nrm_then ?_)
              refine And.intro (by refine ⟨?_, ?_, ?_, ?_, trivial⟩ <;> ((conv => lhs; whnf); (try conv => rhs; whnf))) ?_
              rw [e1]; exact hs
          · rintro g w_ hs
            show OkC _ _ _ _ _ _
            refine c_seq ?_
            refine c_rseq ?_
            refine l_v (by first | exact (r_fieldAddr0 (off := 0) (T := 3) (by kernel_rfl) rfl) | exact (r_fieldAddr (off := 0) (T := 3) (by kernel_rfl) rfl)) ?_
            refine l_v (by first | exact (r_load_at (i := 0) hs rfl Tryd.underlying3 rfl rfl) | exact (r_load_at (i := 1) hs rfl Tryd.underlying3 rfl rfl) | exact (r_load_at (i := 2) hs rfl Tryd.underlying3 rfl rfl) | exact (r_load_at (i := 3) hs rfl Tryd.underlying3 rfl rfl) | exact (r_load_at (i := 4) hs rfl Tryd.underlying3 rfl rfl) | exact (r_load_at (i := 5) hs rfl Tryd.underlying3 rfl rfl) | exact (r_load_at (i := 6) hs rfl Tryd.underlying3 rfl rfl)) ?_
            refine l_v (r_gtri rfl rfl) ?_
            refine l_nil (nrm_then ?_)
            refine c_mid [1, 4, 5, 7] (fun f' w' => Eng.Sep w0 w' (blk b7 [iV ((min (max 1 q) 8 : Nat) : Int), .slice (some ⟨b34, 0, none⟩) (8 * (8 * j)) (8 * (8 * j))] 31 :: blk b34 (bvs (makeK (min (max 1 q) 8) (8 * j) (keys.map toL) 0)) 4 :: blk b4 [iV 0, .slice none 0 0] 31 :: R)) ?_ ?_
            · skip
              refine c_cond rfl (fun h5 => ?_) (fun h5 => ?_)
              · have e1 : min (max 1 q) 8 = 8 := by have := of_decide_eq_true h5; omega
                replace h5 := of_decide_eq_true h5
                refine c_region ?_
                refine l_v (by first | exact (r_fieldAddr0 (off := 0) (T := 3) (by kernel_rfl) rfl) | exact (r_fieldAddr (off := 0) (T := 3) (by kernel_rfl) rfl)) ?_
                first | refine l_store (i := 0) (v := iV _) hs rfl I3 rfl rfl (by first | (simp; done) | (simp; omega) | omega) ?_ | refine l_store (i := 1) (v := iV _) hs rfl I3 rfl rfl (by first | (simp; done) | (simp; omega) | omega) ?_ | refine l_store (i := 2) (v := iV _) hs rfl I3 rfl rfl (by first | (simp; done) | (simp; omega) | omega) ?_ | refine l_store (i := 3) (v := iV _) hs rfl I3 rfl rfl (by first | (simp; done) | (simp; omega) | omega) ?_ | refine l_store (i := 4) (v := iV _) hs rfl I3 rfl rfl (by first | (simp; done) | (simp; omega) | omega) ?_ | refine l_store (i := 5) (v := iV _) hs rfl I3 rfl rfl (by first | (simp; done) | (simp; omega) | omega) ?_ | refine l_store (i := 6) (v := iV _) hs rfl I3 rfl rfl (by first | (simp; done) | (simp; omega) | omega) ?_
                intro w_ hs
                refine l_nil (nrm_then ?_)
                refine And.intro (by refine ⟨?_, ?_, ?_, ?_, trivial⟩ <;> ((conv => lhs; whnf); (try conv => rhs; whnf))) ?_
                rw [e1]
                rw [e1] at hs
                exact hs
              · have e1 : min (max 1 q) 8 = max 1 q := by have := of_decide_eq_false h5; omega
                replace h5 := of_decide_eq_false h5
                refine c_skip (nrm_then ?_)
                refine And.intro (by refine ⟨?_, ?_, ?_, ?_, trivial⟩ <;> ((conv => lhs; whnf); (try conv => rhs; whnf))) ?_
                rw [e1]
                rw [e1] at hs
                exact hs
            · rintro g w_ hs
              show OkC _ _ _ _ _ _
              have hH8 : min (max 1 q) 8 ≤ 8 := by omega
              generalize min (max 1 q) 8 = H at *
              refine c_seq ?_
              refine c_rseq ?_
              refine l_v (by first | exact (r_assign (v := iV _) rfl) | exact (r_assign rfl)) ?_
              refine l_nil (nrm_then ?_)
              refine c_block ?_
              refine c_loopn [1, 4, 5, 7] (fun m f' w' => ∃ i : Nat, i + m = keys.length ∧ f' 8 = iV (i : Int) ∧ Eng.Sep w0 w' (blk b7 [iV (H : Int), .slice (some ⟨b34, 0, none⟩) (8 * (8 * j)) (8 * (8 * j))] 31 :: blk b34 (bvs (makeK H (8 * j) (keys.map toL) i)) 4 :: blk b4 [iV 0, .slice none 0 0] 31 :: R)) ?_ ?_
              · exact ⟨keys.length, 0, by omega, rfl, hs⟩
              · rintro m g w_ ⟨i, hi, h8, hs⟩
                refine OkC.env ?_ (fixH (L := [(8, _)]) ⟨h8, trivial⟩)
                clear h8
                refine c_seq ?_
                refine c_rseq ?_
                refine l_v (by first | exact (r_move (v := iV _) rfl) | exact (r_move rfl)) ?_
                refine l_v (by first | exact (r_move (v := .slice _ _ _) rfl) | exact (r_move rfl)) ?_
                refine l_v (r_len_l Tryd.underlying22 rfl) ?_
                refine l_v (r_lssi rfl rfl) ?_
                refine l_nil (nrm_then ?_)
                refine c_cond rfl (fun h9 => ?_) (fun h9 => ?_)
                · have hil : i < keys.length := by have := of_decide_eq_true h9; omega
                  obtain ⟨s, hsi⟩ : ∃ s, keys[i]? = some s := ⟨keys[i], List.getElem?_eq_getElem hil⟩
                  have hsm := List.mem_of_getElem? hsi
                  have hmk := makeK_next H (8 * j) (keys := keys.map toL) (i := i) (key := toL s) (by rw [List.getElem?_map, hsi]; rfl)
                  have hBl : (makeK H (8 * j) (keys.map toL) i).length = 8 * j := makeB_len _ _ _
                  have hrk := hr0 _ hs.drop.drop.drop
                  obtain ⟨ad, rfl, hcell⟩ := hrk.ad (by omega)
                  have hcell := hcell i (sV s) (by rw [List.getElem?_map, hsi]; rfl)
                  generalize makeK H (8 * j) (keys.map toL) i = B at *
                  replace h9 := of_decide_eq_true h9
                  refine c_skip (nrm_then ?_)
                  refine c_seq ?_
                  refine c_block ?_
                  refine c_seq ?_
                  refine c_float [] 5 (by kernel_rfl) (by kernel_rfl) ?_
                  intro hbF
                  show OkF _ _ _ _ _ _ (_ :: _) 0 _ _
                  refine f_v (fun wl hbl => by have hs := hs.below_ hbl; exact (r_load_whole (i := 0) hs rfl Tryd.underlying31 I31 rfl rfl)) ?_
                  refine f_v (fun wl hbl => by have hs := hs.below_ hbl; first | exact (r_move (v := .slice _ _ _) rfl) | exact (r_move rfl)) ?_
                  refine f_v (fun wl hbl => by have hs := hs.below_ hbl; first | exact (r_move (v := iV _) rfl) | exact (r_move rfl)) ?_
                  refine f_v (fun wl hbl => by have hs := hs.below_ hbl; exact (r_indexAddr_l1 (k := i) Tryd.underlying22 I9 rfl rfl hil)) ?_
                  refine f_v (fun wl hbl => by have hs := hs.below_ hbl; exact (r_load Tryd.underlying9 rfl ((hbl.cell (World.block_lt_of_cell? _ _ hcell)).trans hcell))) ?_
                  refine f_nil ?_
                  have hs := hs.below_ hbF
                  show OkL _ _ _ _ (_ :: _) _ _
                  refine l_call (r_call Tryd.func19 rfl rfl) ?_
                  refine Calls.mono (rbits_c H (8 * j) _ _ s (by have := hz s hsm; omega) hH8 (by omega) (by omega) w0 _ _ hs) ?_
                  rintro e w_ ⟨v9, rfl, hs⟩
                  refine ⟨_, rfl, ?_⟩
                  obtain ⟨A9, c9, rfl, hc9⟩ := hs.rowForm
                  have hpl := place_len (toL s) (8 * j) H
                  unfold rowN at hs
                  rw [hpl] at hs hc9 ⊢
                  refine l_v (by first | exact (r_assign (v := .slice _ _ _) rfl) | exact (r_assign rfl)) ?_
                  refine l_nil (nrm_then ?_)
                  refine c_rseq ?_
                  refine l_v (by first | exact (r_assign (v := iV _) rfl) | exact (r_assign rfl)) ?_
                  refine l_nil (nrm_then ?_)
                  refine c_block ?_
                  have hs : Eng.Sep w0 w_ (RowC 3 1 (.slice A9 H c9) H ((places (toL s) (8 * j) H).map fun n : Nat => iV (n : Int)) :: blk b7 [iV (H : Int), .slice (some ⟨b34, 0, none⟩) (8 * (8 * j)) (8 * (8 * j))] 31 :: blk b34 (bvs (putK B (toL s) (8 * j) H 0)) 4 :: blk b4 [iV 0, .slice none 0 0] 31 :: R) := hs
                  refine c_loopn [1, 4, 5, 7, 8, 9] (fun m f' w' => ∃ k : Nat, k + m = H ∧ f' 10 = iV (k : Int) ∧ Eng.Sep w0 w' (RowC 3 1 (.slice A9 H c9) H ((places (toL s) (8 * j) H).map fun n : Nat => iV (n : Int)) :: blk b7 [iV (H : Int), .slice (some ⟨b34, 0, none⟩) (8 * (8 * j)) (8 * (8 * j))] 31 :: blk b34 (bvs (putK B (toL s) (8 * j) H k)) 4 :: blk b4 [iV 0, .slice none 0 0] 31 :: R)) ?_ ?_
                  · exact ⟨H, 0, by omega, rfl, hs⟩
                  · rintro m g w_ ⟨k, hk, h10, hs⟩
                    refine OkC.env ?_ (fixH (L := [(10, _)]) ⟨h10, trivial⟩)
                    clear h10
                    refine c_seq ?_
                    refine c_rseq ?_
                    refine l_v (by first | exact (r_move (v := iV _) rfl) | exact (r_move rfl)) ?_
                    refine l_v (by first | exact (r_move (v := .slice _ _ _) rfl) | exact (r_move rfl)) ?_
                    refine l_v (r_len_l Tryd.underlying49 rfl) ?_
                    refine l_v (r_lssi rfl rfl) ?_
                    refine l_nil (nrm_then ?_)
                    refine c_cond rfl (fun h11 => ?_) (fun h11 => ?_)
                    · have hkh : k < H := by have := of_decide_eq_true h11; omega
                      have hnx := putK_next B (toL s) (8 * j) hkh
                      have hplt := place_lt (toL s) (show 0 < 8 * j by omega) k
                      have hpg := place_get (toL s) (8 * j) hkh
                      have hPl : (putK B (toL s) (8 * j) H k).length = 8 * j := (putK_len ..).trans hBl
                      obtain ⟨ad9, rfl, hcell9⟩ := hs.rd.ad (by omega)
                      have hX := hcell9 k (iV (place (toL s) (8 * j) k : Int)) (by rw [List.getElem?_map, hpg]; rfl)
                      generalize hpn : place (toL s) (8 * j) k = n at *
                      replace h11 := of_decide_eq_true h11
                      refine c_skip (nrm_then ?_)
                      refine c_seq ?_
                      refine c_block ?_
                      refine c_tail 6 (by kernel_rfl) (by kernel_rfl) ?_
                      have hs := hs.drew
                      show OkS _ _ _ _ _ (_ :: _) _
                      refine s_v (by first | exact (r_fieldAddr0 (off := 1) (T := 29) (by kernel_rfl) rfl) | exact (r_fieldAddr (off := 1) (T := 29) (by kernel_rfl) rfl)) ?_
                      refine s_v (by first | exact (r_load_at (i := 0) hs rfl Tryd.underlying29 rfl rfl) | exact (r_load_at (i := 1) hs rfl Tryd.underlying29 rfl rfl) | exact (r_load_at (i := 2) hs rfl Tryd.underlying29 rfl rfl) | exact (r_load_at (i := 3) hs rfl Tryd.underlying29 rfl rfl) | exact (r_load_at (i := 4) hs rfl Tryd.underlying29 rfl rfl) | exact (r_load_at (i := 5) hs rfl Tryd.underlying29 rfl rfl) | exact (r_load_at (i := 6) hs rfl Tryd.underlying29 rfl rfl)) ?_
                      refine s_v (by first | exact (r_move (v := .slice _ _ _) rfl) | exact (r_move rfl)) ?_
                      refine s_v (by first | exact (r_move (v := iV _) rfl) | exact (r_move rfl)) ?_
                      refine s_v (r_indexAddr_l1 (k := k) Tryd.underlying49 I3 rfl rfl hkh) ?_
                      refine s_v (r_load Tryd.underlying3 rfl hX) ?_
                      refine s_nil ?_
                      show OkL _ _ _ _ (_ :: _) _ _
                      refine l_v (r_indexAddr_o1 (k := n) Tryd.underlying29 I4 rfl rfl hplt) ?_
                      refine l_store (i := 2) hs rfl I4 rfl rfl (by rw [bvs_len]; omega) ?_
                      intro w8 hs
                      refine l_nil (nrm_block (nrm_then ?_))
                      refine c_region ?_
                      refine l_v (by first | exact (r_move (v := iV _) rfl) | exact (r_move rfl)) ?_
                      refine l_v (r_addi rfl rfl (by omega)) ?_
                      refine l_v (by first | exact (r_assign (v := iV _) rfl) | exact (r_assign rfl)) ?_
                      refine l_nil (nrm_then ?_)
                      have hs : Eng.Sep w0 _ (RowC 3 1 (.slice (some ad9) H c9) H ((places (toL s) (8 * j) H).map fun n : Nat => iV (n : Int)) :: blk b7 [iV (H : Int), .slice (some ⟨b34, 0, none⟩) (8 * (8 * j)) (8 * (8 * j))] 31 :: blk b34 ((bvs (putK B (toL s) (8 * j) H k)).set n (bV true)) 4 :: blk b4 [iV 0, .slice none 0 0] 31 :: R) := hs
                      rw [bvs_put (by omega), ← hnx] at hs
                      refine And.intro (by refine ⟨?_, ?_, ?_, ?_, ?_, ?_, trivial⟩ <;> ((conv => lhs; whnf); (try conv => rhs; whnf))) ?_
                      exact ⟨H - (k + 1), by omega, k + 1, by omega, rfl, hs⟩
                    · obtain rfl : k = H := by have := of_decide_eq_false h11; omega
                      rw [putK_all, ← hmk] at hs
                      replace h11 := of_decide_eq_false h11
                      refine c_exit (ex_then (ex_then (ex_hit (nrm_block (nrm_then ?_)))))
                      refine c_region ?_
                      refine l_v (by first | exact (r_move (v := iV _) rfl) | exact (r_move rfl)) ?_
                      refine l_v (r_addi rfl rfl (by omega)) ?_
                      refine l_v (by first | exact (r_assign (v := iV _) rfl) | exact (r_assign rfl)) ?_
                      refine l_nil (nrm_then ?_)
                      refine And.intro (by refine ⟨?_, ?_, ?_, ?_, trivial⟩ <;> ((conv => lhs; whnf); (try conv => rhs; whnf))) ?_
                      exact ⟨keys.length - (i + 1), by omega, i + 1, by omega, rfl, hs.drop⟩
                · obtain rfl : i = keys.length := by have := of_decide_eq_false h9; omega
                  have e : makeK H (8 * j) (keys.map toL) keys.length = makeB H (8 * j) (keys.map toL) := by
                    unfold makeK
                    rw [List.take_of_length_le (by rw [List.length_map]; omega)]
                  rw [e] at hs
                  replace h9 := of_decide_eq_false h9
                  refine c_exit (ex_then (ex_then (ex_hit (nrm_then ?_))))
                  refine c_rseq ?_
                  refine l_v (r_load_whole (i := 0) hs rfl Tryd.underlying31 I31 rfl rfl) ?_
                  refine l_store_whole (i := 2) hs rfl I31 rfl rfl rfl rfl (by simp [Value.oneCell']) ?_
                  intro w8 hs
                  refine l_v (by first | exact (r_assign (v := iV _) rfl) | exact (r_assign rfl)) ?_
                  refine l_nil (nrm_then ?_)
                  refine c_ret ?_
                  show Fin _ _ _ _ _
                  refine fin2c rfl rfl (run_loadVar_agg Tryd.underlying31 rfl I31 rfl (cells_whole (hs.at_ 2).1)) ?_
                  exact .inr ⟨rfl, b34, rfl, (hs.drop.pull 1).drop⟩
end Go.Proofs.YtbimboibllboeaaDoor.Blm
