/- The walk of the law ShaSums. -/
import Derived.Test.YtcnljmbjhdfblaaDoorShaAwake
namespace Go.Proofs.YtcnljmbjhdfblaaDoor.Sha
open Go Go.RowKit Go.Proofs.YtcnljmbjhdfblaaDoor.Eng
set_option linter.unusedVariables false
set_option maxRecDepth 100000
set_option maxHeartbeats 2000000 in
theorem shaSums_walk (ps : List ByteArray) (A : Option Addr) (c : Nat) (w : World) (h0 : Ok0 w) (hr : Rd w 1 A ps.length (ps.map sV)) (hz : ∀ s ∈ ps, s.size ≤ 9223372036854775807) :
    Calls Tryd.prog 3 #[.slice A ps.length c] w fun e w' => e = .returned (bV true) ∧ Below w.heap.size w w' := by
  have hn := hr.2.1
  refine enter (P := Tryd.prog) Tryd.func3 rfl rfl ?_
  refine c_rseq ?_
  refine l_v (by first | exact (r_assign (v := bV _) rfl) | exact (r_assign rfl)) ?_
  refine l_nil (nrm_then ?_)
  refine c_rseq ?_
  refine l_v (by first | exact (r_assign (v := sV _) rfl) | exact (r_assign rfl)) ?_
  refine l_nil (nrm_then ?_)
  refine c_seq ?_
  refine c_rseq ?_
  refine l_v (by first | exact (r_assign (v := iV _) rfl) | exact (r_assign rfl)) ?_
  refine l_nil (nrm_then ?_)
  refine c_block ?_
  refine c_loopn [0] (fun m f' w' => w' = w ∧ ∃ k s, k + m = ps.length ∧ f' 4 = iV (k : Int) ∧ f' 3 = sV s ∧ toL s = (ps.take k).flatMap toL ∧ s.size ≤ 40000) ?_ ?_
  · exact ⟨ps.length, rfl, 0, ⟨#[]⟩, by omega, rfl, rfl, rfl, by decide⟩
  · rintro m g w_ ⟨hw, k, s, hk, h4, h3, hs1, hs2⟩
    subst w_
    refine OkC.env ?_ (fixH (L := [(4, _), (3, _)]) ⟨h4, h3, trivial⟩)
    clear h4 h3
    refine c_seq ?_
    refine c_rseq ?_
    refine l_v (by first | exact (r_move (v := iV _) rfl) | exact (r_move rfl)) ?_
    refine l_v (by first | exact (r_move (v := .slice _ _ _) rfl) | exact (r_move rfl)) ?_
    refine l_v (r_len_l Tryd.underlying22 rfl) ?_
    refine l_v (r_lssi rfl rfl) ?_
    refine l_nil (nrm_then ?_)
    refine c_cond rfl (fun h => ?_) (fun h => ?_)
    · replace h := of_decide_eq_true h
      refine c_skip (nrm_then ?_)
      refine c_seq ?_
      refine c_block ?_
      refine c_seq ?_
      refine c_rseq ?_
      refine l_v (by first | exact (r_move (v := .slice _ _ _) rfl) | exact (r_move rfl)) ?_
      refine l_v (by first | exact (r_move (v := iV _) rfl) | exact (r_move rfl)) ?_
      obtain ⟨ad, rfl, hc⟩ := hr.ad (by omega)
      have hkl : k < ps.length := by omega
      have hld := hc k (sV ps[k]) (by simp [hkl])
      have hzk := hz ps[k] (List.getElem_mem hkl)
      refine l_v (by first | exact (r_indexAddr_o1 Tryd.underlying22 I9 rfl rfl (by omega)) | exact (r_indexAddr_l1 Tryd.underlying22 I9 rfl rfl (by omega)) | exact (r_indexAddr_l Tryd.underlying22 I9 rfl rfl (by omega))) ?_
      refine l_v (r_load Tryd.underlying9 rfl hld) ?_
      refine l_v (r_len_s Tryd.underlying9 rfl) ?_
      refine l_v (r_gtri rfl rfl) ?_
      refine l_v (by first | exact (r_move (v := bV _) rfl) | exact (r_move rfl)) ?_
      by_cases hbig : (ps[k].size : Int) > 20000
      · refine l_no rfl (decide_eq_true hbig) ?_
        refine l_no rfl (decide_eq_true hbig) ?_
        refine l_no rfl (decide_eq_true hbig) ?_
        refine l_v (r_pick_t rfl (decide_eq_true hbig) rfl) ?_
        refine l_nil (nrm_then ?_)
        refine c_true rfl (rfl) ?_
        refine c_rseq ?_
        refine l_call (r_call Tryd.func7 rfl rfl) ?_
        refine Calls.mono (awake_c _ h0) ?_
        rintro e w_ ⟨rfl, hb⟩
        refine ⟨_, rfl, ?_⟩
        refine l_v (by first | exact (r_assign (v := bV _) rfl) | exact (r_assign rfl)) ?_
        refine l_nil (nrm_then ?_)
        refine c_ret (ret_then (ret_block (ret_then (ret_then (ret_block (ret_then ?_))))))
        show Fin _ _ _ _ _
        refine fin1 rfl ?_
        exact ⟨rfl, hb⟩
      · skip
        refine l_vg (by first | exact (r_move (v := sV _) rfl) | exact (r_move rfl)) rfl (decide_eq_false hbig) ?_
        refine l_vg (r_len_s Tryd.underlying9 rfl) rfl (decide_eq_false hbig) ?_
        refine l_vg (r_gtri rfl rfl) rfl (decide_eq_false hbig) ?_
        refine l_v (r_pick_f rfl (decide_eq_false hbig) rfl) ?_
        refine l_nil (nrm_then ?_)
        refine c_cond rfl (fun h2 => ?_) (fun h2 => ?_)
        · replace h2 := of_decide_eq_true h2
          refine c_rseq ?_
          refine l_call (r_call Tryd.func7 rfl rfl) ?_
          refine Calls.mono (awake_c _ h0) ?_
          rintro e w_ ⟨rfl, hb⟩
          refine ⟨_, rfl, ?_⟩
          refine l_v (by first | exact (r_assign (v := bV _) rfl) | exact (r_assign rfl)) ?_
          refine l_nil (nrm_then ?_)
          refine c_ret (ret_then (ret_block (ret_then (ret_then (ret_block (ret_then ?_))))))
          show Fin _ _ _ _ _
          refine fin1 rfl ?_
          exact ⟨rfl, hb⟩
        · replace h2 := of_decide_eq_false h2
          refine c_skip (nrm_then ?_)
          refine c_region ?_
          refine l_v (by first | exact (r_move (v := sV _) rfl) | exact (r_move rfl)) ?_
          refine l_v (by first | exact (r_move (v := .slice _ _ _) rfl) | exact (r_move rfl)) ?_
          refine l_v (by first | exact (r_move (v := iV _) rfl) | exact (r_move rfl)) ?_
          refine l_v (by first | exact (r_indexAddr_o1 Tryd.underlying22 I9 rfl rfl (by omega)) | exact (r_indexAddr_l1 Tryd.underlying22 I9 rfl rfl (by omega)) | exact (r_indexAddr_l Tryd.underlying22 I9 rfl rfl (by omega))) ?_
          refine l_v (r_load Tryd.underlying9 rfl hld) ?_
          refine l_v (r_adds rfl rfl (by omega)) ?_
          refine l_v (by first | exact (r_assign (v := sV _) rfl) | exact (r_assign rfl)) ?_
          refine l_nil (nrm_block (nrm_then ?_))
          refine c_region ?_
          refine l_v (by first | exact (r_move (v := iV _) rfl) | exact (r_move rfl)) ?_
          refine l_v (r_addi rfl rfl (by omega)) ?_
          refine l_v (by first | exact (r_assign (v := iV _) rfl) | exact (r_assign rfl)) ?_
          refine l_nil (nrm_then ?_)
          refine And.intro (by refine ⟨?_, trivial⟩ <;> ((conv => lhs; whnf); (try conv => rhs; whnf))) ?_
          refine ⟨ps.length - (k + 1), by omega, rfl, k + 1, s ++ ps[k], by omega, rfl, rfl, ?_, ?_⟩
          · rw [flat_next ps k hkl, ← hs1]; simp
          · rw [ByteArray.size_append]; omega
    · replace h := of_decide_eq_false h
      refine c_exit (ex_then (ex_then (ex_hit (nrm_then ?_))))
      refine c_rseq ?_
      refine l_v (by first | exact (r_move (v := sV _) rfl) | exact (r_move rfl)) ?_
      obtain rfl : k = ps.length := by omega
      rw [List.take_length] at hs1
      refine l_call (r_call Tryd.func8 rfl rfl) ?_
      refine Calls.mono (refsum_c s (by omega) _) ?_
      rintro e w_ ⟨rfl, hb⟩
      refine ⟨_, rfl, ?_⟩
      have hs := (Sep.init w).below_ hb
      have hdl : ((digest (toL s)).map u8V).length = 32 := (List.length_map u8V).trans (digest_length _)
      have hE : decide (digest (ps.flatMap toL) = digest (toL s)) = true := decide_eq_true (by rw [hs1])
      have hE2 : decide (digest ([s].flatMap toL) = digest (toL s)) = true := decide_eq_true (by rw [List.flatMap_cons, List.flatMap_nil, List.append_nil])
      refine l_alloc hs I25 ?_
      intro b5 w5 hs hB5 hlt5
      first | refine l_store_whole (i := 0) hs rfl I25 rfl rfl (by first | assumption | (simp; done)) (by first | assumption | (simp; done)) (by simp [Value.oneCell']) ?_ | refine l_store_whole (i := 1) hs rfl I25 rfl rfl (by first | assumption | (simp; done)) (by first | assumption | (simp; done)) (by simp [Value.oneCell']) ?_ | refine l_store_whole (i := 2) hs rfl I25 rfl rfl (by first | assumption | (simp; done)) (by first | assumption | (simp; done)) (by simp [Value.oneCell']) ?_ | refine l_store_whole (i := 3) hs rfl I25 rfl rfl (by first | assumption | (simp; done)) (by first | assumption | (simp; done)) (by simp [Value.oneCell']) ?_ | refine l_store_whole (i := 4) hs rfl I25 rfl rfl (by first | assumption | (simp; done)) (by first | assumption | (simp; done)) (by simp [Value.oneCell']) ?_ | refine l_store_whole (i := 5) hs rfl I25 rfl rfl (by first | assumption | (simp; done)) (by first | assumption | (simp; done)) (by simp [Value.oneCell']) ?_ | refine l_store_whole (i := 6) hs rfl I25 rfl rfl (by first | assumption | (simp; done)) (by first | assumption | (simp; done)) (by simp [Value.oneCell']) ?_
      intro w_ hs
      refine l_nil (nrm_then ?_)
      refine c_seq ?_
      refine c_float [10, 9, 3, 0] 12 (by kernel_rfl) (by kernel_rfl) ?_
      intro hbF
      show OkF _ _ _ _ _ _ (_ :: _) 0 _ _
      refine f_call (r_call Tryd.func7 rfl rfl) ?_
      refine Calls.mono (awake_c _ (h0.sep (hs.below_ hbF))) ?_
      rintro e w_ ⟨rfl, hb⟩
      have hbF := hbF.trans (Below.mono hb hbF.size)
      refine ⟨_, rfl, hb, ?_⟩
      refine f_v (fun wl hbl => by have hs := hs.below_ hbl; first | exact (r_move (v := bV _) rfl) | exact (r_move rfl)) ?_
      refine f_vg (fun wl hbl => by have hs := hs.below_ hbl; first | exact (r_move (v := .slice _ _ _) rfl) | exact (r_move rfl)) rfl (rfl) ?_
      refine f_callg (r_call Tryd.func9 rfl rfl) rfl (rfl) ?_
      refine Calls.mono (sum_c ps A c _ (h0.sep (hs.below_ hbF)) (hr.below (hs.below_ hbF).below) hz) ?_
      rintro e w_ ⟨rfl, hb⟩
      have hbF := hbF.trans (Below.mono hb hbF.size)
      refine ⟨_, rfl, hb, ?_⟩
      refine f_vg (fun wl hbl => by have hs := hs.below_ hbl; first | exact (r_load_whole (i := 0) hs rfl Tryd.underlying25 I25 rfl (by first | assumption | (simp; done))) | exact (r_load_whole (i := 1) hs rfl Tryd.underlying25 I25 rfl (by first | assumption | (simp; done))) | exact (r_load_whole (i := 2) hs rfl Tryd.underlying25 I25 rfl (by first | assumption | (simp; done))) | exact (r_load_whole (i := 3) hs rfl Tryd.underlying25 I25 rfl (by first | assumption | (simp; done))) | exact (r_load_whole (i := 4) hs rfl Tryd.underlying25 I25 rfl (by first | assumption | (simp; done))) | exact (r_load_whole (i := 5) hs rfl Tryd.underlying25 I25 rfl (by first | assumption | (simp; done))) | exact (r_load_whole (i := 6) hs rfl Tryd.underlying25 I25 rfl (by first | assumption | (simp; done)))) rfl (rfl) ?_
      refine f_vg (fun wl hbl => by have hs := hs.below_ hbl; exact (r_eqA (a := digest (ps.flatMap toL)) (b := digest (toL s)) Tryd.underlying25 Tryd.underlying5 I5 (by kernel_rfl) rfl rfl (digest_length _) (digest_length _))) rfl (rfl) ?_
      refine f_v (fun wl hbl => by have hs := hs.below_ hbl; exact (r_pick_t rfl rfl rfl)) ?_
      refine f_v (fun wl hbl => by have hs := hs.below_ hbl; first | exact (r_move (v := bV _) rfl) | exact (r_move rfl)) ?_
      refine f_vg (fun wl hbl => by have hs := hs.below_ hbl; first | exact (r_move (v := sV _) rfl) | exact (r_move rfl)) rfl (hE) ?_
      refine f_lit1g [sV _] (hs.below_ hbF) Tryd.underlying22 I9 rfl (by simp [Value.oneCell']) rfl (by decide) (by decide) rfl (hE) ?_
      intro b41 w41 hsN hB41 hlt41
      have hbF := hbF.trans (Below.mono hB41 hbF.size)
      refine f_callg (r_call Tryd.func9 rfl rfl) rfl (hE) ?_
      refine Calls.mono (sum_c [s] _ 1 _ (h0.sep (hs.below_ hbF)) (rd_blk (hsN.at_ 0).1 rfl (by show 1 ≤ _; omega)) (by intro x hx; rw [List.mem_singleton] at hx; rw [hx]; omega)) ?_
      rintro e w_ ⟨rfl, hb⟩
      have hbF := hbF.trans (Below.mono hb hbF.size)
      refine ⟨_, rfl, hb, ?_⟩
      have hsN := hsN.below_ hb
      refine f_vg (fun wl hbl => by have hs := hs.below_ hbl; first | exact (r_load_whole (i := 0) hs rfl Tryd.underlying25 I25 rfl (by first | assumption | (simp; done))) | exact (r_load_whole (i := 1) hs rfl Tryd.underlying25 I25 rfl (by first | assumption | (simp; done))) | exact (r_load_whole (i := 2) hs rfl Tryd.underlying25 I25 rfl (by first | assumption | (simp; done))) | exact (r_load_whole (i := 3) hs rfl Tryd.underlying25 I25 rfl (by first | assumption | (simp; done))) | exact (r_load_whole (i := 4) hs rfl Tryd.underlying25 I25 rfl (by first | assumption | (simp; done))) | exact (r_load_whole (i := 5) hs rfl Tryd.underlying25 I25 rfl (by first | assumption | (simp; done))) | exact (r_load_whole (i := 6) hs rfl Tryd.underlying25 I25 rfl (by first | assumption | (simp; done)))) rfl (hE) ?_
      refine f_nil ?_
      have hs := hsN
      show OkL _ _ _ _ (_ :: _) _ _
      refine l_vg (r_eqA (a := digest ([s].flatMap toL)) (b := digest (toL s)) Tryd.underlying25 Tryd.underlying5 I5 (by kernel_rfl) rfl rfl (digest_length _) (digest_length _)) rfl (hE) ?_
      refine l_v (r_pick_t rfl hE rfl) ?_
      refine l_v (by first | exact (r_assign (v := bV _) rfl) | exact (r_assign rfl)) ?_
      refine l_nil (nrm_then ?_)
      refine c_ret ?_
      show Fin _ _ _ _ _
      refine fin1 rfl ?_
      exact ⟨congrArg Ending.returned (congrArg Value.bool hE2), hs.below⟩
theorem shaSums_row {w : World} (A : Option Addr) (c : Nat) (ps : List ByteArray) (hr : Rd w 1 A ps.length (ps.map sV)) (hc : ps.length ≤ c) (hz : ∀ s ∈ ps, s.size ≤ 9223372036854775807) (h0 : Ok0 w) :
    Calls Tryd.prog 3 #[.slice A ps.length c] w fun e w' => e = .returned (bV true) ∧ Below w.heap.size w w' := shaSums_walk ps A c w h0 hr hz
end Go.Proofs.YtcnljmbjhdfblaaDoor.Sha
