/- The walk of entry. -/
import Derived.Test.YtfjnjnkmkbbjoaaBlkEntFn
import Derived.Test.YtfjnjnkmkbbjoaaSixRm
namespace Go.Proofs.Ytfjnjnkmkbbjoaa.Blk
open Go Go.RowKit Go.Proofs.Ytfjnjnkmkbbjoaa.Eng Go.Proofs.Ytfjnjnkmkbbjoaa.Six
set_option linter.unusedVariables false
set_option maxRecDepth 100000
theorem cut_cut (s : ByteArray) (a b : Nat) : cut (cut s a) b = cut s (a + b) := by unfold cut; rw [Eng.toL_ofL, List.drop_drop]
section
variable {P : Program} {ρ : Operand → Value} {w : World} {dst : Option Tmp} {ty : TypeId} {pos : String} {aft : Array Edge} {g : Option (Nat × Bool)}
theorem r_min_l {x y : Operand} {ts : Array TypeId} {a b : Int} (hx : ρ x = iV a) (hy : ρ y = iV b) (h : a ≤ b) : Run P ρ ⟨dst, .call { callee := .builtin .min, args := #[x, y], argTypes := ts }, ty, pos, aft, g⟩ w (iV a) w := by
  have h2 := r_min (P := P) (w := w) (dst := dst) (ty := ty) (pos := pos) (aft := aft) (g := g) (ts := ts) hx hy
  rwa [if_neg (by omega)] at h2
end
set_option maxHeartbeats 8000000 in
theorem entry_c (s : ByteArray) (hz : s.size ≤ 1099511627776) (last : List UInt8) (hla : last.length ≤ 65536) (b : Nat) (w0 w : World) (R : List HP) (hs : Eng.Sep w0 w (rdr b s :: R)) :
    Calls Try.prog 37 #[at_ b, sV (ofL last)] w fun e w' => e = .returned (.tuple #[.agg (entC (entry last (toL s)).1).toArray, iV (entry last (toL s)).2.2]) ∧ ∃ s', ((entry last (toL s)).2.2 = 0 → s' = cut s (entry last (toL s)).2.1) ∧ Eng.Sep w0 w' (rdr b s' :: R) := by
  have hl := toL_size s
  have hlz : (ofL last).size = last.length := rfl
  have hcn := count_nonneg (toL s)
  have hcb := count_bound (toL s)
  have hcs := count_size (toL s)
  have hzl : (entC entZ).length = 3 := rfl
  unfold entry
  refine enter (P := Try.prog) Try.func37 rfl rfl ?_
  refine c_rseq ?_
  refine l_alloc hs I44 ?_
  intro b4 w4 hs hB4 hlt4
  refine l_v (by first | exact (r_assign (v := iV _) rfl) | exact (r_assign rfl)) ?_
  refine l_nil (nrm_then ?_)
  refine c_rseq ?_
  refine l_v (r_move (v := .pointer _) rfl) ?_
  refine l_call (r_call Try.func48 rfl rfl) ?_
  refine Calls.mono (count_c s (by omega) b w0 _ _ (hs.pull 1)) ?_
  rintro e w_ ⟨rfl, hs⟩
  refine ⟨_, rfl, ?_⟩
  generalize count (toL s) = C at *
  refine l_v (r_move rfl) ?_
  refine l_v (r_extract rfl rfl) ?_
  refine l_v (r_extract rfl rfl) ?_
  refine l_v (by first | exact (r_assign (v := iV _) rfl) | exact (r_assign rfl)) ?_
  refine l_v (by first | exact (r_assign (v := iV _) rfl) | exact (r_assign rfl)) ?_
  refine l_nil (nrm_then ?_)
  refine c_seq ?_
  refine c_rseq ?_
  refine l_v (by first | exact (r_move (v := iV _) rfl) | exact (r_move rfl)) ?_
  refine l_v (r_neqi rfl rfl) ?_
  refine l_nil (nrm_then ?_)
  refine c_cond rfl (fun h1 => ?_) (fun h1 => ?_)
  · replace h1 := of_decide_eq_true h1
    refine c_rseq ?_
    refine l_v (r_build (l := []) rfl ((fun (_ : Unit) => (by kernel_rfl : Program.built Try.prog 44 [] = some #[sV ByteArray.empty, sV ByteArray.empty, bV false])) ())) ?_
    refine l_v (by first | exact (r_move (v := iV _) rfl) | exact (r_move rfl)) ?_
    first | refine l_store_whole (i := 0) hs rfl I44 rfl rfl (by first | assumption | (simp; done)) (by first | assumption | (simp; done)) (by first | assumption | simp [Value.oneCell']) ?_ | refine l_store_whole (i := 1) hs rfl I44 rfl rfl (by first | assumption | (simp; done)) (by first | assumption | (simp; done)) (by first | assumption | simp [Value.oneCell']) ?_ | refine l_store_whole (i := 2) hs rfl I44 rfl rfl (by first | assumption | (simp; done)) (by first | assumption | (simp; done)) (by first | assumption | simp [Value.oneCell']) ?_ | refine l_store_whole (i := 3) hs rfl I44 rfl rfl (by first | assumption | (simp; done)) (by first | assumption | (simp; done)) (by first | assumption | simp [Value.oneCell']) ?_ | refine l_store_whole (i := 4) hs rfl I44 rfl rfl (by first | assumption | (simp; done)) (by first | assumption | (simp; done)) (by first | assumption | simp [Value.oneCell']) ?_ | refine l_store_whole (i := 5) hs rfl I44 rfl rfl (by first | assumption | (simp; done)) (by first | assumption | (simp; done)) (by first | assumption | simp [Value.oneCell']) ?_ | refine l_store_whole (i := 6) hs rfl I44 rfl rfl (by first | assumption | (simp; done)) (by first | assumption | (simp; done)) (by first | assumption | simp [Value.oneCell']) ?_
    intro w_ hs
    refine l_v (by first | exact (r_assign (v := iV _) rfl) | exact (r_assign rfl)) ?_
    refine l_nil (nrm_then ?_)
    refine c_ret (ret_then ?_)
    show Fin _ _ _ _ _
    refine fin2c rfl rfl (run_loadVar_agg Try.underlying44 rfl I44 hzl (cells_whole (hs.at_ 1).1)) ?_
    rw [if_pos h1]
    exact ⟨rfl, _, (fun h => absurd h h1), (hs.pull 1).drop⟩
  · replace h1 := of_decide_eq_false h1
    refine c_skip (nrm_then ?_)
    refine c_rseq ?_
    refine l_v (r_move (v := .pointer _) rfl) ?_
    have h1' : C.2.2 = 0 := Decidable.of_not_not h1
    rw [if_neg h1]
    have hl1 : (toL (cut s C.2.1)) = (toL s).drop C.2.1 := rfl
    have hcz : (cut s C.2.1).size = s.size - C.2.1 := by show ((toL s).drop C.2.1).length = _; rw [List.length_drop, hl]
    have hts := text_size ((toL s).drop C.2.1)
    have htl := @text_len ((toL s).drop C.2.1)
    rw [List.length_drop] at hts htl
    obtain ⟨N, hN⟩ : ∃ N : Nat, C.1 = (N : Int) := ⟨C.1.toNat, by omega⟩
    rw [hN, Int.toNat_natCast]
    unfold entryK
    refine l_call (r_call Try.func49 rfl rfl) ?_
    refine Calls.mono (text_c (cut s C.2.1) (by omega) b w0 _ _ hs) ?_
    rintro e w_ ⟨rfl, hs⟩
    refine ⟨_, rfl, ?_⟩
    rw [hl1] at hs ⊢
    rw [cut_cut] at hs
    generalize hT : text ((toL s).drop C.2.1) = T at *
    have htz : (ofL T.1).size = T.1.length := rfl
    refine l_v (r_move rfl) ?_
    refine l_v (r_extract rfl rfl) ?_
    refine l_v (r_extract rfl rfl) ?_
    refine l_v (by first | exact (r_assign (v := sV _) rfl) | exact (r_assign rfl)) ?_
    refine l_v (by first | exact (r_assign (v := iV _) rfl) | exact (r_assign rfl)) ?_
    refine l_nil (nrm_then ?_)
    refine c_seq ?_
    refine c_block ?_
    refine c_rseq ?_
    refine l_v (by first | exact (r_move (v := iV _) rfl) | exact (r_move rfl)) ?_
    refine l_v (r_neqi rfl rfl) ?_
    refine l_v (by first | exact (r_assign (v := bV _) rfl) | exact (r_assign rfl)) ?_
    refine l_nil (nrm_then ?_)
    refine c_cond rfl (fun h2 => ?_) (fun h2 => ?_)
    · replace h2 := of_decide_eq_true h2
      refine c_rseq ?_
      refine l_v (r_build (l := []) rfl ((fun (_ : Unit) => (by kernel_rfl : Program.built Try.prog 44 [] = some #[sV ByteArray.empty, sV ByteArray.empty, bV false])) ())) ?_
      refine l_v (by first | exact (r_move (v := iV _) rfl) | exact (r_move rfl)) ?_
      first | refine l_store_whole (i := 0) hs rfl I44 rfl rfl (by first | assumption | (simp; done)) (by first | assumption | (simp; done)) (by first | assumption | simp [Value.oneCell']) ?_ | refine l_store_whole (i := 1) hs rfl I44 rfl rfl (by first | assumption | (simp; done)) (by first | assumption | (simp; done)) (by first | assumption | simp [Value.oneCell']) ?_ | refine l_store_whole (i := 2) hs rfl I44 rfl rfl (by first | assumption | (simp; done)) (by first | assumption | (simp; done)) (by first | assumption | simp [Value.oneCell']) ?_ | refine l_store_whole (i := 3) hs rfl I44 rfl rfl (by first | assumption | (simp; done)) (by first | assumption | (simp; done)) (by first | assumption | simp [Value.oneCell']) ?_ | refine l_store_whole (i := 4) hs rfl I44 rfl rfl (by first | assumption | (simp; done)) (by first | assumption | (simp; done)) (by first | assumption | simp [Value.oneCell']) ?_ | refine l_store_whole (i := 5) hs rfl I44 rfl rfl (by first | assumption | (simp; done)) (by first | assumption | (simp; done)) (by first | assumption | simp [Value.oneCell']) ?_ | refine l_store_whole (i := 6) hs rfl I44 rfl rfl (by first | assumption | (simp; done)) (by first | assumption | (simp; done)) (by first | assumption | simp [Value.oneCell']) ?_
      intro w_ hs
      refine l_v (by first | exact (r_assign (v := iV _) rfl) | exact (r_assign rfl)) ?_
      refine l_nil (nrm_then ?_)
      refine c_ret (ret_block (ret_then ?_))
      show Fin _ _ _ _ _
      refine fin2c rfl rfl (run_loadVar_agg Try.underlying44 rfl I44 hzl (cells_whole (hs.at_ 1).1)) ?_
      rw [if_pos h2]
      exact ⟨rfl, _, (fun h => absurd h h2), (hs.pull 1).drop⟩
    · replace h2 := of_decide_eq_false h2
      refine c_seq ?_
      have h2' : T.2.2 = 0 := Decidable.of_not_not h2
      rw [if_neg h2]
      have ehi : ∀ h : N ≤ last.length, (ofL last).extract 0 ((N : Int)).toNat ++ ofL T.1 = ofL (last.take N ++ T.1) := fun h => Eng.toL_inj (by
        rw [Eng.toL_append, Eng.toL_extract, Int.toNat_natCast]; simp only [Eng.toL_ofL, List.drop_zero, Nat.sub_zero])
      have hkl : ∀ h : N ≤ last.length, (last.take N ++ T.1).length = N + T.1.length := fun h => by rw [List.length_append, List.length_take, Nat.min_eq_left h]
      refine c_mid [0, 1, 4, 5, 6, 8] (fun f' w' => f' 30 = bV (decide (last.length < N ∨ shareN last (last.take N ++ T.1) ≠ N)) ∧ Eng.Sep w0 w' (rdr b (cut s (C.2.1 + T.2.1)) :: blk b4 (entC entZ) 44 :: R)) ?_ ?_
      · refine c_region ?_
        refine l_v (by first | exact (r_move (v := iV _) rfl) | exact (r_move rfl)) ?_
        refine l_v (by first | exact (r_move (v := sV _) rfl) | exact (r_move rfl)) ?_
        refine l_v (r_len_s Try.underlying9 rfl) ?_
        refine l_v (r_gtri rfl rfl) ?_
        by_cases c1 : (N : Int) > ((ofL last).size : Int)
        · have f1 : decide ((N : Int) > ((ofL last).size : Int)) = true := decide_eq_true c1
          refine l_v (by first | exact (r_move (v := bV _) rfl) | exact (r_move rfl)) ?_
          refine l_no rfl (f1) ?_
          refine l_no rfl (f1) ?_
          refine l_no rfl (f1) ?_
          refine l_no rfl (f1) ?_
          refine l_no rfl (f1) ?_
          refine l_no rfl (f1) ?_
          refine l_no rfl (f1) ?_
          refine l_no rfl (f1) ?_
          refine l_no rfl (f1) ?_
          refine l_no rfl (f1) ?_
          refine l_no rfl (f1) ?_
          refine l_no rfl (f1) ?_
          refine l_v (r_pick_t rfl f1 rfl) ?_
          refine l_v (by first | exact (r_assign (v := bV _) rfl) | exact (r_assign rfl)) ?_
          refine l_nil (nrm_then ?_)
          refine And.intro (by refine ⟨?_, ?_, ?_, ?_, ?_, ?_, trivial⟩ <;> ((conv => lhs; whnf); (try conv => rhs; whnf))) ?_
          exact ⟨congrArg bV (decide_eq_true (Or.inl (by omega))).symm, hs⟩
        · have f1 : decide ((N : Int) > ((ofL last).size : Int)) = false := decide_eq_false c1
          refine l_v (by first | exact (r_move (v := bV _) rfl) | exact (r_move rfl)) ?_
          refine l_vg (by first | exact (r_move (v := sV _) rfl) | exact (r_move rfl)) rfl (f1) ?_
          refine l_vg (by first | exact (r_move (v := sV _) rfl) | exact (r_move rfl)) rfl (f1) ?_
          refine l_vg (by first | exact (r_move (v := iV _) rfl) | exact (r_move rfl)) rfl (f1) ?_
          refine l_vg (by first | exact (r_move (v := sV _) rfl) | exact (r_move rfl)) rfl (f1) ?_
          refine l_vg (r_len_s Try.underlying9 rfl) rfl (f1) ?_
          refine l_vg (r_min_l rfl rfl (by omega)) rfl (f1) ?_
          refine l_vg (r_slice_sh (N : Int) Try.underlying9 rfl rfl (by omega)) rfl (f1) ?_
          refine l_vg (by first | exact (r_move (v := sV _) rfl) | exact (r_move rfl)) rfl (f1) ?_
          refine l_vg (r_adds rfl rfl (by have e := congrArg ByteArray.size (ehi (by omega)); rw [ByteArray.size_append] at e; rw [e]; show (last.take N ++ T.1).length ≤ _; rw [hkl (by omega)]; omega)) rfl (f1) ?_
          rw [ehi (by omega)]
          refine l_callg (r_call Try.func22 rfl rfl) rfl (f1) ?_
          refine Calls.mono (shared_c (ofL last) (ofL (last.take N ++ T.1)) (by omega) (by show (last.take N ++ T.1).length ≤ _; rw [hkl (by omega)]; omega) _) ?_
          rintro e w_ ⟨rfl, hb⟩
          refine ⟨_, rfl, ?_⟩
          have hs := hs.below_ hb
          rw [Eng.toL_ofL, Eng.toL_ofL]
          refine l_vg (by first | exact (r_move (v := iV _) rfl) | exact (r_move rfl)) rfl (f1) ?_
          refine l_vg (r_neqi rfl rfl) rfl (f1) ?_
          refine l_v (r_pick_f rfl f1 rfl) ?_
          refine l_v (by first | exact (r_assign (v := bV _) rfl) | exact (r_assign rfl)) ?_
          refine l_nil (nrm_then ?_)
          refine And.intro (by refine ⟨?_, ?_, ?_, ?_, ?_, ?_, trivial⟩ <;> ((conv => lhs; whnf); (try conv => rhs; whnf))) ?_
          refine ⟨congrArg bV (decide_eq_decide.2 ⟨fun h => .inr (fun e => h (by rw [e])), fun h => ?_⟩), hs⟩
          rcases h with h | h
          · omega
          · exact fun e => h (Int.ofNat.inj e)
      · rintro g w_ ⟨h30, hs⟩
        show OkC _ _ _ _ _ _
        refine OkC.env ?_ (fixH (L := [(30, _)]) ⟨h30, trivial⟩)
        clear h30
        refine c_cond rfl (fun h3 => ?_) (fun h3 => ?_)
        · replace h3 := of_decide_eq_true h3
          refine c_rseq ?_
          refine l_v (r_build (l := []) rfl ((fun (_ : Unit) => (by kernel_rfl : Program.built Try.prog 44 [] = some #[sV ByteArray.empty, sV ByteArray.empty, bV false])) ())) ?_
          first | refine l_store_whole (i := 0) hs rfl I44 rfl rfl (by first | assumption | (simp; done)) (by first | assumption | (simp; done)) (by first | assumption | simp [Value.oneCell']) ?_ | refine l_store_whole (i := 1) hs rfl I44 rfl rfl (by first | assumption | (simp; done)) (by first | assumption | (simp; done)) (by first | assumption | simp [Value.oneCell']) ?_ | refine l_store_whole (i := 2) hs rfl I44 rfl rfl (by first | assumption | (simp; done)) (by first | assumption | (simp; done)) (by first | assumption | simp [Value.oneCell']) ?_ | refine l_store_whole (i := 3) hs rfl I44 rfl rfl (by first | assumption | (simp; done)) (by first | assumption | (simp; done)) (by first | assumption | simp [Value.oneCell']) ?_ | refine l_store_whole (i := 4) hs rfl I44 rfl rfl (by first | assumption | (simp; done)) (by first | assumption | (simp; done)) (by first | assumption | simp [Value.oneCell']) ?_ | refine l_store_whole (i := 5) hs rfl I44 rfl rfl (by first | assumption | (simp; done)) (by first | assumption | (simp; done)) (by first | assumption | simp [Value.oneCell']) ?_ | refine l_store_whole (i := 6) hs rfl I44 rfl rfl (by first | assumption | (simp; done)) (by first | assumption | (simp; done)) (by first | assumption | simp [Value.oneCell']) ?_
          intro w_ hs
          refine l_v (by first | exact (r_assign (v := iV _) rfl) | exact (r_assign rfl)) ?_
          refine l_nil (nrm_then ?_)
          refine c_ret (ret_block (ret_then ?_))
          show Fin _ _ _ _ _
          refine fin2c rfl rfl (run_loadVar_agg Try.underlying44 rfl I44 hzl (cells_whole (hs.at_ 1).1)) ?_
          rw [if_pos h3]
          exact ⟨rfl, _, (fun h => by cases h), (hs.pull 1).drop⟩
        · replace h3 := of_decide_eq_false h3
          refine c_rseq ?_
          refine l_v (by first | exact (r_move (v := iV _) rfl) | exact (r_move rfl)) ?_
          refine l_v (by first | exact (r_move (v := sV _) rfl) | exact (r_move rfl)) ?_
          refine l_v (r_len_s Try.underlying9 rfl) ?_
          refine l_v (r_addi rfl rfl (by omega)) ?_
          refine l_v (r_gtri rfl rfl) ?_
          refine l_v (by first | exact (r_assign (v := bV _) rfl) | exact (r_assign rfl)) ?_
          refine l_nil (nrm_then ?_)
          rw [if_neg h3]
          have hNl : N ≤ last.length := by omega
          have hkl := hkl hNl
          have ehi := ehi hNl
          refine c_cond rfl (fun h4 => ?_) (fun h4 => ?_)
          · replace h4 := of_decide_eq_true h4
            refine c_rseq ?_
            refine l_v (r_build (l := []) rfl ((fun (_ : Unit) => (by kernel_rfl : Program.built Try.prog 44 [] = some #[sV ByteArray.empty, sV ByteArray.empty, bV false])) ())) ?_
            first | refine l_store_whole (i := 0) hs rfl I44 rfl rfl (by first | assumption | (simp; done)) (by first | assumption | (simp; done)) (by first | assumption | simp [Value.oneCell']) ?_ | refine l_store_whole (i := 1) hs rfl I44 rfl rfl (by first | assumption | (simp; done)) (by first | assumption | (simp; done)) (by first | assumption | simp [Value.oneCell']) ?_ | refine l_store_whole (i := 2) hs rfl I44 rfl rfl (by first | assumption | (simp; done)) (by first | assumption | (simp; done)) (by first | assumption | simp [Value.oneCell']) ?_ | refine l_store_whole (i := 3) hs rfl I44 rfl rfl (by first | assumption | (simp; done)) (by first | assumption | (simp; done)) (by first | assumption | simp [Value.oneCell']) ?_ | refine l_store_whole (i := 4) hs rfl I44 rfl rfl (by first | assumption | (simp; done)) (by first | assumption | (simp; done)) (by first | assumption | simp [Value.oneCell']) ?_ | refine l_store_whole (i := 5) hs rfl I44 rfl rfl (by first | assumption | (simp; done)) (by first | assumption | (simp; done)) (by first | assumption | simp [Value.oneCell']) ?_ | refine l_store_whole (i := 6) hs rfl I44 rfl rfl (by first | assumption | (simp; done)) (by first | assumption | (simp; done)) (by first | assumption | simp [Value.oneCell']) ?_
            intro w_ hs
            refine l_v (by first | exact (r_assign (v := iV _) rfl) | exact (r_assign rfl)) ?_
            refine l_nil (nrm_then ?_)
            refine c_ret (ret_block (ret_then ?_))
            show Fin _ _ _ _ _
            refine fin2c rfl rfl (run_loadVar_agg Try.underlying44 rfl I44 hzl (cells_whole (hs.at_ 1).1)) ?_
            rw [if_pos (by omega)]
            exact ⟨rfl, _, (fun h => by cases h), (hs.pull 1).drop⟩
          · replace h4 := of_decide_eq_false h4
            refine c_skip (nrm_block (nrm_then ?_))
            refine c_rseq ?_
            refine l_v (by first | exact (r_move (v := sV _) rfl) | exact (r_move rfl)) ?_
            refine l_v (by first | exact (r_move (v := iV _) rfl) | exact (r_move rfl)) ?_
            refine l_v (r_slice_sh (N : Int) Try.underlying9 rfl rfl (by omega)) ?_
            refine l_v (by first | exact (r_move (v := sV _) rfl) | exact (r_move rfl)) ?_
            refine l_v (r_adds rfl rfl (by have e := congrArg ByteArray.size ehi; rw [ByteArray.size_append] at e; rw [e]; show (last.take N ++ T.1).length ≤ _; omega)) ?_
            refine l_v (r_build (l := [(0, sV _)]) rfl ((fun (x0 : ByteArray) => (by kernel_rfl : Program.built Try.prog 44 [(0, sV x0)] = some #[sV x0, sV ByteArray.empty, bV false])) _)) ?_
            refine l_alloc hs I44 ?_
            intro b9 w9 hs hB9 hlt9
            first | refine l_store_whole (i := 0) hs rfl I44 rfl rfl (by first | assumption | (simp; done)) (by first | assumption | (simp; done)) (by first | assumption | simp [Value.oneCell']) ?_ | refine l_store_whole (i := 1) hs rfl I44 rfl rfl (by first | assumption | (simp; done)) (by first | assumption | (simp; done)) (by first | assumption | simp [Value.oneCell']) ?_ | refine l_store_whole (i := 2) hs rfl I44 rfl rfl (by first | assumption | (simp; done)) (by first | assumption | (simp; done)) (by first | assumption | simp [Value.oneCell']) ?_ | refine l_store_whole (i := 3) hs rfl I44 rfl rfl (by first | assumption | (simp; done)) (by first | assumption | (simp; done)) (by first | assumption | simp [Value.oneCell']) ?_ | refine l_store_whole (i := 4) hs rfl I44 rfl rfl (by first | assumption | (simp; done)) (by first | assumption | (simp; done)) (by first | assumption | simp [Value.oneCell']) ?_ | refine l_store_whole (i := 5) hs rfl I44 rfl rfl (by first | assumption | (simp; done)) (by first | assumption | (simp; done)) (by first | assumption | simp [Value.oneCell']) ?_ | refine l_store_whole (i := 6) hs rfl I44 rfl rfl (by first | assumption | (simp; done)) (by first | assumption | (simp; done)) (by first | assumption | simp [Value.oneCell']) ?_
            intro w_ hs
            refine l_nil (nrm_then ?_)
            refine c_rseq ?_
            refine l_v (r_move (v := .pointer _) rfl) ?_
            rw [if_neg (by omega)]
            rw [ehi]
            unfold entryV
            have hl2 : (toL (cut s (C.2.1 + T.2.1))) = ((toL s).drop C.2.1).drop T.2.1 := by show (toL s).drop _ = _; rw [List.drop_drop]
            have hcz2 : (cut s (C.2.1 + T.2.1)).size = s.size - (C.2.1 + T.2.1) := by show ((toL s).drop _).length = _; rw [List.length_drop, hl]
            have hvn := count_nonneg (((toL s).drop C.2.1).drop T.2.1)
            have hvb := count_bound (((toL s).drop C.2.1).drop T.2.1)
            have hvs := count_size (((toL s).drop C.2.1).drop T.2.1)
            rw [List.length_drop, List.length_drop] at hvs
            refine l_call (r_call Try.func48 rfl rfl) ?_
            refine Calls.mono (count_c (cut s (C.2.1 + T.2.1)) (by omega) b w0 _ _ (hs.pull 1)) ?_
            rintro e w_ ⟨rfl, hs⟩
            refine ⟨_, rfl, ?_⟩
            rw [hl2] at hs ⊢
            rw [cut_cut] at hs
            generalize hV : count (((toL s).drop C.2.1).drop T.2.1) = V at *
            have hs : Eng.Sep w0 w_ (rdr b (cut s (C.2.1 + T.2.1 + V.2.1)) :: blk b9 [sV ((ofL last).extract 0 ((N : Int)).toNat ++ ofL T.1), sV ByteArray.empty, bV false] 44 :: blk b4 (entC entZ) 44 :: R) := hs
            rw [ehi] at hs
            clear ehi
            generalize last.take N ++ T.1 = key at *
            have hs : Eng.Sep w0 w_ (rdr b (cut s (C.2.1 + T.2.1 + V.2.1)) :: blk b9 [sV (ofL key), sV ByteArray.empty, bV false] 44 :: blk b4 (entC entZ) 44 :: R) := hs
            have hel2 : ∀ x : Ent, (entC x).length = 3 := fun _ => rfl
            refine l_v (r_move rfl) ?_
            refine l_v (r_extract rfl rfl) ?_
            refine l_v (r_extract rfl rfl) ?_
            refine l_v (by first | exact (r_assign (v := iV _) rfl) | exact (r_assign rfl)) ?_
            refine l_v (by first | exact (r_assign (v := iV _) rfl) | exact (r_assign rfl)) ?_
            refine l_nil (nrm_then ?_)
            refine c_seq ?_
            refine c_block ?_
            refine c_rseq ?_
            refine l_v (by first | exact (r_move (v := iV _) rfl) | exact (r_move rfl)) ?_
            refine l_v (r_neqi rfl rfl) ?_
            refine l_v (by first | exact (r_assign (v := bV _) rfl) | exact (r_assign rfl)) ?_
            refine l_nil (nrm_then ?_)
            refine c_cond rfl (fun h5 => ?_) (fun h5 => ?_)
            · replace h5 := of_decide_eq_true h5
              refine c_rseq ?_
              refine l_v (r_build (l := []) rfl ((fun (_ : Unit) => (by kernel_rfl : Program.built Try.prog 44 [] = some #[sV ByteArray.empty, sV ByteArray.empty, bV false])) ())) ?_
              refine l_v (by first | exact (r_move (v := iV _) rfl) | exact (r_move rfl)) ?_
              first | refine l_store_whole (i := 0) hs rfl I44 rfl rfl (by first | assumption | (simp; done)) (by first | assumption | (simp; done)) (by first | assumption | simp [Value.oneCell']) ?_ | refine l_store_whole (i := 1) hs rfl I44 rfl rfl (by first | assumption | (simp; done)) (by first | assumption | (simp; done)) (by first | assumption | simp [Value.oneCell']) ?_ | refine l_store_whole (i := 2) hs rfl I44 rfl rfl (by first | assumption | (simp; done)) (by first | assumption | (simp; done)) (by first | assumption | simp [Value.oneCell']) ?_ | refine l_store_whole (i := 3) hs rfl I44 rfl rfl (by first | assumption | (simp; done)) (by first | assumption | (simp; done)) (by first | assumption | simp [Value.oneCell']) ?_ | refine l_store_whole (i := 4) hs rfl I44 rfl rfl (by first | assumption | (simp; done)) (by first | assumption | (simp; done)) (by first | assumption | simp [Value.oneCell']) ?_ | refine l_store_whole (i := 5) hs rfl I44 rfl rfl (by first | assumption | (simp; done)) (by first | assumption | (simp; done)) (by first | assumption | simp [Value.oneCell']) ?_ | refine l_store_whole (i := 6) hs rfl I44 rfl rfl (by first | assumption | (simp; done)) (by first | assumption | (simp; done)) (by first | assumption | simp [Value.oneCell']) ?_
              intro w_ hs
              refine l_v (by first | exact (r_assign (v := iV _) rfl) | exact (r_assign rfl)) ?_
              refine l_nil (nrm_then ?_)
              refine c_ret (ret_block (ret_then ?_))
              show Fin _ _ _ _ _
              refine fin2c rfl rfl (run_loadVar_agg Try.underlying44 rfl I44 hzl (cells_whole (hs.at_ 2).1)) ?_
              rw [if_pos h5]
              exact ⟨rfl, _, (fun h => absurd h h5), (hs.pull 1).drop.pull 1 |>.drop⟩
            · replace h5 := of_decide_eq_false h5
              refine c_rseq ?_
              refine l_v (by first | exact (r_move (v := iV _) rfl) | exact (r_move rfl)) ?_
              refine l_v (r_eqli rfl rfl) ?_
              refine l_v (by first | exact (r_assign (v := bV _) rfl) | exact (r_assign rfl)) ?_
              refine l_nil (nrm_then ?_)
              have h5' : V.2.2 = 0 := Decidable.of_not_not h5
              rw [if_neg h5]
              refine c_cond rfl (fun h6 => ?_) (fun h6 => ?_)
              · have ho1 := ent_one ⟨key, [], true⟩
                replace h6 := of_decide_eq_true h6
                refine c_rseq ?_
                refine l_v (by first | exact (r_fieldAddr0 (off := 2) (T := 4) (by kernel_rfl) rfl) | exact (r_fieldAddr (off := 2) (T := 4) (by kernel_rfl) rfl)) ?_
                first | refine l_store (i := 0) (v := bV _) hs rfl I4 rfl rfl (by first | (simp; done) | (simp; omega) | omega) ?_ | refine l_store (i := 1) (v := bV _) hs rfl I4 rfl rfl (by first | (simp; done) | (simp; omega) | omega) ?_ | refine l_store (i := 2) (v := bV _) hs rfl I4 rfl rfl (by first | (simp; done) | (simp; omega) | omega) ?_ | refine l_store (i := 3) (v := bV _) hs rfl I4 rfl rfl (by first | (simp; done) | (simp; omega) | omega) ?_ | refine l_store (i := 4) (v := bV _) hs rfl I4 rfl rfl (by first | (simp; done) | (simp; omega) | omega) ?_ | refine l_store (i := 5) (v := bV _) hs rfl I4 rfl rfl (by first | (simp; done) | (simp; omega) | omega) ?_ | refine l_store (i := 6) (v := bV _) hs rfl I4 rfl rfl (by first | (simp; done) | (simp; omega) | omega) ?_
                intro w_ hs
                refine l_nil (nrm_then ?_)
                refine c_rseq ?_
                refine l_v (r_load_whole (i := 1) hs rfl Try.underlying44 I44 rfl rfl) ?_
                first | refine l_store_whole (i := 0) hs rfl I44 rfl rfl (by first | assumption | (simp; done)) (by first | assumption | (simp; done)) (by first | assumption | simp [Value.oneCell']) ?_ | refine l_store_whole (i := 1) hs rfl I44 rfl rfl (by first | assumption | (simp; done)) (by first | assumption | (simp; done)) (by first | assumption | simp [Value.oneCell']) ?_ | refine l_store_whole (i := 2) hs rfl I44 rfl rfl (by first | assumption | (simp; done)) (by first | assumption | (simp; done)) (by first | assumption | simp [Value.oneCell']) ?_ | refine l_store_whole (i := 3) hs rfl I44 rfl rfl (by first | assumption | (simp; done)) (by first | assumption | (simp; done)) (by first | assumption | simp [Value.oneCell']) ?_ | refine l_store_whole (i := 4) hs rfl I44 rfl rfl (by first | assumption | (simp; done)) (by first | assumption | (simp; done)) (by first | assumption | simp [Value.oneCell']) ?_ | refine l_store_whole (i := 5) hs rfl I44 rfl rfl (by first | assumption | (simp; done)) (by first | assumption | (simp; done)) (by first | assumption | simp [Value.oneCell']) ?_ | refine l_store_whole (i := 6) hs rfl I44 rfl rfl (by first | assumption | (simp; done)) (by first | assumption | (simp; done)) (by first | assumption | simp [Value.oneCell']) ?_
                intro w_ hs
                refine l_v (by first | exact (r_assign (v := iV _) rfl) | exact (r_assign rfl)) ?_
                refine l_nil (nrm_then ?_)
                refine c_ret (ret_block (ret_then ?_))
                show Fin _ _ _ _ _
                refine fin2c rfl rfl (run_loadVar_agg Try.underlying44 rfl I44 (hel2 ⟨key, [], true⟩) (cells_whole (hs.at_ 2).1)) ?_
                rw [if_pos h6]
                exact ⟨rfl, _, (fun _ => rfl), (hs.pull 1).drop.pull 1 |>.drop⟩
              · rw [if_neg (of_decide_eq_false h6)]
                replace h6 := of_decide_eq_false h6
                refine c_rseq ?_
                refine l_v (by first | exact (r_move (v := iV _) rfl) | exact (r_move rfl)) ?_
                refine l_v (r_subi rfl rfl (by omega)) ?_
                refine l_v (r_gtri rfl rfl) ?_
                refine l_v (by first | exact (r_assign (v := bV _) rfl) | exact (r_assign rfl)) ?_
                refine l_nil (nrm_then ?_)
                refine c_cond rfl (fun h7 => ?_) (fun h7 => ?_)
                · replace h7 := of_decide_eq_true h7
                  refine c_rseq ?_
                  refine l_v (r_build (l := []) rfl ((fun (_ : Unit) => (by kernel_rfl : Program.built Try.prog 44 [] = some #[sV ByteArray.empty, sV ByteArray.empty, bV false])) ())) ?_
                  first | refine l_store_whole (i := 0) hs rfl I44 rfl rfl (by first | assumption | (simp; done)) (by first | assumption | (simp; done)) (by first | assumption | simp [Value.oneCell']) ?_ | refine l_store_whole (i := 1) hs rfl I44 rfl rfl (by first | assumption | (simp; done)) (by first | assumption | (simp; done)) (by first | assumption | simp [Value.oneCell']) ?_ | refine l_store_whole (i := 2) hs rfl I44 rfl rfl (by first | assumption | (simp; done)) (by first | assumption | (simp; done)) (by first | assumption | simp [Value.oneCell']) ?_ | refine l_store_whole (i := 3) hs rfl I44 rfl rfl (by first | assumption | (simp; done)) (by first | assumption | (simp; done)) (by first | assumption | simp [Value.oneCell']) ?_ | refine l_store_whole (i := 4) hs rfl I44 rfl rfl (by first | assumption | (simp; done)) (by first | assumption | (simp; done)) (by first | assumption | simp [Value.oneCell']) ?_ | refine l_store_whole (i := 5) hs rfl I44 rfl rfl (by first | assumption | (simp; done)) (by first | assumption | (simp; done)) (by first | assumption | simp [Value.oneCell']) ?_ | refine l_store_whole (i := 6) hs rfl I44 rfl rfl (by first | assumption | (simp; done)) (by first | assumption | (simp; done)) (by first | assumption | simp [Value.oneCell']) ?_
                  intro w_ hs
                  refine l_v (by first | exact (r_assign (v := iV _) rfl) | exact (r_assign rfl)) ?_
                  refine l_nil (nrm_then ?_)
                  refine c_ret (ret_block (ret_then ?_))
                  show Fin _ _ _ _ _
                  refine fin2c rfl rfl (run_loadVar_agg Try.underlying44 rfl I44 hzl (cells_whole (hs.at_ 2).1)) ?_
                  rw [if_pos (by omega)]
                  exact ⟨rfl, _, (fun h => by cases h), (hs.pull 1).drop.pull 1 |>.drop⟩
                · replace h7 := of_decide_eq_false h7
                  refine c_skip (nrm_block (nrm_then ?_))
                  refine c_rseq ?_
                  refine l_v (r_move (v := .pointer _) rfl) ?_
                  refine l_v (by first | exact (r_move (v := iV _) rfl) | exact (r_move rfl)) ?_
                  refine l_v (r_subi rfl rfl (by omega)) ?_
                  rw [if_neg (by omega)]
                  have hl3 : (toL (cut s (C.2.1 + T.2.1 + V.2.1))) = (((toL s).drop C.2.1).drop T.2.1).drop V.2.1 := by show (toL s).drop _ = _; rw [List.drop_drop, List.drop_drop, Nat.add_assoc]
                  refine l_call (r_call Try.func50 rfl rfl) ?_
                  refine Calls.mono (raw_c (V.1 - 1) (cut s (C.2.1 + T.2.1 + V.2.1)) b w0 _ _ hs) ?_
                  rintro e w_ ⟨rfl, hs⟩
                  refine ⟨_, rfl, ?_⟩
                  rw [hl3] at hs ⊢
                  rw [cut_cut] at hs
                  generalize hW : raw ((((toL s).drop C.2.1).drop T.2.1).drop V.2.1) (V.1 - 1) = W at *
                  refine l_v (r_move rfl) ?_
                  refine l_v (r_extract rfl rfl) ?_
                  refine l_v (r_extract rfl rfl) ?_
                  refine l_v (by first | exact (r_fieldAddr0 (off := 1) (T := 9) (by kernel_rfl) rfl) | exact (r_fieldAddr (off := 1) (T := 9) (by kernel_rfl) rfl)) ?_
                  first | refine l_store (i := 0) (v := sV _) hs rfl I9 rfl rfl (by first | (simp; done) | (simp; omega) | omega) ?_ | refine l_store (i := 1) (v := sV _) hs rfl I9 rfl rfl (by first | (simp; done) | (simp; omega) | omega) ?_ | refine l_store (i := 2) (v := sV _) hs rfl I9 rfl rfl (by first | (simp; done) | (simp; omega) | omega) ?_ | refine l_store (i := 3) (v := sV _) hs rfl I9 rfl rfl (by first | (simp; done) | (simp; omega) | omega) ?_ | refine l_store (i := 4) (v := sV _) hs rfl I9 rfl rfl (by first | (simp; done) | (simp; omega) | omega) ?_ | refine l_store (i := 5) (v := sV _) hs rfl I9 rfl rfl (by first | (simp; done) | (simp; omega) | omega) ?_ | refine l_store (i := 6) (v := sV _) hs rfl I9 rfl rfl (by first | (simp; done) | (simp; omega) | omega) ?_
                  intro w_ hs
                  refine l_v (by first | exact (r_assign (v := iV _) rfl) | exact (r_assign rfl)) ?_
                  refine l_nil (nrm_then ?_)
                  refine c_seq ?_
                  refine c_rseq ?_
                  refine l_v (by first | exact (r_move (v := iV _) rfl) | exact (r_move rfl)) ?_
                  refine l_v (r_neqi rfl rfl) ?_
                  refine l_nil (nrm_then ?_)
                  have ho1 := ent_one ⟨key, W.1, false⟩
                  refine c_cond rfl (fun h8 => ?_) (fun h8 => ?_)
                  · replace h8 := of_decide_eq_true h8
                    refine c_rseq ?_
                    refine l_v (r_build (l := []) rfl ((fun (_ : Unit) => (by kernel_rfl : Program.built Try.prog 44 [] = some #[sV ByteArray.empty, sV ByteArray.empty, bV false])) ())) ?_
                    refine l_v (by first | exact (r_move (v := iV _) rfl) | exact (r_move rfl)) ?_
                    first | refine l_store_whole (i := 0) hs rfl I44 rfl rfl (by first | assumption | (simp; done)) (by first | assumption | (simp; done)) (by first | assumption | simp [Value.oneCell']) ?_ | refine l_store_whole (i := 1) hs rfl I44 rfl rfl (by first | assumption | (simp; done)) (by first | assumption | (simp; done)) (by first | assumption | simp [Value.oneCell']) ?_ | refine l_store_whole (i := 2) hs rfl I44 rfl rfl (by first | assumption | (simp; done)) (by first | assumption | (simp; done)) (by first | assumption | simp [Value.oneCell']) ?_ | refine l_store_whole (i := 3) hs rfl I44 rfl rfl (by first | assumption | (simp; done)) (by first | assumption | (simp; done)) (by first | assumption | simp [Value.oneCell']) ?_ | refine l_store_whole (i := 4) hs rfl I44 rfl rfl (by first | assumption | (simp; done)) (by first | assumption | (simp; done)) (by first | assumption | simp [Value.oneCell']) ?_ | refine l_store_whole (i := 5) hs rfl I44 rfl rfl (by first | assumption | (simp; done)) (by first | assumption | (simp; done)) (by first | assumption | simp [Value.oneCell']) ?_ | refine l_store_whole (i := 6) hs rfl I44 rfl rfl (by first | assumption | (simp; done)) (by first | assumption | (simp; done)) (by first | assumption | simp [Value.oneCell']) ?_
                    intro w_ hs
                    refine l_v (by first | exact (r_assign (v := iV _) rfl) | exact (r_assign rfl)) ?_
                    refine l_nil (nrm_then ?_)
                    refine c_ret (ret_then ?_)
                    show Fin _ _ _ _ _
                    refine fin2c rfl rfl (run_loadVar_agg Try.underlying44 rfl I44 hzl (cells_whole (hs.at_ 2).1)) ?_
                    rw [if_pos h8]
                    exact ⟨rfl, _, (fun h => absurd h h8), (hs.pull 1).drop.pull 1 |>.drop⟩
                  · rw [if_neg (of_decide_eq_false h8)]
                    replace h8 := of_decide_eq_false h8
                    refine c_skip (nrm_then ?_)
                    refine c_rseq ?_
                    refine l_v (r_load_whole (i := 1) hs rfl Try.underlying44 I44 rfl rfl) ?_
                    first | refine l_store_whole (i := 0) hs rfl I44 rfl rfl (by first | assumption | (simp; done)) (by first | assumption | (simp; done)) (by first | assumption | simp [Value.oneCell']) ?_ | refine l_store_whole (i := 1) hs rfl I44 rfl rfl (by first | assumption | (simp; done)) (by first | assumption | (simp; done)) (by first | assumption | simp [Value.oneCell']) ?_ | refine l_store_whole (i := 2) hs rfl I44 rfl rfl (by first | assumption | (simp; done)) (by first | assumption | (simp; done)) (by first | assumption | simp [Value.oneCell']) ?_ | refine l_store_whole (i := 3) hs rfl I44 rfl rfl (by first | assumption | (simp; done)) (by first | assumption | (simp; done)) (by first | assumption | simp [Value.oneCell']) ?_ | refine l_store_whole (i := 4) hs rfl I44 rfl rfl (by first | assumption | (simp; done)) (by first | assumption | (simp; done)) (by first | assumption | simp [Value.oneCell']) ?_ | refine l_store_whole (i := 5) hs rfl I44 rfl rfl (by first | assumption | (simp; done)) (by first | assumption | (simp; done)) (by first | assumption | simp [Value.oneCell']) ?_ | refine l_store_whole (i := 6) hs rfl I44 rfl rfl (by first | assumption | (simp; done)) (by first | assumption | (simp; done)) (by first | assumption | simp [Value.oneCell']) ?_
                    intro w_ hs
                    refine l_v (by first | exact (r_assign (v := iV _) rfl) | exact (r_assign rfl)) ?_
                    refine l_nil (nrm_then ?_)
                    refine c_ret ?_
                    show Fin _ _ _ _ _
                    refine fin2c rfl rfl (run_loadVar_agg Try.underlying44 rfl I44 (hel2 ⟨key, W.1, false⟩) (cells_whole (hs.at_ 2).1)) ?_
                    exact ⟨rfl, _, (fun _ => rfl), (hs.pull 1).drop.pull 1 |>.drop⟩
end Go.Proofs.Ytfjnjnkmkbbjoaa.Blk
