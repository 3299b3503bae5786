/- Why entries may not be packed: the walks of Check and of the document's Check. -/
import Derived.Test.YtfjnjnkmkbbjoaaBlkFew
import Derived.Test.YtfjnjnkmkbbjoaaBlkOrd
namespace Go.Proofs.Ytfjnjnkmkbbjoaa.Blk
open Go Go.RowKit Go.Proofs.Ytfjnjnkmkbbjoaa.Eng Go.Proofs.Ytfjnjnkmkbbjoaa.Six
set_option linter.unusedVariables false
set_option maxRecDepth 100000
def fit (p : Option (List UInt8)) (k : List UInt8) : Bool := match p with
  | some q => !sLt (ofL q) (ofL k)
  | none => false
def chk : Option (List UInt8) → List Ent → Int
  | _, [] => 0
  | p, x :: l => if 65536 < x.key.length ∨ 65536 < x.val.length then 6 else if (fit p x.key || (x.gone && decide (x.val ≠ []))) = true then 1 else chk (some x.key) l
def prevK (xs : List Ent) : Nat → Option (List UInt8)
  | 0 => none
  | i + 1 => (xs[i]?).map Ent.key
def check (xs : List Ent) : Int := if 65536 < xs.length then 6 else chk none xs
theorem chk_at {xs : List Ent} {i : Nat} {x : Ent} (h : xs[i]? = some x) : chk (prevK xs i) (xs.drop i) = if 65536 < x.key.length ∨ 65536 < x.val.length then 6 else if (fit (prevK xs i) x.key || (x.gone && decide (x.val ≠ []))) = true then 1 else chk (prevK xs (i + 1)) (xs.drop (i + 1)) := by
  obtain ⟨hl, rfl⟩ := List.getElem?_eq_some_iff.1 h
  rw [List.drop_eq_getElem_cons hl, chk]
  have e : prevK xs (i + 1) = some (xs[i]).key := by show (xs[i]?).map Ent.key = _; rw [List.getElem?_eq_getElem hl]; rfl
  rw [e]
theorem fit_succ {xs : List Ent} {j : Nat} {y : Ent} (h : xs[j]? = some y) (k : List UInt8) : fit (prevK xs (j + 1)) k = !sLt (ofL y.key) (ofL k) := by show fit ((xs[j]?).map Ent.key) k = _; rw [h]; rfl
theorem val_ne (v : List UInt8) : decide (ofL v ≠ ofL []) = decide (v ≠ []) := decide_eq_decide.2 (not_congr ⟨fun h => by have h2 := congrArg toL h; simpa [Eng.toL_ofL] using h2, fun h => by rw [h]⟩)
theorem val_len (v : List UInt8) : decide (((ofL v).size : Int) > 0) = decide (v ≠ []) := decide_eq_decide.2 (by
  have e : (ofL v).size = v.length := rfl
  rw [e]
  constructor
  · rintro h rfl; simp at h
  · intro h
    have := List.length_pos_iff.2 h
    omega)
theorem ent_one (x : Ent) : ∀ v ∈ entC x, v.oneCell' = true := by
  intro v hv
  simp [entC] at hv
  rcases hv with rfl | rfl | rfl <;> rfl
theorem r_pred {P : Program} {ρ : Operand → Value} {w : World} {dst : Option Tmp} {ty : TypeId} {pos : String} {aft : Array Edge} {g : Option (Nat × Bool)} {t t' : TypeId} {x y : Operand} {j : Nat} (hx : ρ x = iV ((j + 1 : Nat) : Int)) (hy : ρ y = iV 1) (hj : j ≤ 9223372036854775806) : Run P ρ ⟨dst, .binOp .sub t x y t', ty, pos, aft, g⟩ w (iV (j : Int)) w := by
  have h := r_subi (P := P) (w := w) (dst := dst) (ty := ty) (pos := pos) (aft := aft) (g := g) (t := t) (t' := t') hx hy (by omega)
  rwa [show ((j + 1 : Nat) : Int) - 1 = (j : Int) by omega] at h
set_option maxHeartbeats 8000000 in
theorem check_c (A : Option Addr) (c : Nat) (xs : List Ent) (w : World) (hr : Rd w 3 A xs.length (xs.flatMap entC)) :
    Calls Try.prog 11 #[.slice A xs.length c] w fun e w' => e = .returned (iV (check xs)) ∧ Below w.heap.size w w' := by
  have hn := hr.2.1
  unfold check
  refine enter (P := Try.prog) Try.func11 rfl rfl ?_
  have hs := Sep.init w
  refine c_rseq ?_
  refine l_v (by first | exact (r_assign (v := iV _) rfl) | exact (r_assign rfl)) ?_
  refine l_nil (nrm_then ?_)
  refine c_seq ?_
  refine c_rseq ?_
  refine l_v (by first | exact (r_move (v := .slice _ _ _) rfl) | exact (r_move rfl)) ?_
  refine l_v (r_len_l Try.underlying22 rfl) ?_
  refine l_v (r_gtri rfl rfl) ?_
  refine l_nil (nrm_then ?_)
  refine c_cond rfl (fun h1 => ?_) (fun h1 => ?_)
  · have h1' : 65536 < xs.length := by have h := of_decide_eq_true h1; omega
    replace h1 := of_decide_eq_true h1
    refine c_rseq ?_
    refine l_v (by first | exact (r_assign (v := iV _) rfl) | exact (r_assign rfl)) ?_
    refine l_nil (nrm_then ?_)
    refine c_ret (ret_then ?_)
    show Fin _ _ _ _ _
    refine fin1 rfl ?_
    rw [if_pos h1']
    exact ⟨rfl, hs.below⟩
  · have h1' : ¬ 65536 < xs.length := by have h := of_decide_eq_false h1; omega
    rw [if_neg h1']
    replace h1 := of_decide_eq_false h1
    refine c_skip (nrm_then ?_)
    refine c_seq ?_
    refine c_rseq ?_
    refine l_v (by first | exact (r_move (v := .slice _ _ _) rfl) | exact (r_move rfl)) ?_
    refine l_v (r_len_l Try.underlying22 rfl) ?_
    refine l_v (by first | exact (r_move (v := iV _) rfl) | exact (r_move rfl)) ?_
    refine l_nil (nrm_then ?_)
    refine c_block ?_
    refine c_loopn [0, 8, 9] (fun m f' w' => ∃ i, i + m = xs.length ∧ f' 10 = iV (i : Int) ∧ chk none xs = chk (prevK xs i) (xs.drop i) ∧ Eng.Sep w w' []) ?_ ?_
    · exact ⟨xs.length, 0, by omega, rfl, rfl, hs⟩
    · rintro m g w_ ⟨i, hi, h10, hch, hs⟩
      refine OkC.env ?_ (fixH (L := [(10, _)]) ⟨h10, trivial⟩)
      clear h10
      refine c_rseq ?_
      refine l_v (r_lssi rfl rfl) ?_
      refine l_nil (nrm_then ?_)
      refine c_seq ?_
      refine c_cond rfl (fun h2 => ?_) (fun h2 => ?_)
      · have hil : i < xs.length := by have h := of_decide_eq_true h2; omega
        obtain ⟨x, hxi⟩ : ∃ x, xs[i]? = some x := ⟨xs[i], List.getElem?_eq_getElem hil⟩
        have hr0 := hr.below hs.below
        obtain ⟨ad, rfl, _⟩ := hr.ad (by omega)
        have hX := rd_item hr0 (fun y _ => rfl) (by decide) hxi
        rw [chk_at hxi] at hch
        have hel : (entC x).length = 3 := rfl
        have hone := ent_one x
        have hkz : (ofL x.key).size = x.key.length := rfl
        have hvz : (ofL x.val).size = x.val.length := rfl
        replace h2 := of_decide_eq_true h2
        refine c_skip (nrm_then ?_)
        refine c_seq ?_
        refine c_block ?_
        refine c_rseq ?_
        refine l_v (by first | exact (r_move (v := iV _) rfl) | exact (r_move rfl)) ?_
        refine l_v (r_indexAddr_l (k := i) Try.underlying22 I44 rfl rfl hil) ?_
        refine l_v (r_load_aggP Try.underlying44 I44 rfl hX rfl) ?_
        refine l_alloc hs I44 ?_
        intro b4 w4 hs hB4 hlt4
        refine l_v (by first | exact (r_assign (v := iV _) rfl) | exact (r_assign rfl)) ?_
        first | refine l_store_whole (i := 0) hs rfl I44 rfl rfl (by first | assumption | (simp; done)) (by first | assumption | (simp; done)) (by first | assumption | simp [Value.oneCell']) ?_ | refine l_store_whole (i := 1) hs rfl I44 rfl rfl (by first | assumption | (simp; done)) (by first | assumption | (simp; done)) (by first | assumption | simp [Value.oneCell']) ?_ | refine l_store_whole (i := 2) hs rfl I44 rfl rfl (by first | assumption | (simp; done)) (by first | assumption | (simp; done)) (by first | assumption | simp [Value.oneCell']) ?_ | refine l_store_whole (i := 3) hs rfl I44 rfl rfl (by first | assumption | (simp; done)) (by first | assumption | (simp; done)) (by first | assumption | simp [Value.oneCell']) ?_ | refine l_store_whole (i := 4) hs rfl I44 rfl rfl (by first | assumption | (simp; done)) (by first | assumption | (simp; done)) (by first | assumption | simp [Value.oneCell']) ?_ | refine l_store_whole (i := 5) hs rfl I44 rfl rfl (by first | assumption | (simp; done)) (by first | assumption | (simp; done)) (by first | assumption | simp [Value.oneCell']) ?_ | refine l_store_whole (i := 6) hs rfl I44 rfl rfl (by first | assumption | (simp; done)) (by first | assumption | (simp; done)) (by first | assumption | simp [Value.oneCell']) ?_
        intro w_ hs
        refine l_nil (nrm_then ?_)
        refine c_block ?_
        refine c_rseq ?_
        refine l_v (by first | exact (r_fieldAddr0 (off := 0) (T := 9) (by kernel_rfl) rfl) | exact (r_fieldAddr (off := 0) (T := 9) (by kernel_rfl) rfl)) ?_
        refine l_v (by first | exact (r_load_at (i := 0) hs rfl Try.underlying9 rfl rfl) | exact (r_load_at (i := 1) hs rfl Try.underlying9 rfl rfl) | exact (r_load_at (i := 2) hs rfl Try.underlying9 rfl rfl) | exact (r_load_at (i := 3) hs rfl Try.underlying9 rfl rfl) | exact (r_load_at (i := 4) hs rfl Try.underlying9 rfl rfl) | exact (r_load_at (i := 5) hs rfl Try.underlying9 rfl rfl) | exact (r_load_at (i := 6) hs rfl Try.underlying9 rfl rfl)) ?_
        refine l_v (r_len_s Try.underlying9 rfl) ?_
        refine l_v (r_gtri rfl rfl) ?_
        by_cases c1 : (((ofL x.key).size : Nat) : Int) > 65536
        · have f1 : decide ((((ofL x.key).size : Nat) : Int) > 65536) = true := decide_eq_true c1
          refine l_v (by first | exact (r_move (v := bV _) rfl) | exact (r_move rfl)) ?_
          refine l_no rfl (f1) ?_
          refine l_no rfl (f1) ?_
          refine l_no rfl (f1) ?_
          refine l_no rfl (f1) ?_
          refine l_v (r_pick_t rfl f1 rfl) ?_
          refine l_v (by first | exact (r_assign (v := bV _) rfl) | exact (r_assign rfl)) ?_
          refine l_nil (nrm_then ?_)
          refine c_true rfl (rfl) ?_
          refine c_rseq ?_
          refine l_v (by first | exact (r_assign (v := iV _) rfl) | exact (r_assign rfl)) ?_
          refine l_nil (nrm_then ?_)
          refine c_ret (ret_block (ret_block (ret_then (ret_then (ret_block (ret_then ?_))))))
          show Fin _ _ _ _ _
          refine fin1 rfl ?_
          rw [hch, if_pos (by omega)]
          exact ⟨rfl, hs.below⟩
        · have f1 : decide ((((ofL x.key).size : Nat) : Int) > 65536) = false := decide_eq_false c1
          refine l_v (by first | exact (r_move (v := bV _) rfl) | exact (r_move rfl)) ?_
          refine l_vg (by first | exact (r_fieldAddr0 (off := 1) (T := 9) (by kernel_rfl) rfl) | exact (r_fieldAddr (off := 1) (T := 9) (by kernel_rfl) rfl)) rfl (f1) ?_
          refine l_vg (by first | exact (r_load_at (i := 0) hs rfl Try.underlying9 rfl rfl) | exact (r_load_at (i := 1) hs rfl Try.underlying9 rfl rfl) | exact (r_load_at (i := 2) hs rfl Try.underlying9 rfl rfl) | exact (r_load_at (i := 3) hs rfl Try.underlying9 rfl rfl) | exact (r_load_at (i := 4) hs rfl Try.underlying9 rfl rfl) | exact (r_load_at (i := 5) hs rfl Try.underlying9 rfl rfl) | exact (r_load_at (i := 6) hs rfl Try.underlying9 rfl rfl)) rfl (f1) ?_
          refine l_vg (r_len_s Try.underlying9 rfl) rfl (f1) ?_
          refine l_vg (r_gtri rfl rfl) rfl (f1) ?_
          refine l_v (r_pick_f rfl f1 rfl) ?_
          refine l_v (by first | exact (r_assign (v := bV _) rfl) | exact (r_assign rfl)) ?_
          refine l_nil (nrm_then ?_)
          refine c_cond rfl (fun h3 => ?_) (fun h3 => ?_)
          · have c2 : (((ofL x.val).size : Nat) : Int) > 65536 := of_decide_eq_true h3
            replace h3 := of_decide_eq_true h3
            refine c_rseq ?_
            refine l_v (by first | exact (r_assign (v := iV _) rfl) | exact (r_assign rfl)) ?_
            refine l_nil (nrm_then ?_)
            refine c_ret (ret_block (ret_block (ret_then (ret_then (ret_block (ret_then ?_))))))
            show Fin _ _ _ _ _
            refine fin1 rfl ?_
            rw [hch, if_pos (by omega)]
            exact ⟨rfl, hs.below⟩
          · have c2 : ¬ (((ofL x.val).size : Nat) : Int) > 65536 := of_decide_eq_false h3
            rw [if_neg (by omega)] at hch
            replace h3 := of_decide_eq_false h3
            refine c_seq ?_
            refine c_mid [0, 2, 8, 9, 10] (fun f' w' => f' 26 = bV (fit (prevK xs i) x.key || (x.gone && decide (x.val ≠ []))) ∧ Eng.Sep w w' []) ?_ ?_
            · skip
              rcases i with _ | j
              · have f28 : decide (((0 : Nat) : Int) > 0) = false := rfl
                rcases Bool.eq_false_or_eq_true x.gone with hg | hg
                · skip
                  refine c_still (by kernel_rfl) (by kernel_rfl) ?_
                  have hs := hs.drew
                  refine s_v (by first | exact (r_move (v := iV _) rfl) | exact (r_move rfl)) ?_
                  refine s_v (r_gtri rfl rfl) ?_
                  refine s_v (by first | exact (r_move (v := bV _) rfl) | exact (r_move rfl)) ?_
                  refine s_skip (dj := 29) (b := true) (.inl (by first | rfl | (rw [show _ = _ from f28]; rfl) | exact congrArg Value.bool (f28))) ?_
                  refine s_skip (dj := 29) (b := true) (.inl (by first | rfl | (rw [show _ = _ from f28]; rfl) | exact congrArg Value.bool (f28))) ?_
                  refine s_skip (dj := 29) (b := true) (.inl (by first | rfl | (rw [show _ = _ from f28]; rfl) | exact congrArg Value.bool (f28))) ?_
                  refine s_skip (dj := 29) (b := true) (.inl (by first | rfl | (rw [show _ = _ from f28]; rfl) | exact congrArg Value.bool (f28))) ?_
                  refine s_skip (dj := 29) (b := true) (.inl (by first | rfl | (rw [show _ = _ from f28]; rfl) | exact congrArg Value.bool (f28))) ?_
                  refine s_skip (dj := 29) (b := true) (.inl (by first | rfl | (rw [show _ = _ from f28]; rfl) | exact congrArg Value.bool (f28))) ?_
                  refine s_skip (dj := 29) (b := true) (.inl (by first | rfl | (rw [show _ = _ from f28]; rfl) | exact congrArg Value.bool (f28))) ?_
                  refine s_skip (dj := 29) (b := true) (.inl (by first | rfl | (rw [show _ = _ from f28]; rfl) | exact congrArg Value.bool (f28))) ?_
                  refine s_skip (dj := 29) (b := true) (.inl (by first | rfl | (rw [show _ = _ from f28]; rfl) | exact congrArg Value.bool (f28))) ?_
                  refine s_v (r_pick_f rfl f28 rfl) ?_
                  refine s_v (by first | exact (r_move (v := bV _) rfl) | exact (r_move rfl)) ?_
                  refine s_vg (by first | exact (r_fieldAddr0 (off := 2) (T := 4) (by kernel_rfl) rfl) | exact (r_fieldAddr (off := 2) (T := 4) (by kernel_rfl) rfl)) rfl (rfl) ?_
                  refine s_vg (by first | exact (r_load_at (i := 0) hs rfl Try.underlying4 rfl rfl) | exact (r_load_at (i := 1) hs rfl Try.underlying4 rfl rfl) | exact (r_load_at (i := 2) hs rfl Try.underlying4 rfl rfl) | exact (r_load_at (i := 3) hs rfl Try.underlying4 rfl rfl) | exact (r_load_at (i := 4) hs rfl Try.underlying4 rfl rfl) | exact (r_load_at (i := 5) hs rfl Try.underlying4 rfl rfl) | exact (r_load_at (i := 6) hs rfl Try.underlying4 rfl rfl)) rfl (rfl) ?_
                  refine s_vg (by first | exact (r_move (v := bV _) rfl) | exact (r_move rfl)) rfl (rfl) ?_
                  refine s_vg (by first | exact (r_fieldAddr0 (off := 1) (T := 9) (by kernel_rfl) rfl) | exact (r_fieldAddr (off := 1) (T := 9) (by kernel_rfl) rfl)) rfl (hg) ?_
                  refine s_vg (by first | exact (r_load_at (i := 0) hs rfl Try.underlying9 rfl rfl) | exact (r_load_at (i := 1) hs rfl Try.underlying9 rfl rfl) | exact (r_load_at (i := 2) hs rfl Try.underlying9 rfl rfl) | exact (r_load_at (i := 3) hs rfl Try.underlying9 rfl rfl) | exact (r_load_at (i := 4) hs rfl Try.underlying9 rfl rfl) | exact (r_load_at (i := 5) hs rfl Try.underlying9 rfl rfl) | exact (r_load_at (i := 6) hs rfl Try.underlying9 rfl rfl)) rfl (hg) ?_
                  refine s_vg (r_neqs rfl rfl) rfl (hg) ?_
                  refine s_vg (r_pick_t rfl hg rfl) rfl (rfl) ?_
                  refine s_v (r_pick_f rfl rfl rfl) ?_
                  refine s_v (by first | exact (r_assign (v := bV _) rfl) | exact (r_assign rfl)) ?_
                  refine s_nil (nrm_then ?_)
                  refine And.intro (by refine ⟨?_, ?_, ?_, ?_, ?_, trivial⟩ <;> ((conv => lhs; whnf); (try conv => rhs; whnf))) ?_
                  refine ⟨congrArg bV ?_, hs.drop⟩
                  rw [show fit (prevK xs 0) x.key = false from rfl, hg, Bool.false_or, Bool.true_and]
                  exact val_ne x.val
                · skip
                  refine c_still (by kernel_rfl) (by kernel_rfl) ?_
                  have hs := hs.drew
                  refine s_v (by first | exact (r_move (v := iV _) rfl) | exact (r_move rfl)) ?_
                  refine s_v (r_gtri rfl rfl) ?_
                  refine s_v (by first | exact (r_move (v := bV _) rfl) | exact (r_move rfl)) ?_
                  refine s_skip (dj := 29) (b := true) (.inl (by first | rfl | (rw [show _ = _ from f28]; rfl) | exact congrArg Value.bool (f28))) ?_
                  refine s_skip (dj := 29) (b := true) (.inl (by first | rfl | (rw [show _ = _ from f28]; rfl) | exact congrArg Value.bool (f28))) ?_
                  refine s_skip (dj := 29) (b := true) (.inl (by first | rfl | (rw [show _ = _ from f28]; rfl) | exact congrArg Value.bool (f28))) ?_
                  refine s_skip (dj := 29) (b := true) (.inl (by first | rfl | (rw [show _ = _ from f28]; rfl) | exact congrArg Value.bool (f28))) ?_
                  refine s_skip (dj := 29) (b := true) (.inl (by first | rfl | (rw [show _ = _ from f28]; rfl) | exact congrArg Value.bool (f28))) ?_
                  refine s_skip (dj := 29) (b := true) (.inl (by first | rfl | (rw [show _ = _ from f28]; rfl) | exact congrArg Value.bool (f28))) ?_
                  refine s_skip (dj := 29) (b := true) (.inl (by first | rfl | (rw [show _ = _ from f28]; rfl) | exact congrArg Value.bool (f28))) ?_
                  refine s_skip (dj := 29) (b := true) (.inl (by first | rfl | (rw [show _ = _ from f28]; rfl) | exact congrArg Value.bool (f28))) ?_
                  refine s_skip (dj := 29) (b := true) (.inl (by first | rfl | (rw [show _ = _ from f28]; rfl) | exact congrArg Value.bool (f28))) ?_
                  refine s_v (r_pick_f rfl f28 rfl) ?_
                  refine s_v (by first | exact (r_move (v := bV _) rfl) | exact (r_move rfl)) ?_
                  refine s_vg (by first | exact (r_fieldAddr0 (off := 2) (T := 4) (by kernel_rfl) rfl) | exact (r_fieldAddr (off := 2) (T := 4) (by kernel_rfl) rfl)) rfl (rfl) ?_
                  refine s_vg (by first | exact (r_load_at (i := 0) hs rfl Try.underlying4 rfl rfl) | exact (r_load_at (i := 1) hs rfl Try.underlying4 rfl rfl) | exact (r_load_at (i := 2) hs rfl Try.underlying4 rfl rfl) | exact (r_load_at (i := 3) hs rfl Try.underlying4 rfl rfl) | exact (r_load_at (i := 4) hs rfl Try.underlying4 rfl rfl) | exact (r_load_at (i := 5) hs rfl Try.underlying4 rfl rfl) | exact (r_load_at (i := 6) hs rfl Try.underlying4 rfl rfl)) rfl (rfl) ?_
                  refine s_vg (by first | exact (r_move (v := bV _) rfl) | exact (r_move rfl)) rfl (rfl) ?_
                  refine s_skip (dj := 43) (b := true) (.inl (by first | rfl | (rw [show _ = _ from hg]; rfl) | exact congrArg Value.bool (hg))) ?_
                  refine s_skip (dj := 43) (b := true) (.inl (by first | rfl | (rw [show _ = _ from hg]; rfl) | exact congrArg Value.bool (hg))) ?_
                  refine s_skip (dj := 43) (b := true) (.inl (by first | rfl | (rw [show _ = _ from hg]; rfl) | exact congrArg Value.bool (hg))) ?_
                  refine s_vg (r_pick_f rfl hg rfl) rfl (rfl) ?_
                  refine s_v (r_pick_f rfl rfl rfl) ?_
                  refine s_v (by first | exact (r_assign (v := bV _) rfl) | exact (r_assign rfl)) ?_
                  refine s_nil (nrm_then ?_)
                  refine And.intro (by refine ⟨?_, ?_, ?_, ?_, ?_, trivial⟩ <;> ((conv => lhs; whnf); (try conv => rhs; whnf))) ?_
                  refine ⟨congrArg bV ?_, hs.drop⟩
                  rw [show fit (prevK xs 0) x.key = false from rfl, hg, Bool.false_or, Bool.false_and]
              · have f28 : decide (((j + 1 : Nat) : Int) > 0) = true := decide_eq_true (by omega)
                have hjl : j < xs.length := by omega
                obtain ⟨y, hyj⟩ : ∃ y, xs[j]? = some y := ⟨xs[j], List.getElem?_eq_getElem hjl⟩
                have hr1 := hr.below hs.below
                have hY := rd_item hr1 (fun y _ => rfl) (by decide) hyj
                have hfs := fit_succ hyj x.key
                rcases Bool.eq_false_or_eq_true (!sLt (ofL y.key) (ofL x.key)) with hq | hq
                · skip
                  refine c_still (by kernel_rfl) (by kernel_rfl) ?_
                  have hs := hs.drew
                  refine s_v (by first | exact (r_move (v := iV _) rfl) | exact (r_move rfl)) ?_
                  refine s_v (r_gtri rfl rfl) ?_
                  refine s_v (by first | exact (r_move (v := bV _) rfl) | exact (r_move rfl)) ?_
                  refine s_vg (by first | exact (r_move (v := .slice _ _ _) rfl) | exact (r_move rfl)) rfl (f28) ?_
                  refine s_vg (by first | exact (r_move (v := iV _) rfl) | exact (r_move rfl)) rfl (f28) ?_
                  refine s_vg (r_pred (j := j) rfl rfl (by omega)) rfl (f28) ?_
                  refine s_vg (r_indexAddr_l (k := j) Try.underlying22 I44 rfl rfl hjl) rfl (f28) ?_
                  refine s_vg (r_fieldAddrP (off := 0) (T := 9) (by kernel_rfl) rfl) rfl (f28) ?_
                  refine s_vg (r_load Try.underlying9 rfl (hY 0 _ rfl)) rfl (f28) ?_
                  refine s_vg (by first | exact (r_fieldAddr0 (off := 0) (T := 9) (by kernel_rfl) rfl) | exact (r_fieldAddr (off := 0) (T := 9) (by kernel_rfl) rfl)) rfl (f28) ?_
                  refine s_vg (by first | exact (r_load_at (i := 0) hs rfl Try.underlying9 rfl rfl) | exact (r_load_at (i := 1) hs rfl Try.underlying9 rfl rfl) | exact (r_load_at (i := 2) hs rfl Try.underlying9 rfl rfl) | exact (r_load_at (i := 3) hs rfl Try.underlying9 rfl rfl) | exact (r_load_at (i := 4) hs rfl Try.underlying9 rfl rfl) | exact (r_load_at (i := 5) hs rfl Try.underlying9 rfl rfl) | exact (r_load_at (i := 6) hs rfl Try.underlying9 rfl rfl)) rfl (f28) ?_
                  refine s_vg (r_geqs rfl rfl) rfl (f28) ?_
                  refine s_v (r_pick_t rfl f28 rfl) ?_
                  refine s_v (by first | exact (r_move (v := bV _) rfl) | exact (r_move rfl)) ?_
                  refine s_skip (dj := 40) (b := false) (.inl (by first | rfl | (rw [show _ = _ from hq]; rfl) | exact congrArg Value.bool (hq))) ?_
                  refine s_skip (dj := 40) (b := false) (.inl (by first | rfl | (rw [show _ = _ from hq]; rfl) | exact congrArg Value.bool (hq))) ?_
                  refine s_skip (dj := 40) (b := false) (.inl (by first | rfl | (rw [show _ = _ from hq]; rfl) | exact congrArg Value.bool (hq))) ?_
                  refine s_skip (.inr rfl) ?_
                  refine s_skip (.inr rfl) ?_
                  refine s_skip (.inr rfl) ?_
                  refine s_skip (dj := 40) (b := false) (.inl (by first | rfl | (rw [show _ = _ from hq]; rfl) | exact congrArg Value.bool (hq))) ?_
                  refine s_v (r_pick_t rfl hq rfl) ?_
                  refine s_v (by first | exact (r_assign (v := bV _) rfl) | exact (r_assign rfl)) ?_
                  refine s_nil (nrm_then ?_)
                  refine And.intro (by refine ⟨?_, ?_, ?_, ?_, ?_, trivial⟩ <;> ((conv => lhs; whnf); (try conv => rhs; whnf))) ?_
                  refine ⟨congrArg bV ?_, hs.drop⟩
                  rw [hfs, hq, Bool.true_or]
                · rcases Bool.eq_false_or_eq_true x.gone with hg | hg
                  · skip
                    refine c_still (by kernel_rfl) (by kernel_rfl) ?_
                    have hs := hs.drew
                    refine s_v (by first | exact (r_move (v := iV _) rfl) | exact (r_move rfl)) ?_
                    refine s_v (r_gtri rfl rfl) ?_
                    refine s_v (by first | exact (r_move (v := bV _) rfl) | exact (r_move rfl)) ?_
                    refine s_vg (by first | exact (r_move (v := .slice _ _ _) rfl) | exact (r_move rfl)) rfl (f28) ?_
                    refine s_vg (by first | exact (r_move (v := iV _) rfl) | exact (r_move rfl)) rfl (f28) ?_
                    refine s_vg (r_pred (j := j) rfl rfl (by omega)) rfl (f28) ?_
                    refine s_vg (r_indexAddr_l (k := j) Try.underlying22 I44 rfl rfl hjl) rfl (f28) ?_
                    refine s_vg (r_fieldAddrP (off := 0) (T := 9) (by kernel_rfl) rfl) rfl (f28) ?_
                    refine s_vg (r_load Try.underlying9 rfl (hY 0 _ rfl)) rfl (f28) ?_
                    refine s_vg (by first | exact (r_fieldAddr0 (off := 0) (T := 9) (by kernel_rfl) rfl) | exact (r_fieldAddr (off := 0) (T := 9) (by kernel_rfl) rfl)) rfl (f28) ?_
                    refine s_vg (by first | exact (r_load_at (i := 0) hs rfl Try.underlying9 rfl rfl) | exact (r_load_at (i := 1) hs rfl Try.underlying9 rfl rfl) | exact (r_load_at (i := 2) hs rfl Try.underlying9 rfl rfl) | exact (r_load_at (i := 3) hs rfl Try.underlying9 rfl rfl) | exact (r_load_at (i := 4) hs rfl Try.underlying9 rfl rfl) | exact (r_load_at (i := 5) hs rfl Try.underlying9 rfl rfl) | exact (r_load_at (i := 6) hs rfl Try.underlying9 rfl rfl)) rfl (f28) ?_
                    refine s_vg (r_geqs rfl rfl) rfl (f28) ?_
                    refine s_v (r_pick_t rfl f28 rfl) ?_
                    refine s_v (by first | exact (r_move (v := bV _) rfl) | exact (r_move rfl)) ?_
                    refine s_vg (by first | exact (r_fieldAddr0 (off := 2) (T := 4) (by kernel_rfl) rfl) | exact (r_fieldAddr (off := 2) (T := 4) (by kernel_rfl) rfl)) rfl (hq) ?_
                    refine s_vg (by first | exact (r_load_at (i := 0) hs rfl Try.underlying4 rfl rfl) | exact (r_load_at (i := 1) hs rfl Try.underlying4 rfl rfl) | exact (r_load_at (i := 2) hs rfl Try.underlying4 rfl rfl) | exact (r_load_at (i := 3) hs rfl Try.underlying4 rfl rfl) | exact (r_load_at (i := 4) hs rfl Try.underlying4 rfl rfl) | exact (r_load_at (i := 5) hs rfl Try.underlying4 rfl rfl) | exact (r_load_at (i := 6) hs rfl Try.underlying4 rfl rfl)) rfl (hq) ?_
                    refine s_vg (by first | exact (r_move (v := bV _) rfl) | exact (r_move rfl)) rfl (hq) ?_
                    refine s_vg (by first | exact (r_fieldAddr0 (off := 1) (T := 9) (by kernel_rfl) rfl) | exact (r_fieldAddr (off := 1) (T := 9) (by kernel_rfl) rfl)) rfl (hg) ?_
                    refine s_vg (by first | exact (r_load_at (i := 0) hs rfl Try.underlying9 rfl rfl) | exact (r_load_at (i := 1) hs rfl Try.underlying9 rfl rfl) | exact (r_load_at (i := 2) hs rfl Try.underlying9 rfl rfl) | exact (r_load_at (i := 3) hs rfl Try.underlying9 rfl rfl) | exact (r_load_at (i := 4) hs rfl Try.underlying9 rfl rfl) | exact (r_load_at (i := 5) hs rfl Try.underlying9 rfl rfl) | exact (r_load_at (i := 6) hs rfl Try.underlying9 rfl rfl)) rfl (hg) ?_
                    refine s_vg (r_neqs rfl rfl) rfl (hg) ?_
                    refine s_vg (r_pick_t rfl hg rfl) rfl (hq) ?_
                    refine s_v (r_pick_f rfl hq rfl) ?_
                    refine s_v (by first | exact (r_assign (v := bV _) rfl) | exact (r_assign rfl)) ?_
                    refine s_nil (nrm_then ?_)
                    refine And.intro (by refine ⟨?_, ?_, ?_, ?_, ?_, trivial⟩ <;> ((conv => lhs; whnf); (try conv => rhs; whnf))) ?_
                    refine ⟨congrArg bV ?_, hs.drop⟩
                    rw [hfs, hq, hg, Bool.false_or, Bool.true_and]
                    exact val_ne x.val
                  · skip
                    refine c_still (by kernel_rfl) (by kernel_rfl) ?_
                    have hs := hs.drew
                    refine s_v (by first | exact (r_move (v := iV _) rfl) | exact (r_move rfl)) ?_
                    refine s_v (r_gtri rfl rfl) ?_
                    refine s_v (by first | exact (r_move (v := bV _) rfl) | exact (r_move rfl)) ?_
                    refine s_vg (by first | exact (r_move (v := .slice _ _ _) rfl) | exact (r_move rfl)) rfl (f28) ?_
                    refine s_vg (by first | exact (r_move (v := iV _) rfl) | exact (r_move rfl)) rfl (f28) ?_
                    refine s_vg (r_pred (j := j) rfl rfl (by omega)) rfl (f28) ?_
                    refine s_vg (r_indexAddr_l (k := j) Try.underlying22 I44 rfl rfl hjl) rfl (f28) ?_
                    refine s_vg (r_fieldAddrP (off := 0) (T := 9) (by kernel_rfl) rfl) rfl (f28) ?_
                    refine s_vg (r_load Try.underlying9 rfl (hY 0 _ rfl)) rfl (f28) ?_
                    refine s_vg (by first | exact (r_fieldAddr0 (off := 0) (T := 9) (by kernel_rfl) rfl) | exact (r_fieldAddr (off := 0) (T := 9) (by kernel_rfl) rfl)) rfl (f28) ?_
                    refine s_vg (by first | exact (r_load_at (i := 0) hs rfl Try.underlying9 rfl rfl) | exact (r_load_at (i := 1) hs rfl Try.underlying9 rfl rfl) | exact (r_load_at (i := 2) hs rfl Try.underlying9 rfl rfl) | exact (r_load_at (i := 3) hs rfl Try.underlying9 rfl rfl) | exact (r_load_at (i := 4) hs rfl Try.underlying9 rfl rfl) | exact (r_load_at (i := 5) hs rfl Try.underlying9 rfl rfl) | exact (r_load_at (i := 6) hs rfl Try.underlying9 rfl rfl)) rfl (f28) ?_
                    refine s_vg (r_geqs rfl rfl) rfl (f28) ?_
                    refine s_v (r_pick_t rfl f28 rfl) ?_
                    refine s_v (by first | exact (r_move (v := bV _) rfl) | exact (r_move rfl)) ?_
                    refine s_vg (by first | exact (r_fieldAddr0 (off := 2) (T := 4) (by kernel_rfl) rfl) | exact (r_fieldAddr (off := 2) (T := 4) (by kernel_rfl) rfl)) rfl (hq) ?_
                    refine s_vg (by first | exact (r_load_at (i := 0) hs rfl Try.underlying4 rfl rfl) | exact (r_load_at (i := 1) hs rfl Try.underlying4 rfl rfl) | exact (r_load_at (i := 2) hs rfl Try.underlying4 rfl rfl) | exact (r_load_at (i := 3) hs rfl Try.underlying4 rfl rfl) | exact (r_load_at (i := 4) hs rfl Try.underlying4 rfl rfl) | exact (r_load_at (i := 5) hs rfl Try.underlying4 rfl rfl) | exact (r_load_at (i := 6) hs rfl Try.underlying4 rfl rfl)) rfl (hq) ?_
                    refine s_vg (by first | exact (r_move (v := bV _) rfl) | exact (r_move rfl)) rfl (hq) ?_
                    refine s_skip (dj := 43) (b := true) (.inl (by first | rfl | (rw [show _ = _ from hg]; rfl) | exact congrArg Value.bool (hg))) ?_
                    refine s_skip (dj := 43) (b := true) (.inl (by first | rfl | (rw [show _ = _ from hg]; rfl) | exact congrArg Value.bool (hg))) ?_
                    refine s_skip (dj := 43) (b := true) (.inl (by first | rfl | (rw [show _ = _ from hg]; rfl) | exact congrArg Value.bool (hg))) ?_
                    refine s_vg (r_pick_f rfl hg rfl) rfl (hq) ?_
                    refine s_v (r_pick_f rfl hq rfl) ?_
                    refine s_v (by first | exact (r_assign (v := bV _) rfl) | exact (r_assign rfl)) ?_
                    refine s_nil (nrm_then ?_)
                    refine And.intro (by refine ⟨?_, ?_, ?_, ?_, ?_, trivial⟩ <;> ((conv => lhs; whnf); (try conv => rhs; whnf))) ?_
                    refine ⟨congrArg bV ?_, hs.drop⟩
                    rw [hfs, hq, hg, Bool.false_or, Bool.false_and]
            · rintro g w_ ⟨h26, hs⟩
              show OkC _ _ _ _ _ _
              refine OkC.env ?_ (fixH (L := [(26, _)]) ⟨h26, trivial⟩)
              clear h26
              rcases Bool.eq_false_or_eq_true (fit (prevK xs i) x.key || (x.gone && decide (x.val ≠ []))) with hq | hq
              · rw [if_pos hq] at hch
                refine c_true rfl (hq) ?_
                refine c_rseq ?_
                refine l_v (by first | exact (r_assign (v := iV _) rfl) | exact (r_assign rfl)) ?_
                refine l_nil (nrm_then ?_)
                refine c_ret (ret_block (ret_block (ret_then (ret_then (ret_block (ret_then ?_))))))
                show Fin _ _ _ _ _
                refine fin1 rfl ?_
                rw [hch]
                exact ⟨rfl, hs.below⟩
              · rw [if_neg (by rw [hq]; decide)] at hch
                refine c_false rfl (hq) ?_
                refine c_skip (nrm_block (nrm_block (nrm_then ?_)))
                refine c_region ?_
                refine l_v (r_addi rfl rfl (by omega)) ?_
                refine l_v (by first | exact (r_move (v := iV _) rfl) | exact (r_move rfl)) ?_
                refine l_nil (nrm_then ?_)
                refine And.intro (by refine ⟨?_, ?_, ?_, trivial⟩ <;> ((conv => lhs; whnf); (try conv => rhs; whnf))) ?_
                exact ⟨xs.length - (i + 1), by omega, i + 1, by omega, rfl, hch, hs⟩
      · obtain rfl : i = xs.length := by have h := of_decide_eq_false h2; omega
        rw [List.drop_length, chk] at hch
        replace h2 := of_decide_eq_false h2
        refine c_exit (ex_then (ex_then (ex_hit (nrm_then ?_))))
        refine c_rseq ?_
        refine l_v (by first | exact (r_assign (v := iV _) rfl) | exact (r_assign rfl)) ?_
        refine l_nil (nrm_then ?_)
        refine c_ret ?_
        show Fin _ _ _ _ _
        refine fin1 rfl ?_
        rw [hch]
        exact ⟨rfl, hs.below⟩
end Go.Proofs.Ytfjnjnkmkbbjoaa.Blk
