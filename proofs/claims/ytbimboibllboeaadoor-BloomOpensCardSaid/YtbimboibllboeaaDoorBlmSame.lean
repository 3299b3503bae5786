/- The walk of same; of BloomMakes. -/
import Derived.Test.YtbimboibllboeaaDoorBlmRefPack
namespace Go.Proofs.YtbimboibllboeaaDoor.Blm
open Go Go.RowKit Go.Proofs.YtbimboibllboeaaDoor.Eng Go.Proofs.YtbimboibllboeaaDoor.Sha Go.Proofs.YtbimboibllboeaaDoor.Six
set_option linter.unusedVariables false
set_option maxRecDepth 100000
set_option maxHeartbeats 8000000 in
theorem same_c (bf h c c2 c3 : Nat) (A A2 A3 : Option Addr) (b : List UInt8) (keys : List ByteArray) (hh : h ≤ 8) (hz : 0 < b.length) (hz2 : b.length ≤ 1099511627) (hsz : ∀ s ∈ keys, s.size ≤ 100000) (w : World) (h0 : Ok0 w) (hf : FilAt w bf h b A c) (hr : Rd w 1 A2 (8 * b.length) (bvs b)) (hk : Rd w 1 A3 keys.length (keys.map sV)) :
    Calls Tryd.prog 12 #[.pointer (some ⟨bf, 0, none⟩), rfV h A2 (8 * b.length) c2, .slice A3 keys.length c3] w fun e w' => e = .returned (bV true) ∧ Below w.heap.size w w' := by
  have hn3 := hk.2.1
  refine enter (P := Tryd.prog) Tryd.func12 rfl rfl ?_
  have hs := Eng.Sep.init w
  refine c_rseq ?_
  refine l_box hs rfl ?_
  intro b4 w4 hs hB4 hlt4
  refine l_v (by first | exact (r_assign (v := bV _) rfl) | exact (r_assign rfl)) ?_
  refine l_nil (nrm_then ?_)
  refine c_rseq ?_
  refine l_v (r_move (v := .pointer _) rfl) ?_
  have hs : Eng.Sep w _ (blk b4 [iV (h : Int), .slice A2 (8 * b.length) c2] 31 :: []) := hs
  refine l_call (r_call Tryd.func14 rfl rfl) ?_
  refine Calls.mono (shape_c bf h c A b _ (by omega) (hf.below hs.below)) ?_
  rintro e w_ ⟨rfl, hb⟩
  refine ⟨_, rfl, ?_⟩
  have hs := hs.below_ hb
  refine l_v (r_move rfl) ?_
  refine l_v (r_extract rfl rfl) ?_
  refine l_v (r_extract rfl rfl) ?_
  refine l_v (r_extract rfl rfl) ?_
  refine l_v (by first | exact (r_assign (v := iV _) rfl) | exact (r_assign rfl)) ?_
  refine l_v (by first | exact (r_assign (v := iV _) rfl) | exact (r_assign rfl)) ?_
  refine l_v (by first | exact (r_assign (v := iV _) rfl) | exact (r_assign rfl)) ?_
  refine l_nil (nrm_then ?_)
  refine c_seq ?_
  refine c_seq ?_
  have f22 : decide (((8 * b.length : Nat) : Int) ≠ ((8 * b.length : Nat) : Int)) = false := by simp
  have f28 : decide (((onesB b : Nat) : Int) ≠ ((onesB b : Nat) : Int)) = false := by simp
  have f34 : decide ((h : Int) ≠ (h : Int)) = false := by simp
  have f40 : decide (ofL (packF h b) ≠ ofL (packF h b)) = false := by simp
  have hfW := hf.below hs.below
  have hrW := hr.below hs.below
  refine c_float [19, 8] 21 (by kernel_rfl) (by kernel_rfl) ?_
  intro hbF
  show OkF _ _ _ _ _ _ (_ :: _) 0 _ _
  refine f_v (fun wl hbl => by have hs := hs.below_ hbl; first | exact (r_move (v := iV _) rfl) | exact (r_move rfl)) ?_
  refine f_v (fun wl hbl => by have hs := hs.below_ hbl; first | exact (r_fieldAddr0 (off := 1) (T := 29) (by kernel_rfl) rfl) | exact (r_fieldAddr (off := 1) (T := 29) (by kernel_rfl) rfl)) ?_
  refine f_v (fun wl hbl => by have hs := hs.below_ hbl; first | exact (r_load_at (i := 0) hs rfl Tryd.underlying29 rfl rfl) | exact (r_load_at (i := 1) hs rfl Tryd.underlying29 rfl rfl) | exact (r_load_at (i := 2) hs rfl Tryd.underlying29 rfl rfl) | exact (r_load_at (i := 3) hs rfl Tryd.underlying29 rfl rfl) | exact (r_load_at (i := 4) hs rfl Tryd.underlying29 rfl rfl) | exact (r_load_at (i := 5) hs rfl Tryd.underlying29 rfl rfl) | exact (r_load_at (i := 6) hs rfl Tryd.underlying29 rfl rfl)) ?_
  refine f_v (fun wl hbl => by have hs := hs.below_ hbl; exact (r_len_l Tryd.underlying29 rfl)) ?_
  refine f_v (fun wl hbl => by have hs := hs.below_ hbl; exact (r_neqi rfl rfl)) ?_
  refine f_v (fun wl hbl => by have hs := hs.below_ hbl; first | exact (r_move (v := bV _) rfl) | exact (r_move rfl)) ?_
  refine f_vg (fun wl hbl => by have hs := hs.below_ hbl; first | exact (r_move (v := iV _) rfl) | exact (r_move rfl)) rfl (f22) ?_
  refine f_vg (fun wl hbl => by have hs := hs.below_ hbl; exact (r_load_whole (i := 0) hs rfl Tryd.underlying31 I31 rfl rfl)) rfl (f22) ?_
  refine f_callg (r_call Tryd.func20 rfl rfl) rfl (f22) ?_
  refine Calls.mono (rones_c h c2 A2 b hz (by omega) _ (hrW.below hbF)) ?_
  rintro e w_ ⟨rfl, hb⟩
  have hbF := hbF.trans (Below.mono hb hbF.size)
  refine ⟨_, rfl, hb, ?_⟩
  refine f_vg (fun wl hbl => by have hs := hs.below_ hbl; exact (r_neqi rfl rfl)) rfl (f22) ?_
  refine f_v (fun wl hbl => by have hs := hs.below_ hbl; exact (r_pick_f rfl f22 rfl)) ?_
  refine f_v (fun wl hbl => by have hs := hs.below_ hbl; first | exact (r_move (v := bV _) rfl) | exact (r_move rfl)) ?_
  refine f_vg (fun wl hbl => by have hs := hs.below_ hbl; first | exact (r_move (v := iV _) rfl) | exact (r_move rfl)) rfl (f28) ?_
  refine f_vg (fun wl hbl => by have hs := hs.below_ hbl; first | exact (r_fieldAddr0 (off := 0) (T := 3) (by kernel_rfl) rfl) | exact (r_fieldAddr (off := 0) (T := 3) (by kernel_rfl) rfl)) rfl (f28) ?_
  refine f_vg (fun wl hbl => by have hs := hs.below_ hbl; first | exact (r_load_at (i := 0) hs rfl Tryd.underlying3 rfl rfl) | exact (r_load_at (i := 1) hs rfl Tryd.underlying3 rfl rfl) | exact (r_load_at (i := 2) hs rfl Tryd.underlying3 rfl rfl) | exact (r_load_at (i := 3) hs rfl Tryd.underlying3 rfl rfl) | exact (r_load_at (i := 4) hs rfl Tryd.underlying3 rfl rfl) | exact (r_load_at (i := 5) hs rfl Tryd.underlying3 rfl rfl) | exact (r_load_at (i := 6) hs rfl Tryd.underlying3 rfl rfl)) rfl (f28) ?_
  refine f_vg (fun wl hbl => by have hs := hs.below_ hbl; exact (r_neqi rfl rfl)) rfl (f28) ?_
  refine f_v (fun wl hbl => by have hs := hs.below_ hbl; exact (r_pick_f rfl f28 rfl)) ?_
  refine f_v (fun wl hbl => by have hs := hs.below_ hbl; first | exact (r_move (v := bV _) rfl) | exact (r_move rfl)) ?_
  refine f_vg (fun wl hbl => by have hs := hs.below_ hbl; exact (r_move (v := .pointer _) rfl)) rfl (f34) ?_
  refine f_callg (r_call Tryd.func13 rfl rfl) rfl (f34) ?_
  refine Calls.mono (pack_c bf h c A b _ hh (by omega) (hfW.below hbF)) ?_
  rintro e w_ ⟨rfl, hb⟩
  have hbF := hbF.trans (Below.mono hb hbF.size)
  refine ⟨_, rfl, hb, ?_⟩
  refine f_vg (fun wl hbl => by have hs := hs.below_ hbl; exact (r_load_whole (i := 0) hs rfl Tryd.underlying31 I31 rfl rfl)) rfl (f34) ?_
  refine f_nil ?_
  have hs := hs.below_ hbF
  show OkL _ _ _ _ (_ :: _) _ _
  refine l_callg (r_call Tryd.func21 rfl rfl) rfl (f34) ?_
  refine Calls.mono (rpack_c h c2 A2 b hh hz hz2 _ (hrW.below hbF)) ?_
  rintro e w_ ⟨rfl, hb⟩
  refine ⟨_, rfl, ?_⟩
  have hs := hs.below_ hb
  refine l_vg (r_neqs rfl rfl) rfl (f34) ?_
  refine l_v (r_pick_f rfl f34 rfl) ?_
  refine l_nil (nrm_then ?_)
  refine c_false rfl (f40) ?_
  refine c_skip (nrm_then ?_)
  refine c_seq ?_
  refine c_rseq ?_
  refine l_v (by first | exact (r_assign (v := iV _) rfl) | exact (r_assign rfl)) ?_
  refine l_nil (nrm_then ?_)
  refine c_block ?_
  refine c_loopn [0, 2, 4] (fun m f' w' => ∃ i : Nat, i + m = keys.length ∧ f' 10 = iV (i : Int) ∧ Eng.Sep w w' (blk b4 [iV (h : Int), .slice A2 (8 * b.length) c2] 31 :: [])) ?_ ?_
  · exact ⟨keys.length, 0, by omega, rfl, hs⟩
  · rintro m g w_ ⟨i, hi, h10, hs⟩
    refine OkC.env ?_ (fixH (L := [(10, _)]) ⟨h10, trivial⟩)
    clear h10
    refine c_seq ?_
    refine c_rseq ?_
    refine l_v (by first | exact (r_move (v := iV _) rfl) | exact (r_move rfl)) ?_
    refine l_v (by first | exact (r_move (v := .slice _ _ _) rfl) | exact (r_move rfl)) ?_
    refine l_v (r_len_l Tryd.underlying22 rfl) ?_
    refine l_v (r_lssi rfl rfl) ?_
    refine l_nil (nrm_then ?_)
    refine c_cond rfl (fun h1 => ?_) (fun h1 => ?_)
    · have hil : i < keys.length := by have := of_decide_eq_true h1; omega
      obtain ⟨s, hsi⟩ : ∃ s, keys[i]? = some s := ⟨keys[i], List.getElem?_eq_getElem hil⟩
      have hsm := List.mem_of_getElem? hsi
      have hsz1 := hsz s hsm
      obtain ⟨ad, rfl, hcell⟩ := (hk.below hs.below).ad (by omega)
      have hcell := hcell i (sV s) (by rw [List.getElem?_map, hsi]; rfl)
      have hfW := hf.below hs.below
      have hrW := hr.below hs.below
      have hOk := h0.sep hs
      have f59 : (hasB h b (toL s) != hasB h b (toL s)) = false := by simp
      replace h1 := of_decide_eq_true h1
      refine c_skip (nrm_then ?_)
      refine c_seq ?_
      refine c_block ?_
      refine c_seq ?_
      refine c_float [5] 11 (by kernel_rfl) (by kernel_rfl) ?_
      intro hbF
      show OkF _ _ _ _ _ _ (_ :: _) 0 _ _
      refine f_v (fun wl hbl => by have hs := hs.below_ hbl; exact (r_move (v := .pointer _) rfl)) ?_
      refine f_v (fun wl hbl => by have hs := hs.below_ hbl; first | exact (r_move (v := .slice _ _ _) rfl) | exact (r_move rfl)) ?_
      refine f_v (fun wl hbl => by have hs := hs.below_ hbl; first | exact (r_move (v := iV _) rfl) | exact (r_move rfl)) ?_
      refine f_v (fun wl hbl => by have hs := hs.below_ hbl; exact (r_indexAddr_l1 (k := i) Tryd.underlying22 I9 rfl rfl hil)) ?_
      refine f_v (fun wl hbl => by have hs := hs.below_ hbl; exact (r_load Tryd.underlying9 rfl ((hbl.cell (World.block_lt_of_cell? _ _ hcell)).trans hcell))) ?_
      refine f_call (r_call Tryd.func15 rfl rfl) ?_
      refine Calls.mono (has_c bf h c A b s (by omega) _ (h0.sep (hs.below_ hbF)) hz (by omega) hh (hfW.below hbF).h0 (hfW.below hbF).h1 (hfW.below hbF).rd) ?_
      rintro e w_ ⟨rfl, hb⟩
      have hbF := hbF.trans (Below.mono hb hbF.size)
      refine ⟨_, rfl, hb, ?_⟩
      refine f_v (fun wl hbl => by have hs := hs.below_ hbl; exact (r_load_whole (i := 0) hs rfl Tryd.underlying31 I31 rfl rfl)) ?_
      refine f_v (fun wl hbl => by have hs := hs.below_ hbl; first | exact (r_move (v := .slice _ _ _) rfl) | exact (r_move rfl)) ?_
      refine f_v (fun wl hbl => by have hs := hs.below_ hbl; first | exact (r_move (v := iV _) rfl) | exact (r_move rfl)) ?_
      refine f_v (fun wl hbl => by have hs := hs.below_ hbl; exact (r_indexAddr_l1 (k := i) Tryd.underlying22 I9 rfl rfl hil)) ?_
      refine f_v (fun wl hbl => by have hs := hs.below_ hbl; exact (r_load Tryd.underlying9 rfl ((hbl.cell (World.block_lt_of_cell? _ _ hcell)).trans hcell))) ?_
      refine f_nil ?_
      have hs := hs.below_ hbF
      show OkL _ _ _ _ (_ :: _) _ _
      refine l_call (r_call Tryd.func22 rfl rfl) ?_
      refine Calls.mono (rhas_c h c2 A2 b s (by omega) hh hz (by omega) _ (hrW.below hbF)) ?_
      rintro e w_ ⟨rfl, hb⟩
      refine ⟨_, rfl, ?_⟩
      have hs := hs.below_ hb
      refine l_v (r_neqb Tryd.underlying4 rfl rfl) ?_
      refine l_nil (nrm_then ?_)
      refine c_false rfl (f59) ?_
      refine c_skip (nrm_block (nrm_then ?_))
      refine c_region ?_
      refine l_v (by first | exact (r_move (v := iV _) rfl) | exact (r_move rfl)) ?_
      refine l_v (r_addi rfl rfl (by omega)) ?_
      refine l_v (by first | exact (r_assign (v := iV _) rfl) | exact (r_assign rfl)) ?_
      refine l_nil (nrm_then ?_)
      refine And.intro (by refine ⟨?_, ?_, ?_, trivial⟩ <;> ((conv => lhs; whnf); (try conv => rhs; whnf))) ?_
      exact ⟨keys.length - (i + 1), by omega, i + 1, by omega, rfl, hs⟩
    · replace h1 := of_decide_eq_false h1
      refine c_exit (ex_then (ex_then (ex_hit (nrm_then ?_))))
      refine c_rseq ?_
      refine l_v (by first | exact (r_assign (v := bV _) rfl) | exact (r_assign rfl)) ?_
      refine l_nil (nrm_then ?_)
      refine c_ret ?_
      show Fin _ _ _ _ _
      refine fin1 rfl ?_
      exact ⟨rfl, hs.below⟩
end Go.Proofs.YtbimboibllboeaaDoor.Blm
