/- The walks of the document's Pack and Open. -/
import Derived.Test.YtbimboibllboeaaDoorBlmRefMake
import Derived.Test.YtbimboibllboeaaDoorSixRef
import Derived.Test.YtbimboibllboeaaDoorSixRr
namespace Go.Proofs.YtbimboibllboeaaDoor.Blm
open Go Go.RowKit Go.Proofs.YtbimboibllboeaaDoor.Eng Go.Proofs.YtbimboibllboeaaDoor.Sha Go.Proofs.YtbimboibllboeaaDoor.Six
set_option linter.unusedVariables false
set_option maxRecDepth 100000
abbrev owb (v : Value) (l : List UInt8) : HP := RowC 5 1 v l.length (l.map u8V)
theorem owb_app {w0 w : World} {v : Value} {l : List UInt8} {c : UInt8} {L : List HP} (hs : Eng.Sep w0 w (RowC 5 1 v (l.length + 1) (l.map u8V ++ [u8V c]) :: L)) : Eng.Sep w0 w (owb v (l ++ [c]) :: L) := by
  unfold owb; rw [List.length_append, List.map_append]; exact hs
set_option maxHeartbeats 8000000 in
theorem rpack_c (h c : Nat) (A : Option Addr) (b : List UInt8) (hh : h ≤ 8) (hz : 0 < b.length) (hz2 : b.length ≤ 1099511627) (w : World) (hr : Rd w 1 A (8 * b.length) (bvs b)) :
    Calls Tryd.prog 21 #[rfV h A (8 * b.length) c] w fun e w' => e = .returned (sV (ofL (packF h b))) ∧ Below w.heap.size w w' := by
  obtain ⟨ad, rfl, hcell⟩ := hr.ad (by omega)
  refine enter (P := Tryd.prog) Tryd.func21 rfl rfl ?_
  have hs := Eng.Sep.init w
  refine c_rseq ?_
  refine l_box hs rfl ?_
  intro b1 w1 hs hB1 hlt1
  refine l_v (by first | exact (r_assign (v := sV _) rfl) | exact (r_assign rfl)) ?_
  refine l_nil (nrm_then ?_)
  refine c_rseq ?_
  refine l_v (by first | exact (r_assign (v := .slice _ _ _) rfl) | exact (r_assign rfl)) ?_
  refine l_nil (nrm_then ?_)
  refine c_seq ?_
  refine c_rseq ?_
  refine l_v (by first | exact (r_assign (v := iV _) rfl) | exact (r_assign rfl)) ?_
  refine l_nil (nrm_then ?_)
  refine c_block ?_
  have hs : Eng.Sep w w1 (blk b1 [iV (h : Int), .slice (some ad) (8 * b.length) c] 31 :: []) := hs
  have hs := hs.rowNil 5 1
  refine c_loopn [1, 2] (fun m f' w' => ∃ (i : Nat) (v : Value), i + m = b.length ∧ f' 4 = iV ((8 * i : Nat) : Int) ∧ f' 3 = v ∧ Eng.Sep w w' (owb v (b.take i) :: blk b1 [iV (h : Int), .slice (some ad) (8 * b.length) c] 31 :: [])) ?_ ?_
  · exact ⟨b.length, 0, .slice none 0 0, by omega, rfl, rfl, hs⟩
  · rintro m g w_ ⟨i, v, hi, h4, h3, hs⟩
    refine OkC.env ?_ (fixH (L := [(4, _), (3, _)]) ⟨h4, h3, trivial⟩)
    clear h4 h3
    refine c_seq ?_
    refine c_rseq ?_
    refine l_v (by first | exact (r_move (v := iV _) rfl) | exact (r_move rfl)) ?_
    refine l_v (by first | exact (r_fieldAddr0 (off := 1) (T := 29) (by kernel_rfl) rfl) | exact (r_fieldAddr (off := 1) (T := 29) (by kernel_rfl) rfl)) ?_
    refine l_v (by first | exact (r_load_at (i := 0) hs rfl Tryd.underlying29 rfl rfl) | exact (r_load_at (i := 1) hs rfl Tryd.underlying29 rfl rfl) | exact (r_load_at (i := 2) hs rfl Tryd.underlying29 rfl rfl) | exact (r_load_at (i := 3) hs rfl Tryd.underlying29 rfl rfl) | exact (r_load_at (i := 4) hs rfl Tryd.underlying29 rfl rfl) | exact (r_load_at (i := 5) hs rfl Tryd.underlying29 rfl rfl) | exact (r_load_at (i := 6) hs rfl Tryd.underlying29 rfl rfl)) ?_
    refine l_v (r_len_l Tryd.underlying29 rfl) ?_
    refine l_v (r_lssi rfl rfl) ?_
    refine l_nil (nrm_then ?_)
    refine c_cond rfl (fun h1 => ?_) (fun h1 => ?_)
    · have hil : i < b.length := by have := of_decide_eq_true h1; omega
      obtain ⟨c8, hci⟩ : ∃ c8, b[i]? = some c8 := ⟨b[i], List.getElem?_eq_getElem hil⟩
      have htk : b.take (i + 1) = b.take i ++ [c8] := by rw [List.take_add_one, hci]; rfl
      have htl : (b.take i).length = i := by rw [List.length_take]; omega
      replace h1 := of_decide_eq_true h1
      refine c_skip (nrm_then ?_)
      refine c_seq ?_
      refine c_block ?_
      refine c_rseq ?_
      refine l_v (r_assign (v := u8V 0) rfl) ?_
      refine l_nil (nrm_then ?_)
      refine c_seq ?_
      refine c_rseq ?_
      refine l_v (by first | exact (r_assign (v := iV _) rfl) | exact (r_assign rfl)) ?_
      refine l_nil (nrm_then ?_)
      refine c_block ?_
      refine c_loopn [1, 2, 3, 4] (fun m f' w' => ∃ j : Nat, j + m = 8 ∧ f' 6 = iV (7 - (j : Int)) ∧ f' 5 = u8V (topB c8 j) ∧ Eng.Sep w w' (owb v (b.take i) :: blk b1 [iV (h : Int), .slice (some ad) (8 * b.length) c] 31 :: [])) ?_ ?_
      · exact ⟨8, 0, rfl, rfl, by rw [top_zero]; rfl, hs⟩
      · rintro m g w_ ⟨j, hj, h6, h5, hs⟩
        refine OkC.env ?_ (fixH (L := [(6, _), (5, _)]) ⟨h6, h5, trivial⟩)
        clear h6 h5
        refine c_seq ?_
        refine c_rseq ?_
        refine l_v (by first | exact (r_move (v := iV _) rfl) | exact (r_move rfl)) ?_
        refine l_v (r_geqi rfl rfl) ?_
        refine l_nil (nrm_then ?_)
        refine c_cond rfl (fun h7 => ?_) (fun h7 => ?_)
        · have hj8 : j < 8 := by have := of_decide_eq_true h7; omega
          have htn := top_next c8 hj8
          have hY := hcell _ _ (bvs_get (show 8 * i + (7 - j) < 8 * b.length by omega))
          rw [BL_tst hci (show 7 - j < 8 by omega)] at hY
          have hY2 := (hs.below.cell (World.block_lt_of_cell? w _ hY)).trans hY
          have ei : ((8 * i : Nat) : Int) + (7 - (j : Int)) = ((8 * i + (7 - j) : Nat) : Int) := by omega
          replace h7 := of_decide_eq_true h7
          refine c_skip (nrm_then ?_)
          refine c_seq ?_
          refine c_block ?_
          refine c_rseq ?_
          refine l_v (by first | exact (r_move (v := u8V _) rfl) | exact (r_move rfl)) ?_
          refine l_v (r_mul8 (a := 2) rfl rfl) ?_
          refine l_v (by first | exact (r_assign (v := u8V _) rfl) | exact (r_assign rfl)) ?_
          refine l_nil (nrm_then ?_)
          refine c_rseq ?_
          refine l_v (by first | exact (r_fieldAddr0 (off := 1) (T := 29) (by kernel_rfl) rfl) | exact (r_fieldAddr (off := 1) (T := 29) (by kernel_rfl) rfl)) ?_
          refine l_v (by first | exact (r_load_at (i := 0) hs rfl Tryd.underlying29 rfl rfl) | exact (r_load_at (i := 1) hs rfl Tryd.underlying29 rfl rfl) | exact (r_load_at (i := 2) hs rfl Tryd.underlying29 rfl rfl) | exact (r_load_at (i := 3) hs rfl Tryd.underlying29 rfl rfl) | exact (r_load_at (i := 4) hs rfl Tryd.underlying29 rfl rfl) | exact (r_load_at (i := 5) hs rfl Tryd.underlying29 rfl rfl) | exact (r_load_at (i := 6) hs rfl Tryd.underlying29 rfl rfl)) ?_
          refine l_v (by first | exact (r_move (v := iV _) rfl) | exact (r_move rfl)) ?_
          refine l_v (by first | exact (r_move (v := iV _) rfl) | exact (r_move rfl)) ?_
          refine l_v (r_addi rfl rfl (by omega)) ?_
          refine l_v (r_indexAddr_l1 (k := 8 * i + (7 - j)) Tryd.underlying29 I4 rfl (congrArg iV ei) (by omega)) ?_
          refine l_v (r_load Tryd.underlying4 rfl hY2) ?_
          refine l_nil (nrm_then ?_)
          cases htb : bit8 c8 (7 - j)
          · have htn : topB c8 (j + 1) = 2 * topB c8 j := by rw [htn, htb]; simp
            refine c_false rfl (rfl) ?_
            refine c_skip (nrm_block (nrm_then ?_))
            refine c_region ?_
            refine l_v (by first | exact (r_move (v := iV _) rfl) | exact (r_move rfl)) ?_
            refine l_v (r_subi rfl rfl (by omega)) ?_
            refine l_v (by first | exact (r_assign (v := iV _) rfl) | exact (r_assign rfl)) ?_
            refine l_nil (nrm_then ?_)
            refine And.intro (by refine ⟨?_, ?_, ?_, ?_, trivial⟩ <;> ((conv => lhs; whnf); (try conv => rhs; whnf))) ?_
            exact ⟨8 - (j + 1), by omega, j + 1, by omega, congrArg iV (by omega), congrArg u8V htn.symm, hs⟩
          · have htn : topB c8 (j + 1) = 2 * topB c8 j + 1 := by rw [htn, htb]; rfl
            refine c_true rfl (rfl) ?_
            refine c_region ?_
            refine l_v (by first | exact (r_move (v := u8V _) rfl) | exact (r_move rfl)) ?_
            refine l_v (r_add8 (b := 1) rfl rfl) ?_
            refine l_v (by first | exact (r_assign (v := u8V _) rfl) | exact (r_assign rfl)) ?_
            refine l_nil (nrm_block (nrm_then ?_))
            refine c_region ?_
            refine l_v (by first | exact (r_move (v := iV _) rfl) | exact (r_move rfl)) ?_
            refine l_v (r_subi rfl rfl (by omega)) ?_
            refine l_v (by first | exact (r_assign (v := iV _) rfl) | exact (r_assign rfl)) ?_
            refine l_nil (nrm_then ?_)
            refine And.intro (by refine ⟨?_, ?_, ?_, ?_, trivial⟩ <;> ((conv => lhs; whnf); (try conv => rhs; whnf))) ?_
            exact ⟨8 - (j + 1), by omega, j + 1, by omega, congrArg iV (by omega), congrArg u8V htn.symm, hs⟩
        · obtain rfl : j = 8 := by have := of_decide_eq_false h7; omega
          rw [top_all]
          replace h7 := of_decide_eq_false h7
          refine c_exit (ex_then (ex_then (ex_hit (nrm_then ?_))))
          refine c_region ?_
          refine l_v (by first | exact (r_move (v := .slice _ _ _) rfl) | exact (r_move rfl)) ?_
          refine l_v (by first | exact (r_move (v := u8V _) rfl) | exact (r_move rfl)) ?_
          refine l_lit1 [u8V _] hs Tryd.underlying44 I5 rfl (by simp [Value.oneCell']) rfl (by decide) (by decide) ?_
          intro b31 w31 hs hB31 hlt31
          refine l_append_lit Tryd.underlying44 I5 rfl (by decide) rfl rfl hs rfl (by simp [Value.oneCell']) (by omega) (by omega) ?_
          intro v32 w32 hs
          have hs := owb_app hs
          rw [← htk] at hs
          refine l_v (by first | exact (r_assign (v := .slice _ _ _) rfl) | exact (r_assign rfl)) ?_
          refine l_nil (nrm_block (nrm_then ?_))
          refine c_region ?_
          refine l_v (by first | exact (r_move (v := iV _) rfl) | exact (r_move rfl)) ?_
          refine l_v (r_addi rfl rfl (by omega)) ?_
          refine l_v (by first | exact (r_assign (v := iV _) rfl) | exact (r_assign rfl)) ?_
          refine l_nil (nrm_then ?_)
          refine And.intro (by refine ⟨?_, ?_, trivial⟩ <;> ((conv => lhs; whnf); (try conv => rhs; whnf))) ?_
          exact ⟨b.length - (i + 1), by omega, i + 1, _, by omega, congrArg iV (by omega), rfl, hs⟩
    · obtain rfl : i = b.length := by have := of_decide_eq_false h1; omega
      rw [List.take_length] at hs
      obtain ⟨A2, c2, rfl, hc2⟩ := hs.rowForm
      have hbz : (ofL b).size = b.length := rfl
      have hew : encW (h : Int) = enc 64 h := by unfold encW; rw [if_neg (by omega), Int.toNat_natCast]
      have hel := enc_len 64 h (by omega)
      have hel2 := enc_len 64 b.length (by omega)
      have hz1 : (ofL (enc 64 h)).size = (enc 64 h).length := rfl
      have hz3 : (ofL (encT b)).size = (enc 64 b.length).length + b.length := by
        show (encT b).length = _
        unfold encT; rw [List.length_append]
      replace h1 := of_decide_eq_false h1
      refine c_exit (ex_then (ex_then (ex_hit (nrm_then ?_))))
      refine c_seq ?_
      have hs := hs.drew
      refine c_floatG (fun w' => Eng.Sep w w' (owb (.slice A2 b.length c2) b :: blk b1 [iV (h : Int), .slice (some ad) (8 * b.length) c] 31 :: [])) [2] 5 (by kernel_rfl) (by kernel_rfl) (hs) ?_
      show OkG _ _ _ _ _ _ (_ :: _) 0 _ _
      refine g_v (fun wl hbl => by have hs := hbl; first | exact (r_fieldAddr0 (off := 0) (T := 3) (by kernel_rfl) rfl) | exact (r_fieldAddr (off := 0) (T := 3) (by kernel_rfl) rfl)) ?_
      refine g_v (fun wl hbl => by have hs := hbl; first | exact (r_load_at (i := 0) hs rfl Tryd.underlying3 rfl rfl) | exact (r_load_at (i := 1) hs rfl Tryd.underlying3 rfl rfl) | exact (r_load_at (i := 2) hs rfl Tryd.underlying3 rfl rfl) | exact (r_load_at (i := 3) hs rfl Tryd.underlying3 rfl rfl) | exact (r_load_at (i := 4) hs rfl Tryd.underlying3 rfl rfl) | exact (r_load_at (i := 5) hs rfl Tryd.underlying3 rfl rfl) | exact (r_load_at (i := 6) hs rfl Tryd.underlying3 rfl rfl)) ?_
      refine g_call (r_call Tryd.func38 rfl rfl) ?_
      refine Calls.mono (refwhole_c (h : Int) (by omega) w _ _ hs) ?_
      rintro e w_ ⟨rfl, hs⟩
      refine ⟨_, rfl, hs, ?_⟩
      rw [hew]
      refine g_v (fun wl hbl => by have hs := hbl; first | exact (r_move (v := .slice _ _ _) rfl) | exact (r_move rfl)) ?_
      refine g_v (fun wl hbl => by have hs := hbl; exact (r_cv_bs (l := b) Tryd.underlying44 Tryd.underlying5 Tryd.underlying9 rfl hs.rd)) ?_
      refine g_nil ?_
      show OkL _ _ _ _ (_ :: _) _ _
      refine l_call (r_call Tryd.func39 rfl rfl) ?_
      refine Calls.mono (reftext_c (ofL b) (by omega) w _ _ hs) ?_
      rintro e w_ ⟨rfl, hs⟩
      refine ⟨_, rfl, ?_⟩
      rw [Eng.toL_ofL]
      refine l_v (r_adds rfl rfl (by omega)) ?_
      refine l_v (by first | exact (r_assign (v := sV _) rfl) | exact (r_assign rfl)) ?_
      refine l_nil (nrm_then ?_)
      refine c_ret ?_
      show Fin _ _ _ _ _
      refine fin1 rfl ?_
      refine ⟨congrArg Ending.returned (congrArg sV (Eng.toL_inj ?_)), hs.below⟩
      rw [Eng.toL_append]; rfl
theorem rest_nil {l : List UInt8} (h1 : (count l).2.1 ≤ l.length) : ((l.drop (count l).2.1).drop (text (l.drop (count l).2.1)).2.1 ≠ []) ↔ (((count l).2.1 : Int) + ((text (l.drop (count l).2.1)).2.1 : Int) ≠ (l.length : Int)) := by
  have h2 := text_size (l.drop (count l).2.1)
  rw [List.length_drop] at h2
  generalize (text (l.drop (count l).2.1)).2.1 = m at *
  rw [List.drop_drop]
  refine not_congr ?_
  rw [List.drop_eq_nil_iff]
  omega
abbrev rowT (v : Value) (l : List Bool) : HP := RowC 4 1 v l.length (l.map bV)
theorem rowT_app {w0 w : World} {v : Value} {l : List Bool} {x : Bool} {L : List HP} (hs : Eng.Sep w0 w (RowC 4 1 v (l.length + 1) (l.map bV ++ [bV x]) :: L)) : Eng.Sep w0 w (rowT v (l ++ [x]) :: L) := by
  unfold rowT; rw [List.length_append, List.map_append]; exact hs
theorem built_r1 (h : Int) : Program.built Tryd.prog 31 [(0, iV h)] = some [iV h, .slice none 0 0].toArray := by
  refine built_of I31 (places := [(0, 1), (1, 1)]) (by kernel_rfl) (cs := [iV 0, .slice none 0 0]) rfl ?_
  exact fill_step (off := 0) (l := [iV h]) rfl rfl (by simp) rfl
set_option maxHeartbeats 16000000 in
theorem ropen_c (s : ByteArray) (hz : s.size ≤ 100000) (w0 w : World) (R : List HP) (hs : Eng.Sep w0 w R) :
    Calls Tryd.prog 17 #[sV s] w fun e w' => (openE (toL s) ≠ 0 ∧ e = .returned (.tuple #[.agg #[iV 0, .slice none 0 0], iV (openE (toL s))]) ∧ Eng.Sep w0 w' R) ∨
      (openE (toL s) = 0 ∧ ∃ v, e = .returned (.tuple #[.agg #[iV (openH (toL s) : Int), v], iV 0]) ∧ Eng.Sep w0 w' (rowT v (BL (openB (toL s))) :: R)) := by
  have hsl := toL_size s
  have hcs := count_size (toL s)
  have hrn := rest_nil hcs
  have hrt := fun w => readtext_c (cut s (count (toL s)).2.1) (by have := cut_size s (count (toL s)).2.1; omega) w
  have htz := text_le ((toL s).drop (count (toL s)).2.1)
  have htz2 := text_size ((toL s).drop (count (toL s)).2.1)
  rw [List.length_drop] at htz htz2
  unfold openE openB openH
  rw [toL_cut] at hrt
  refine enter (P := Tryd.prog) Tryd.func17 rfl rfl ?_
  refine c_rseq ?_
  refine l_alloc hs I31 ?_
  intro b2 w2 hs hB2 hlt2
  refine l_v (by first | exact (r_assign (v := iV _) rfl) | exact (r_assign rfl)) ?_
  refine l_nil (nrm_then ?_)
  refine c_rseq ?_
  refine l_v (by first | exact (r_move (v := sV _) rfl) | exact (r_move rfl)) ?_
  refine l_call (r_call Tryd.func31 rfl rfl) ?_
  refine Calls.mono (readcount_c s (by omega) _) ?_
  rintro e w_ ⟨rfl, hww⟩
  refine ⟨_, rfl, ?_⟩
  rw [hww]
  generalize count (toL s) = C at *
  generalize text ((toL s).drop C.2.1) = T at *
  refine l_v (r_move rfl) ?_
  refine l_v (r_extract rfl rfl) ?_
  refine l_v (r_extract rfl rfl) ?_
  refine l_v (r_extract rfl rfl) ?_
  refine l_v (by first | exact (r_assign (v := iV _) rfl) | exact (r_assign rfl)) ?_
  refine l_v (by first | exact (r_assign (v := iV _) rfl) | exact (r_assign rfl)) ?_
  refine l_v (by first | exact (r_assign (v := iV _) rfl) | exact (r_assign rfl)) ?_
  refine l_nil (nrm_then ?_)
  refine c_seq ?_
  refine c_rseq ?_
  refine l_v (by first | exact (r_move (v := iV _) rfl) | exact (r_move rfl)) ?_
  refine l_v (r_neqi rfl rfl) ?_
  refine l_nil (nrm_then ?_)
  refine c_cond rfl (fun h1 => ?_) (fun h1 => ?_)
  · rw [if_pos (of_decide_eq_true h1)]
    replace h1 := of_decide_eq_true h1
    refine c_rseq ?_
    refine l_v (r_build (l := []) rfl built_rz) ?_
    refine l_v (by first | exact (r_move (v := iV _) rfl) | exact (r_move rfl)) ?_
    first | refine l_store_whole (i := 0) hs rfl I31 rfl rfl (by first | assumption | (simp; done)) (by first | assumption | (simp; done)) (by first | assumption | simp [Value.oneCell']) ?_ | refine l_store_whole (i := 1) hs rfl I31 rfl rfl (by first | assumption | (simp; done)) (by first | assumption | (simp; done)) (by first | assumption | simp [Value.oneCell']) ?_ | refine l_store_whole (i := 2) hs rfl I31 rfl rfl (by first | assumption | (simp; done)) (by first | assumption | (simp; done)) (by first | assumption | simp [Value.oneCell']) ?_ | refine l_store_whole (i := 3) hs rfl I31 rfl rfl (by first | assumption | (simp; done)) (by first | assumption | (simp; done)) (by first | assumption | simp [Value.oneCell']) ?_ | refine l_store_whole (i := 4) hs rfl I31 rfl rfl (by first | assumption | (simp; done)) (by first | assumption | (simp; done)) (by first | assumption | simp [Value.oneCell']) ?_ | refine l_store_whole (i := 5) hs rfl I31 rfl rfl (by first | assumption | (simp; done)) (by first | assumption | (simp; done)) (by first | assumption | simp [Value.oneCell']) ?_ | refine l_store_whole (i := 6) hs rfl I31 rfl rfl (by first | assumption | (simp; done)) (by first | assumption | (simp; done)) (by first | assumption | simp [Value.oneCell']) ?_
    intro w_ hs
    refine l_v (by first | exact (r_assign (v := iV _) rfl) | exact (r_assign rfl)) ?_
    refine l_nil (nrm_then ?_)
    refine c_ret (ret_then ?_)
    show Fin _ _ _ _ _
    refine fin2c rfl rfl (run_loadVar_agg Tryd.underlying31 rfl I31 rfl (cells_whole (hs.at_ 0).1)) ?_
    exact .inl ⟨h1, rfl, hs.drop⟩
  · rw [if_neg (of_decide_eq_false h1)]
    replace h1 := of_decide_eq_false h1
    refine c_skip (nrm_then ?_)
    refine c_seq ?_
    refine c_rseq ?_
    refine l_v (by first | exact (r_move (v := iV _) rfl) | exact (r_move rfl)) ?_
    refine l_v (r_lssi rfl rfl) ?_
    by_cases h2 : C.1 < 1
    · have f2 : decide (C.1 < 1) = true := decide_eq_true h2
      rw [if_pos (Or.inl h2)]
      refine l_v (by first | exact (r_move (v := bV _) rfl) | exact (r_move rfl)) ?_
      refine l_no rfl (f2) ?_
      refine l_no rfl (f2) ?_
      refine l_v (r_pick_t rfl f2 rfl) ?_
      refine l_nil (nrm_then ?_)
      refine c_true rfl (rfl) ?_
      refine c_rseq ?_
      refine l_v (r_build (l := []) rfl built_rz) ?_
      first | refine l_store_whole (i := 0) hs rfl I31 rfl rfl (by first | assumption | (simp; done)) (by first | assumption | (simp; done)) (by first | assumption | simp [Value.oneCell']) ?_ | refine l_store_whole (i := 1) hs rfl I31 rfl rfl (by first | assumption | (simp; done)) (by first | assumption | (simp; done)) (by first | assumption | simp [Value.oneCell']) ?_ | refine l_store_whole (i := 2) hs rfl I31 rfl rfl (by first | assumption | (simp; done)) (by first | assumption | (simp; done)) (by first | assumption | simp [Value.oneCell']) ?_ | refine l_store_whole (i := 3) hs rfl I31 rfl rfl (by first | assumption | (simp; done)) (by first | assumption | (simp; done)) (by first | assumption | simp [Value.oneCell']) ?_ | refine l_store_whole (i := 4) hs rfl I31 rfl rfl (by first | assumption | (simp; done)) (by first | assumption | (simp; done)) (by first | assumption | simp [Value.oneCell']) ?_ | refine l_store_whole (i := 5) hs rfl I31 rfl rfl (by first | assumption | (simp; done)) (by first | assumption | (simp; done)) (by first | assumption | simp [Value.oneCell']) ?_ | refine l_store_whole (i := 6) hs rfl I31 rfl rfl (by first | assumption | (simp; done)) (by first | assumption | (simp; done)) (by first | assumption | simp [Value.oneCell']) ?_
      intro w_ hs
      refine l_v (by first | exact (r_assign (v := iV _) rfl) | exact (r_assign rfl)) ?_
      refine l_nil (nrm_then ?_)
      refine c_ret (ret_then ?_)
      show Fin _ _ _ _ _
      refine fin2c rfl rfl (run_loadVar_agg Tryd.underlying31 rfl I31 rfl (cells_whole (hs.at_ 0).1)) ?_
      exact .inl ⟨by decide, rfl, hs.drop⟩
    · have f2 : decide (C.1 < 1) = false := decide_eq_false h2
      refine l_v (by first | exact (r_move (v := bV _) rfl) | exact (r_move rfl)) ?_
      refine l_vg (by first | exact (r_move (v := iV _) rfl) | exact (r_move rfl)) rfl (f2) ?_
      refine l_vg (r_gtri rfl rfl) rfl (f2) ?_
      refine l_v (r_pick_f rfl f2 rfl) ?_
      refine l_nil (nrm_then ?_)
      refine c_cond rfl (fun h3 => ?_) (fun h3 => ?_)
      · replace h3 := of_decide_eq_true h3
        refine c_rseq ?_
        refine l_v (r_build (l := []) rfl built_rz) ?_
        first | refine l_store_whole (i := 0) hs rfl I31 rfl rfl (by first | assumption | (simp; done)) (by first | assumption | (simp; done)) (by first | assumption | simp [Value.oneCell']) ?_ | refine l_store_whole (i := 1) hs rfl I31 rfl rfl (by first | assumption | (simp; done)) (by first | assumption | (simp; done)) (by first | assumption | simp [Value.oneCell']) ?_ | refine l_store_whole (i := 2) hs rfl I31 rfl rfl (by first | assumption | (simp; done)) (by first | assumption | (simp; done)) (by first | assumption | simp [Value.oneCell']) ?_ | refine l_store_whole (i := 3) hs rfl I31 rfl rfl (by first | assumption | (simp; done)) (by first | assumption | (simp; done)) (by first | assumption | simp [Value.oneCell']) ?_ | refine l_store_whole (i := 4) hs rfl I31 rfl rfl (by first | assumption | (simp; done)) (by first | assumption | (simp; done)) (by first | assumption | simp [Value.oneCell']) ?_ | refine l_store_whole (i := 5) hs rfl I31 rfl rfl (by first | assumption | (simp; done)) (by first | assumption | (simp; done)) (by first | assumption | simp [Value.oneCell']) ?_ | refine l_store_whole (i := 6) hs rfl I31 rfl rfl (by first | assumption | (simp; done)) (by first | assumption | (simp; done)) (by first | assumption | simp [Value.oneCell']) ?_
        intro w_ hs
        refine l_v (by first | exact (r_assign (v := iV _) rfl) | exact (r_assign rfl)) ?_
        refine l_nil (nrm_then ?_)
        rw [if_pos (Or.inr h3)]
        refine c_ret (ret_then ?_)
        show Fin _ _ _ _ _
        refine fin2c rfl rfl (run_loadVar_agg Tryd.underlying31 rfl I31 rfl (cells_whole (hs.at_ 0).1)) ?_
        exact .inl ⟨by decide, rfl, hs.drop⟩
      · rw [if_neg (fun h => h.elim h2 (of_decide_eq_false h3))]
        replace h3 := of_decide_eq_false h3
        refine c_skip (nrm_then ?_)
        refine c_rseq ?_
        refine l_v (by first | exact (r_move (v := sV _) rfl) | exact (r_move rfl)) ?_
        refine l_v (by first | exact (r_move (v := iV _) rfl) | exact (r_move rfl)) ?_
        refine l_v (r_slice_sl (C.2.1 : Int) Tryd.underlying9 rfl rfl (by omega)) ?_
        rw [Int.toNat_natCast, extract_cut]
        refine l_call (r_call Tryd.func32 rfl rfl) ?_
        refine Calls.mono (hrt _) ?_
        rintro e w_ ⟨rfl, hww2⟩
        refine ⟨_, rfl, ?_⟩
        rw [hww2]
        refine l_v (r_move rfl) ?_
        refine l_v (r_extract rfl rfl) ?_
        refine l_v (r_extract rfl rfl) ?_
        refine l_v (r_extract rfl rfl) ?_
        refine l_v (by first | exact (r_assign (v := sV _) rfl) | exact (r_assign rfl)) ?_
        refine l_v (by first | exact (r_assign (v := iV _) rfl) | exact (r_assign rfl)) ?_
        refine l_v (by first | exact (r_assign (v := iV _) rfl) | exact (r_assign rfl)) ?_
        refine l_nil (nrm_then ?_)
        refine c_seq ?_
        refine c_rseq ?_
        refine l_v (by first | exact (r_move (v := iV _) rfl) | exact (r_move rfl)) ?_
        refine l_v (r_neqi rfl rfl) ?_
        refine l_nil (nrm_then ?_)
        refine c_cond rfl (fun h4 => ?_) (fun h4 => ?_)
        · rw [if_pos (of_decide_eq_true h4)]
          replace h4 := of_decide_eq_true h4
          refine c_rseq ?_
          refine l_v (r_build (l := []) rfl built_rz) ?_
          refine l_v (by first | exact (r_move (v := iV _) rfl) | exact (r_move rfl)) ?_
          first | refine l_store_whole (i := 0) hs rfl I31 rfl rfl (by first | assumption | (simp; done)) (by first | assumption | (simp; done)) (by first | assumption | simp [Value.oneCell']) ?_ | refine l_store_whole (i := 1) hs rfl I31 rfl rfl (by first | assumption | (simp; done)) (by first | assumption | (simp; done)) (by first | assumption | simp [Value.oneCell']) ?_ | refine l_store_whole (i := 2) hs rfl I31 rfl rfl (by first | assumption | (simp; done)) (by first | assumption | (simp; done)) (by first | assumption | simp [Value.oneCell']) ?_ | refine l_store_whole (i := 3) hs rfl I31 rfl rfl (by first | assumption | (simp; done)) (by first | assumption | (simp; done)) (by first | assumption | simp [Value.oneCell']) ?_ | refine l_store_whole (i := 4) hs rfl I31 rfl rfl (by first | assumption | (simp; done)) (by first | assumption | (simp; done)) (by first | assumption | simp [Value.oneCell']) ?_ | refine l_store_whole (i := 5) hs rfl I31 rfl rfl (by first | assumption | (simp; done)) (by first | assumption | (simp; done)) (by first | assumption | simp [Value.oneCell']) ?_ | refine l_store_whole (i := 6) hs rfl I31 rfl rfl (by first | assumption | (simp; done)) (by first | assumption | (simp; done)) (by first | assumption | simp [Value.oneCell']) ?_
          intro w_ hs
          refine l_v (by first | exact (r_assign (v := iV _) rfl) | exact (r_assign rfl)) ?_
          refine l_nil (nrm_then ?_)
          refine c_ret (ret_then ?_)
          show Fin _ _ _ _ _
          refine fin2c rfl rfl (run_loadVar_agg Tryd.underlying31 rfl I31 rfl (cells_whole (hs.at_ 0).1)) ?_
          exact .inl ⟨h4, rfl, hs.drop⟩
        · rw [if_neg (of_decide_eq_false h4)]
          have hTz : (ofL T.1).size = T.1.length := rfl
          replace h4 := of_decide_eq_false h4
          refine c_skip (nrm_then ?_)
          refine c_seq ?_
          refine c_rseq ?_
          refine l_v (by first | exact (r_move (v := sV _) rfl) | exact (r_move rfl)) ?_
          refine l_v (r_eqls rfl rfl) ?_
          by_cases h5 : T.1.length = 0
          · have f5 : decide (ofL T.1 = ByteArray.empty) = true := decide_eq_true (by rw [List.eq_nil_of_length_eq_zero h5]; rfl)
            rw [if_pos (Or.inl h5)]
            refine l_v (by first | exact (r_move (v := bV _) rfl) | exact (r_move rfl)) ?_
            refine l_no rfl (f5) ?_
            refine l_no rfl (f5) ?_
            refine l_no rfl (f5) ?_
            refine l_no rfl (f5) ?_
            refine l_v (r_pick_t rfl f5 rfl) ?_
            refine l_nil (nrm_then ?_)
            refine c_true rfl (rfl) ?_
            refine c_rseq ?_
            refine l_v (r_build (l := []) rfl built_rz) ?_
            first | refine l_store_whole (i := 0) hs rfl I31 rfl rfl (by first | assumption | (simp; done)) (by first | assumption | (simp; done)) (by first | assumption | simp [Value.oneCell']) ?_ | refine l_store_whole (i := 1) hs rfl I31 rfl rfl (by first | assumption | (simp; done)) (by first | assumption | (simp; done)) (by first | assumption | simp [Value.oneCell']) ?_ | refine l_store_whole (i := 2) hs rfl I31 rfl rfl (by first | assumption | (simp; done)) (by first | assumption | (simp; done)) (by first | assumption | simp [Value.oneCell']) ?_ | refine l_store_whole (i := 3) hs rfl I31 rfl rfl (by first | assumption | (simp; done)) (by first | assumption | (simp; done)) (by first | assumption | simp [Value.oneCell']) ?_ | refine l_store_whole (i := 4) hs rfl I31 rfl rfl (by first | assumption | (simp; done)) (by first | assumption | (simp; done)) (by first | assumption | simp [Value.oneCell']) ?_ | refine l_store_whole (i := 5) hs rfl I31 rfl rfl (by first | assumption | (simp; done)) (by first | assumption | (simp; done)) (by first | assumption | simp [Value.oneCell']) ?_ | refine l_store_whole (i := 6) hs rfl I31 rfl rfl (by first | assumption | (simp; done)) (by first | assumption | (simp; done)) (by first | assumption | simp [Value.oneCell']) ?_
            intro w_ hs
            refine l_v (by first | exact (r_assign (v := iV _) rfl) | exact (r_assign rfl)) ?_
            refine l_nil (nrm_then ?_)
            refine c_ret (ret_then ?_)
            show Fin _ _ _ _ _
            refine fin2c rfl rfl (run_loadVar_agg Tryd.underlying31 rfl I31 rfl (cells_whole (hs.at_ 0).1)) ?_
            exact .inl ⟨by decide, rfl, hs.drop⟩
          · have f5 : decide (ofL T.1 = ByteArray.empty) = false := decide_eq_false (fun h => h5 (by rw [← hTz, h]; rfl))
            refine l_v (by first | exact (r_move (v := bV _) rfl) | exact (r_move rfl)) ?_
            refine l_vg (by first | exact (r_move (v := sV _) rfl) | exact (r_move rfl)) rfl (f5) ?_
            refine l_vg (r_len_s Tryd.underlying9 rfl) rfl (f5) ?_
            refine l_vg (r_remi rfl rfl (by omega) (by decide)) rfl (f5) ?_
            refine l_vg (r_neqi rfl rfl) rfl (f5) ?_
            refine l_v (r_pick_f rfl f5 rfl) ?_
            refine l_nil (nrm_then ?_)
            refine c_cond rfl (fun h6 => ?_) (fun h6 => ?_)
            · replace h6 := of_decide_eq_true h6
              refine c_rseq ?_
              refine l_v (r_build (l := []) rfl built_rz) ?_
              first | refine l_store_whole (i := 0) hs rfl I31 rfl rfl (by first | assumption | (simp; done)) (by first | assumption | (simp; done)) (by first | assumption | simp [Value.oneCell']) ?_ | refine l_store_whole (i := 1) hs rfl I31 rfl rfl (by first | assumption | (simp; done)) (by first | assumption | (simp; done)) (by first | assumption | simp [Value.oneCell']) ?_ | refine l_store_whole (i := 2) hs rfl I31 rfl rfl (by first | assumption | (simp; done)) (by first | assumption | (simp; done)) (by first | assumption | simp [Value.oneCell']) ?_ | refine l_store_whole (i := 3) hs rfl I31 rfl rfl (by first | assumption | (simp; done)) (by first | assumption | (simp; done)) (by first | assumption | simp [Value.oneCell']) ?_ | refine l_store_whole (i := 4) hs rfl I31 rfl rfl (by first | assumption | (simp; done)) (by first | assumption | (simp; done)) (by first | assumption | simp [Value.oneCell']) ?_ | refine l_store_whole (i := 5) hs rfl I31 rfl rfl (by first | assumption | (simp; done)) (by first | assumption | (simp; done)) (by first | assumption | simp [Value.oneCell']) ?_ | refine l_store_whole (i := 6) hs rfl I31 rfl rfl (by first | assumption | (simp; done)) (by first | assumption | (simp; done)) (by first | assumption | simp [Value.oneCell']) ?_
              intro w_ hs
              refine l_v (by first | exact (r_assign (v := iV _) rfl) | exact (r_assign rfl)) ?_
              refine l_nil (nrm_then ?_)
              rw [if_pos (Or.inr (by omega))]
              refine c_ret (ret_then ?_)
              show Fin _ _ _ _ _
              refine fin2c rfl rfl (run_loadVar_agg Tryd.underlying31 rfl I31 rfl (cells_whole (hs.at_ 0).1)) ?_
              exact .inl ⟨by decide, rfl, hs.drop⟩
            · have h6' := of_decide_eq_false h6
              rw [if_neg (fun h => h.elim h5 (fun h => h6' (by omega)))]
              replace h6 := of_decide_eq_false h6
              refine c_skip (nrm_then ?_)
              refine c_seq ?_
              refine c_rseq ?_
              refine l_v (by first | exact (r_move (v := iV _) rfl) | exact (r_move rfl)) ?_
              refine l_v (by first | exact (r_move (v := iV _) rfl) | exact (r_move rfl)) ?_
              refine l_v (r_addi rfl rfl (by omega)) ?_
              refine l_v (by first | exact (r_move (v := sV _) rfl) | exact (r_move rfl)) ?_
              refine l_v (r_len_s Tryd.underlying9 rfl) ?_
              refine l_v (r_neqi rfl rfl) ?_
              refine l_nil (nrm_then ?_)
              refine c_cond rfl (fun h7 => ?_) (fun h7 => ?_)
              · rw [if_pos (hrn.2 (by have := of_decide_eq_true h7; omega))]
                replace h7 := of_decide_eq_true h7
                refine c_rseq ?_
                refine l_v (r_build (l := []) rfl built_rz) ?_
                first | refine l_store_whole (i := 0) hs rfl I31 rfl rfl (by first | assumption | (simp; done)) (by first | assumption | (simp; done)) (by first | assumption | simp [Value.oneCell']) ?_ | refine l_store_whole (i := 1) hs rfl I31 rfl rfl (by first | assumption | (simp; done)) (by first | assumption | (simp; done)) (by first | assumption | simp [Value.oneCell']) ?_ | refine l_store_whole (i := 2) hs rfl I31 rfl rfl (by first | assumption | (simp; done)) (by first | assumption | (simp; done)) (by first | assumption | simp [Value.oneCell']) ?_ | refine l_store_whole (i := 3) hs rfl I31 rfl rfl (by first | assumption | (simp; done)) (by first | assumption | (simp; done)) (by first | assumption | simp [Value.oneCell']) ?_ | refine l_store_whole (i := 4) hs rfl I31 rfl rfl (by first | assumption | (simp; done)) (by first | assumption | (simp; done)) (by first | assumption | simp [Value.oneCell']) ?_ | refine l_store_whole (i := 5) hs rfl I31 rfl rfl (by first | assumption | (simp; done)) (by first | assumption | (simp; done)) (by first | assumption | simp [Value.oneCell']) ?_ | refine l_store_whole (i := 6) hs rfl I31 rfl rfl (by first | assumption | (simp; done)) (by first | assumption | (simp; done)) (by first | assumption | simp [Value.oneCell']) ?_
                intro w_ hs
                refine l_v (by first | exact (r_assign (v := iV _) rfl) | exact (r_assign rfl)) ?_
                refine l_nil (nrm_then ?_)
                refine c_ret (ret_then ?_)
                show Fin _ _ _ _ _
                refine fin2c rfl rfl (run_loadVar_agg Tryd.underlying31 rfl I31 rfl (cells_whole (hs.at_ 0).1)) ?_
                exact .inl ⟨by decide, rfl, hs.drop⟩
              · rw [if_neg (fun h => (of_decide_eq_false h7) (by have := hrn.1 h; omega))]
                have eC : C.1 = ((C.1.toNat : Nat) : Int) := by omega
                replace h7 := of_decide_eq_false h7
                refine c_skip (nrm_then ?_)
                refine c_rseq ?_
                refine l_v (by first | exact (r_move (v := iV _) rfl) | exact (r_move rfl)) ?_
                refine l_v (r_build (l := [(0, iV C.1)]) rfl (built_r1 C.1)) ?_
                refine l_alloc hs I31 ?_
                intro b9 w9 hs hB9 hlt9
                first | refine l_store_whole (i := 0) hs rfl I31 rfl rfl (by first | assumption | (simp; done)) (by first | assumption | (simp; done)) (by first | assumption | simp [Value.oneCell']) ?_ | refine l_store_whole (i := 1) hs rfl I31 rfl rfl (by first | assumption | (simp; done)) (by first | assumption | (simp; done)) (by first | assumption | simp [Value.oneCell']) ?_ | refine l_store_whole (i := 2) hs rfl I31 rfl rfl (by first | assumption | (simp; done)) (by first | assumption | (simp; done)) (by first | assumption | simp [Value.oneCell']) ?_ | refine l_store_whole (i := 3) hs rfl I31 rfl rfl (by first | assumption | (simp; done)) (by first | assumption | (simp; done)) (by first | assumption | simp [Value.oneCell']) ?_ | refine l_store_whole (i := 4) hs rfl I31 rfl rfl (by first | assumption | (simp; done)) (by first | assumption | (simp; done)) (by first | assumption | simp [Value.oneCell']) ?_ | refine l_store_whole (i := 5) hs rfl I31 rfl rfl (by first | assumption | (simp; done)) (by first | assumption | (simp; done)) (by first | assumption | simp [Value.oneCell']) ?_ | refine l_store_whole (i := 6) hs rfl I31 rfl rfl (by first | assumption | (simp; done)) (by first | assumption | (simp; done)) (by first | assumption | simp [Value.oneCell']) ?_
                intro w_ hs
                refine l_nil (nrm_then ?_)
                refine c_seq ?_
                refine c_rseq ?_
                refine l_v (by first | exact (r_assign (v := iV _) rfl) | exact (r_assign rfl)) ?_
                refine l_nil (nrm_then ?_)
                refine c_block ?_
                have hs : Eng.Sep w0 w_ (blk b9 [iV C.1, .slice none 0 0] 31 :: blk b2 [iV 0, .slice none 0 0] 31 :: R) := hs
                have hs := (hs.rowNil 4 1).pull 1
                refine c_loopn [2, 3, 7, 9] (fun m f' w' => ∃ (i : Nat) (v : Value), i + m = T.1.length ∧ f' 10 = iV (i : Int) ∧ Eng.Sep w0 w' (blk b9 [iV C.1, v] 31 :: rowT v (BT T.1 (8 * i)) :: blk b2 [iV 0, .slice none 0 0] 31 :: R)) ?_ ?_
                · exact ⟨T.1.length, 0, .slice none 0 0, by omega, rfl, hs⟩
                · rintro m g w_ ⟨i, v, hi, h10, hs⟩
                  refine OkC.env ?_ (fixH (L := [(10, _)]) ⟨h10, trivial⟩)
                  clear h10
                  refine c_seq ?_
                  refine c_rseq ?_
                  refine l_v (by first | exact (r_move (v := iV _) rfl) | exact (r_move rfl)) ?_
                  refine l_v (by first | exact (r_move (v := sV _) rfl) | exact (r_move rfl)) ?_
                  refine l_v (r_len_s Tryd.underlying9 rfl) ?_
                  refine l_v (r_lssi rfl rfl) ?_
                  refine l_nil (nrm_then ?_)
                  refine c_cond rfl (fun h8 => ?_) (fun h8 => ?_)
                  · have hil : i < T.1.length := by have := of_decide_eq_true h8; omega
                    obtain ⟨c8, hci⟩ : ∃ c8, T.1[i]? = some c8 := ⟨T.1[i], List.getElem?_eq_getElem hil⟩
                    replace h8 := of_decide_eq_true h8
                    refine c_skip (nrm_then ?_)
                    refine c_seq ?_
                    refine c_block ?_
                    refine c_rseq ?_
                    refine l_v (by first | exact (r_move (v := sV _) rfl) | exact (r_move rfl)) ?_
                    refine l_v (by first | exact (r_move (v := iV _) rfl) | exact (r_move rfl)) ?_
                    refine l_v (r_index_si Tryd.underlying9 rfl rfl (by omega)) ?_
                    have hat : at8 (ofL T.1) ((i : Int)).toNat = c8 := by
                      rw [Int.toNat_natCast]
                      show T.1.getD i 0 = c8
                      rw [List.getD_eq_getElem?_getD, hci]; rfl
                    rw [hat]
                    refine l_v (by first | exact (r_assign (v := u8V _) rfl) | exact (r_assign rfl)) ?_
                    refine l_nil (nrm_then ?_)
                    refine c_rseq ?_
                    refine l_v (by first | exact (r_assign (v := iV _) rfl) | exact (r_assign rfl)) ?_
                    refine l_nil (nrm_then ?_)
                    refine c_block ?_
                    refine c_loopn [2, 3, 7, 9, 10] (fun m f' w' => ∃ (j : Nat) (v : Value), j + m = 8 ∧ f' 12 = iV (j : Int) ∧ f' 11 = u8V (lowB c8 j) ∧ Eng.Sep w0 w' (blk b9 [iV C.1, v] 31 :: rowT v (BT T.1 (8 * i + j)) :: blk b2 [iV 0, .slice none 0 0] 31 :: R)) ?_ ?_
                    · exact ⟨8, 0, v, rfl, rfl, by rw [low_zero]; rfl, hs⟩
                    · rintro m g w_ ⟨j, v, hj, h12, h11, hs⟩
                      refine OkC.env ?_ (fixH (L := [(12, _), (11, _)]) ⟨h12, h11, trivial⟩)
                      clear h12 h11
                      refine c_seq ?_
                      refine c_rseq ?_
                      refine l_v (by first | exact (r_move (v := iV _) rfl) | exact (r_move rfl)) ?_
                      refine l_v (r_lssi rfl rfl) ?_
                      refine l_nil (nrm_then ?_)
                      refine c_cond rfl (fun h9 => ?_) (fun h9 => ?_)
                      · have hj8 : j < 8 := by have := of_decide_eq_true h9; omega
                        obtain ⟨hl1, hl2⟩ := low_next c8 hj8
                        have hbt := BT_next (b := T.1) (n := 8 * i + j) (by omega)
                        rw [BL_tst hci hj8, ← hl2] at hbt
                        have hbl := BT_len (b := T.1) (n := 8 * i + j) (by omega)
                        replace h9 := of_decide_eq_true h9
                        refine c_skip (nrm_then ?_)
                        refine c_seq ?_
                        refine c_block ?_
                        refine c_rseq ?_
                        refine l_v (by first | exact (r_fieldAddr0 (off := 1) (T := 29) (by kernel_rfl) rfl) | exact (r_fieldAddr (off := 1) (T := 29) (by kernel_rfl) rfl)) ?_
                        refine l_v (by first | exact (r_load_at (i := 0) hs rfl Tryd.underlying29 rfl rfl) | exact (r_load_at (i := 1) hs rfl Tryd.underlying29 rfl rfl) | exact (r_load_at (i := 2) hs rfl Tryd.underlying29 rfl rfl) | exact (r_load_at (i := 3) hs rfl Tryd.underlying29 rfl rfl) | exact (r_load_at (i := 4) hs rfl Tryd.underlying29 rfl rfl) | exact (r_load_at (i := 5) hs rfl Tryd.underlying29 rfl rfl) | exact (r_load_at (i := 6) hs rfl Tryd.underlying29 rfl rfl)) ?_
                        refine l_v (by first | exact (r_move (v := u8V _) rfl) | exact (r_move rfl)) ?_
                        refine l_v (r_rem8 (b := 2) rfl rfl (by first | decide | omega)) ?_
                        refine l_v (r_eql8 (b := 1) rfl rfl) ?_
                        refine l_lit1 [bV _] hs Tryd.underlying29 I4 rfl (by simp [Value.oneCell']) rfl (by decide) (by decide) ?_
                        intro b78 w78 hs hB78 hlt78
                        have hs := (hs.pull 2).pull 1
                        refine l_append_lit Tryd.underlying29 I4 rfl (by decide) rfl rfl hs rfl (by simp [Value.oneCell']) (by rw [hbl]; omega) (by rw [hbl]; omega) ?_
                        intro v79 w79 hs
                        have hs := rowT_app hs
                        rw [← hbt] at hs
                        obtain ⟨A79, c79, rfl, hc79⟩ := hs.rowForm
                        refine l_v (by first | exact (r_fieldAddr0 (off := 1) (T := 29) (by kernel_rfl) rfl) | exact (r_fieldAddr (off := 1) (T := 29) (by kernel_rfl) rfl)) ?_
                        first | refine l_store (i := 0) (v := .slice _ _ _) hs rfl I29 rfl rfl (by first | (simp; done) | (simp; omega) | omega) ?_ | refine l_store (i := 1) (v := .slice _ _ _) hs rfl I29 rfl rfl (by first | (simp; done) | (simp; omega) | omega) ?_ | refine l_store (i := 2) (v := .slice _ _ _) hs rfl I29 rfl rfl (by first | (simp; done) | (simp; omega) | omega) ?_ | refine l_store (i := 3) (v := .slice _ _ _) hs rfl I29 rfl rfl (by first | (simp; done) | (simp; omega) | omega) ?_ | refine l_store (i := 4) (v := .slice _ _ _) hs rfl I29 rfl rfl (by first | (simp; done) | (simp; omega) | omega) ?_ | refine l_store (i := 5) (v := .slice _ _ _) hs rfl I29 rfl rfl (by first | (simp; done) | (simp; omega) | omega) ?_ | refine l_store (i := 6) (v := .slice _ _ _) hs rfl I29 rfl rfl (by first | (simp; done) | (simp; omega) | omega) ?_
                        intro w_ hs
                        refine l_nil (nrm_then ?_)
                        refine c_region ?_
                        refine l_v (by first | exact (r_move (v := u8V _) rfl) | exact (r_move rfl)) ?_
                        refine l_v (r_quo8 (b := 2) rfl rfl (by decide)) ?_
                        refine l_v (by first | exact (r_assign (v := u8V _) rfl) | exact (r_assign rfl)) ?_
                        refine l_nil (nrm_block (nrm_then ?_))
                        refine c_region ?_
                        refine l_v (by first | exact (r_move (v := iV _) rfl) | exact (r_move rfl)) ?_
                        refine l_v (r_addi rfl rfl (by omega)) ?_
                        refine l_v (by first | exact (r_assign (v := iV _) rfl) | exact (r_assign rfl)) ?_
                        refine l_nil (nrm_then ?_)
                        refine And.intro (by refine ⟨?_, ?_, ?_, ?_, ?_, trivial⟩ <;> ((conv => lhs; whnf); (try conv => rhs; whnf))) ?_
                        exact ⟨8 - (j + 1), by omega, j + 1, _, by omega, rfl, congrArg u8V hl1.symm, hs.pull 1⟩
                      · obtain rfl : j = 8 := by have := of_decide_eq_false h9; omega
                        replace h9 := of_decide_eq_false h9
                        refine c_exit (ex_then (ex_then (ex_hit (nrm_block (nrm_then ?_)))))
                        refine c_region ?_
                        refine l_v (by first | exact (r_move (v := iV _) rfl) | exact (r_move rfl)) ?_
                        refine l_v (r_addi rfl rfl (by omega)) ?_
                        refine l_v (by first | exact (r_assign (v := iV _) rfl) | exact (r_assign rfl)) ?_
                        refine l_nil (nrm_then ?_)
                        refine And.intro (by refine ⟨?_, ?_, ?_, ?_, trivial⟩ <;> ((conv => lhs; whnf); (try conv => rhs; whnf))) ?_
                        exact ⟨T.1.length - (i + 1), by omega, i + 1, v, by omega, rfl, hs⟩
                  · obtain rfl : i = T.1.length := by have := of_decide_eq_false h8; omega
                    have hbt : BT T.1 (8 * T.1.length) = BL T.1 := by unfold BT; rw [List.take_of_length_le (by rw [BL_len]; omega)]
                    rw [hbt] at hs
                    obtain ⟨A9, c9, rfl, hc9⟩ := (hs.pull 1).rowForm
                    replace h8 := of_decide_eq_false h8
                    refine c_exit (ex_then (ex_then (ex_hit (nrm_then ?_))))
                    refine c_rseq ?_
                    refine l_v (r_load_whole (i := 0) hs rfl Tryd.underlying31 I31 rfl rfl) ?_
                    refine l_store_whole (i := 2) hs rfl I31 rfl rfl rfl rfl (by simp [Value.oneCell']) ?_
                    intro w8 hs
                    refine l_v (by first | exact (r_assign (v := iV _) rfl) | exact (r_assign rfl)) ?_
                    refine l_nil (nrm_then ?_)
                    refine c_ret ?_
                    show Fin _ _ _ _ _
                    refine fin2c rfl rfl (run_loadVar_agg Tryd.underlying31 rfl I31 rfl (cells_whole (hs.at_ 2).1)) ?_
                    refine .inr ⟨rfl, _, ?_, (hs.drop.pull 1).drop⟩
                    rw [← eC]; rfl
end Go.Proofs.YtbimboibllboeaaDoor.Blm
