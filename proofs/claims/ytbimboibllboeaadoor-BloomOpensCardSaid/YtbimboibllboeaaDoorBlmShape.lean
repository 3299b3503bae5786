/- A filter in memory; the walks of Shape and Pack. -/
import Derived.Test.YtbimboibllboeaaDoorBlmMake
import Derived.Test.YtbimboibllboeaaDoorSixWr
namespace Go.Proofs.YtbimboibllboeaaDoor.Blm
open Go Go.RowKit Go.Proofs.YtbimboibllboeaaDoor.Eng Go.Proofs.YtbimboibllboeaaDoor.Sha Go.Proofs.YtbimboibllboeaaDoor.Six
set_option linter.unusedVariables false
set_option maxRecDepth 100000
/-- A filter that lies here. -/
structure FilAt (w : World) (bf h : Nat) (b : List UInt8) (A : Option Addr) (c : Nat) : Prop where
  h0 : w.cell? ⟨bf, 0, none⟩ = some (iV (h : Int))
  h1 : w.cell? ⟨bf, 1, none⟩ = some (.slice A b.length c)
  rd : Rd w 1 A b.length (b.map u8V)
theorem FilAt.below {w w' : World} {bf h : Nat} {b : List UInt8} {A : Option Addr} {c : Nat} (hf : FilAt w bf h b A c) (hb : Below w.heap.size w w') : FilAt w' bf h b A c :=
  ⟨(hb.cell (World.block_lt_of_cell? w _ hf.h0)).trans hf.h0, (hb.cell (World.block_lt_of_cell? w _ hf.h1)).trans hf.h1, hf.rd.below hb⟩
/-- What makes these bytes readable. -/
def rdH (v : Value) (b : List UInt8) : HP := fun h => ∀ w : World, (∀ k o, h k = some o → w.heap[k]? = some o) → ∃ A c, v = .slice A b.length c ∧ Rd w 1 A b.length (b.map u8V)
theorem rdH_of {w0 w : World} {v : Value} {b : List UInt8} {L : List HP} (hs : Eng.Sep w0 w (rdH v b :: L)) : ∃ A c, v = .slice A b.length c ∧ Rd w 1 A b.length (b.map u8V) := by
  obtain ⟨hb, h, ⟨h1, h2, hd, rfl, hA, hL⟩, hk⟩ := hs
  exact hA w fun k o e => (hk k o (join_left e)).1
def filH (bf h : Nat) (b : List UInt8) : HP := Eng.ex fun v => stars [blk bf [iV (h : Int), v] 46, rdH v b]
theorem fil_open {w0 w : World} {bf h : Nat} {b : List UInt8} {R : List HP} (hs : Eng.Sep w0 w (filH bf h b :: R)) : ∃ v, Eng.Sep w0 w (blk bf [iV (h : Int), v] 46 :: rdH v b :: R) := by
  obtain ⟨v, hs⟩ := hs.ex
  exact ⟨v, hs.unfold⟩
theorem fil_shut {w0 w : World} {bf h : Nat} {b : List UInt8} {v : Value} {R : List HP} (hs : Eng.Sep w0 w (blk bf [iV (h : Int), v] 46 :: rdH v b :: R)) : Eng.Sep w0 w (filH bf h b :: R) :=
  Eng.Sep.inEx (F := fun v => stars [blk bf [iV (h : Int), v] 46, rdH v b]) v (Eng.Sep.fold (M := [_, _]) hs)
theorem fil_at {w0 w : World} {bf h : Nat} {b : List UInt8} {R : List HP} (hs : Eng.Sep w0 w (filH bf h b :: R)) : ∃ A c, FilAt w bf h b A c := by
  obtain ⟨v, hs⟩ := fil_open hs
  obtain ⟨A, c, rfl, hr⟩ := rdH_of (hs.pull 1)
  exact ⟨A, c, (cell_blk hs.get.1).trans rfl, (cell_blk hs.get.1).trans rfl, hr⟩
theorem fil_made {w0 w : World} {bf bb h z : Nat} {b : List UInt8} {T : TypeId} {R : List HP} (hz : b.length = z) (hm : z ≤ 9223372036854775807) (hs : Eng.Sep w0 w (blk bf (filC h bb z) 46 :: blk bb (b.map u8V) T :: R)) : Eng.Sep w0 w (filH bf h b :: R) := by
  subst hz
  refine fil_shut (((hs.pull 1).imp fun hp hA w hk => ⟨some ⟨bb, 0, none⟩, b.length, rfl, rd_blk (T := T) (fr := (0, 0)) (hk bb _ (by rw [hA]; simp [single])) (by simp) hm⟩).pull 1)
def pop8 (c : UInt8) : Nat := ((List.range 8).filter (bit8 c)).length
def onesB (b : List UInt8) : Nat := (b.map pop8).sum
theorem pop_step : ∀ c : UInt8, 0 < c → pop8 c = pop8 (c &&& (c - 1)) + 1 := by
  have h : ∀ n < 256, 0 < UInt8.ofNat n → pop8 (UInt8.ofNat n) = pop8 (UInt8.ofNat n &&& (UInt8.ofNat n - 1)) + 1 := by decide +kernel
  intro c hc
  have := h c.toNat c.toNat_lt
  rw [UInt8.ofNat_toNat] at this
  exact this hc
theorem pop_zero : pop8 0 = 0 := by decide +kernel
theorem pop_le (c : UInt8) : pop8 c ≤ 8 := by unfold pop8; exact Nat.le_trans (List.length_filter_le _ _) (by simp)
theorem ones_le (b : List UInt8) : onesB b ≤ 8 * b.length := by
  unfold onesB
  induction b with
  | nil => simp
  | cons c b ih => have := pop_le c; simp only [List.map_cons, List.sum_cons, List.length_cons]; omega
theorem ones_next {b : List UInt8} {i : Nat} {c : UInt8} (h : b[i]? = some c) : onesB (b.take (i + 1)) = onesB (b.take i) + pop8 c := by
  unfold onesB; rw [List.take_add_one, h, List.map_append, List.sum_append]; simp
set_option maxHeartbeats 4000000 in
theorem shape_c (bf h c : Nat) (A : Option Addr) (b : List UInt8) (w : World) (hz : b.length ≤ 1099511627776) (hf : FilAt w bf h b A c) :
    Calls Tryd.prog 14 #[.pointer (some ⟨bf, 0, none⟩)] w fun e w' => e = .returned (.tuple #[iV ((8 * b.length : Nat) : Int), iV ((onesB b : Nat) : Int), iV (h : Int)]) ∧ Below w.heap.size w w' := by
  have h1 := hf.h1
  have h0 := hf.h0
  refine enter (P := Tryd.prog) Tryd.func14 rfl rfl ?_
  have hs := Eng.Sep.init w
  refine c_rseq ?_
  refine l_v (by first | exact (r_assign (v := iV _) rfl) | exact (r_assign rfl)) ?_
  refine l_v (by first | exact (r_assign (v := iV _) rfl) | exact (r_assign rfl)) ?_
  refine l_v (by first | exact (r_assign (v := iV _) rfl) | exact (r_assign rfl)) ?_
  refine l_nil (nrm_then ?_)
  refine c_seq ?_
  refine c_rseq ?_
  refine l_v (r_move (v := .pointer _) rfl) ?_
  refine l_v (by first | exact (r_eqlp_some Tryd.underlying25 rfl rfl) | exact (r_eqlp_none Tryd.underlying25 rfl rfl)) ?_
  refine l_nil (nrm_then ?_)
  refine c_false rfl (rfl) ?_
  refine c_skip (nrm_then ?_)
  refine c_seq ?_
  refine c_rseq ?_
  refine l_v (r_move (v := .pointer _) rfl) ?_
  refine l_v (by first | exact (r_nilCheck_p rfl) | exact (r_nilCheck_f rfl)) ?_
  refine l_v (by first | exact (r_fieldAddr0 (off := 1) (T := 44) (by kernel_rfl) rfl) | exact (r_fieldAddr (off := 1) (T := 44) (by kernel_rfl) rfl)) ?_
  refine l_v (r_load Tryd.underlying44 rfl h1) ?_
  refine l_v (r_len_l Tryd.underlying44 rfl) ?_
  refine l_v (by first | exact (r_move (v := iV _) rfl) | exact (r_move rfl)) ?_
  refine l_nil (nrm_then ?_)
  refine c_block ?_
  refine c_loopn [0, 2, 4, 12, 13] (fun m f' w' => ∃ i : Nat, i + m = b.length ∧ f' 14 = iV (i : Int) ∧ f' 3 = iV ((onesB (b.take i) : Nat) : Int) ∧ w' = w) ?_ ?_
  · exact ⟨b.length, 0, by omega, rfl, rfl, rfl⟩
  · rintro m g w_ ⟨i, hi, h14, h3, hw⟩
    subst hw
    refine OkC.env ?_ (fixH (L := [(14, _), (3, _)]) ⟨h14, h3, trivial⟩)
    clear h14 h3
    refine c_rseq ?_
    refine l_v (r_lssi rfl rfl) ?_
    refine l_nil (nrm_then ?_)
    refine c_seq ?_
    refine c_cond rfl (fun h4 => ?_) (fun h4 => ?_)
    · have hil : i < b.length := by have := of_decide_eq_true h4; omega
      obtain ⟨ad, rfl, hcell⟩ := hf.rd.ad (by omega)
      have hci : b[i]? = some b[i] := List.getElem?_eq_getElem hil
      have hon := ones_next hci
      have hcc := hcell i (u8V b[i]) (by rw [List.getElem?_map, hci]; rfl)
      have hol := ones_le (b.take i)
      have hpl := pop_le b[i]
      rw [List.length_take] at hol
      generalize b[i] = c8 at *
      replace h4 := of_decide_eq_true h4
      refine c_skip (nrm_then ?_)
      refine c_seq ?_
      refine c_block ?_
      refine c_rseq ?_
      refine l_v (r_indexAddr_l1 (k := i) Tryd.underlying44 I5 rfl rfl hil) ?_
      refine l_v (r_load Tryd.underlying5 rfl hcc) ?_
      refine l_v (by first | exact (r_assign (v := u8V _) rfl) | exact (r_assign rfl)) ?_
      refine l_nil (nrm_then ?_)
      refine c_block ?_
      refine c_loopn [0, 2, 4, 12, 13, 14] (fun m f' w' => ∃ (c' : UInt8) (x : Nat), m = pop8 c' ∧ f' 6 = u8V c' ∧ x + pop8 c' = onesB (b.take i) + pop8 c8 ∧ f' 3 = iV (x : Int) ∧ w' = w_) ?_ ?_
      · exact ⟨pop8 c8, c8, _, rfl, rfl, rfl, rfl, rfl⟩
      · rintro m g w_ ⟨c', x, hm, h6, hx, h3, hw⟩
        subst hw
        refine OkC.env ?_ (fixH (L := [(6, _), (3, _)]) ⟨h6, h3, trivial⟩)
        clear h6 h3
        refine c_seq ?_
        refine c_rseq ?_
        refine l_v (by first | exact (r_move (v := u8V _) rfl) | exact (r_move rfl)) ?_
        refine l_v (r_gtr8 (b := 0) rfl rfl) ?_
        refine l_nil (nrm_then ?_)
        refine c_cond rfl (fun h5 => ?_) (fun h5 => ?_)
        · have hst := pop_step c' (of_decide_eq_true h5)
          replace h5 := of_decide_eq_true h5
          refine c_skip (nrm_then ?_)
          refine c_seq ?_
          refine c_block ?_
          refine c_region ?_
          refine l_v (by first | exact (r_move (v := iV _) rfl) | exact (r_move rfl)) ?_
          refine l_v (r_addi rfl rfl (by omega)) ?_
          refine l_v (by first | exact (r_assign (v := iV _) rfl) | exact (r_assign rfl)) ?_
          refine l_nil (nrm_block (nrm_then ?_))
          refine c_region ?_
          refine l_v (by first | exact (r_move (v := u8V _) rfl) | exact (r_move rfl)) ?_
          refine l_v (by first | exact (r_move (v := u8V _) rfl) | exact (r_move rfl)) ?_
          refine l_v (r_sub8 (b := 1) rfl rfl) ?_
          refine l_v (r_and8 rfl rfl) ?_
          refine l_v (by first | exact (r_assign (v := u8V _) rfl) | exact (r_assign rfl)) ?_
          refine l_nil (nrm_then ?_)
          refine And.intro (by refine ⟨?_, ?_, ?_, ?_, ?_, ?_, trivial⟩ <;> ((conv => lhs; whnf); (try conv => rhs; whnf))) ?_
          exact ⟨_, by omega, _, x + 1, rfl, rfl, by omega, rfl, rfl⟩
        · have hc0 : c' = 0 := by
            have h := of_decide_eq_false h5
            have h : ¬ (0 : UInt8) < c' := h
            rw [UInt8.lt_iff_toNat_lt] at h
            apply UInt8.toNat_inj.1
            show c'.toNat = 0
            have : (0 : UInt8).toNat = 0 := rfl
            omega
          rw [hc0, pop_zero, Nat.add_zero, ← hon] at hx
          replace h5 := of_decide_eq_false h5
          refine c_exit (ex_then (ex_then (ex_hit (nrm_block (nrm_then ?_)))))
          refine c_region ?_
          refine l_v (r_addi rfl rfl (by omega)) ?_
          refine l_v (by first | exact (r_move (v := iV _) rfl) | exact (r_move rfl)) ?_
          refine l_nil (nrm_then ?_)
          refine And.intro (by refine ⟨?_, ?_, ?_, ?_, ?_, trivial⟩ <;> ((conv => lhs; whnf); (try conv => rhs; whnf))) ?_
          exact ⟨b.length - (i + 1), by omega, i + 1, by omega, rfl, congrArg (fun n : Nat => iV (n : Int)) hx, rfl⟩
    · obtain rfl : i = b.length := by have := of_decide_eq_false h4; omega
      rw [List.take_length]
      have e8 : (8 : Int) * ((b.length : Nat) : Int) = ((8 * b.length : Nat) : Int) := by omega
      replace h4 := of_decide_eq_false h4
      refine c_exit (ex_then (ex_then (ex_hit (nrm_then ?_))))
      refine c_seq ?_
      refine c_still (by kernel_rfl) (by kernel_rfl) ?_
      have hs := hs.drew
      refine s_v (r_move (v := .pointer _) rfl) ?_
      refine s_v (by first | exact (r_nilCheck_p rfl) | exact (r_nilCheck_f rfl)) ?_
      refine s_v (by first | exact (r_fieldAddr0 (off := 1) (T := 44) (by kernel_rfl) rfl) | exact (r_fieldAddr (off := 1) (T := 44) (by kernel_rfl) rfl)) ?_
      refine s_v (r_load Tryd.underlying44 rfl h1) ?_
      refine s_v (r_len_l Tryd.underlying44 rfl) ?_
      refine s_v (r_muli rfl rfl (by omega)) ?_
      refine s_v (by first | exact (r_move (v := iV _) rfl) | exact (r_move rfl)) ?_
      refine s_v (r_move (v := .pointer _) rfl) ?_
      refine s_v (by first | exact (r_nilCheck_p rfl) | exact (r_nilCheck_f rfl)) ?_
      refine s_v (by first | exact (r_fieldAddr0 (off := 0) (T := 3) (by kernel_rfl) rfl) | exact (r_fieldAddr (off := 0) (T := 3) (by kernel_rfl) rfl)) ?_
      refine s_v (r_load Tryd.underlying3 rfl h0) ?_
      refine s_v (by first | exact (r_assign (v := iV _) rfl) | exact (r_assign rfl)) ?_
      refine s_v (by first | exact (r_assign (v := iV _) rfl) | exact (r_assign rfl)) ?_
      refine s_v (by first | exact (r_assign (v := iV _) rfl) | exact (r_assign rfl)) ?_
      refine s_nil (nrm_then ?_)
      refine c_ret ?_
      show Fin _ _ _ _ _
      refine fin3 rfl ?_
      rw [e8]
      exact ⟨rfl, (Below.refl _ _).drew⟩
end Go.Proofs.YtbimboibllboeaaDoor.Blm
