/- The walks of the document's filter: bits, Has, Ones. -/
import Derived.Test.YtbimboibllboeaaDoorBlmRefFn
import Derived.Test.YtbimboibllboeaaDoorShaRef
import Derived.Test.YtbimboibllboeaaDoorFloatC
namespace Go.Proofs.YtbimboibllboeaaDoor.Blm
open Go Go.RowKit Go.Proofs.YtbimboibllboeaaDoor.Eng Go.Proofs.YtbimboibllboeaaDoor.Sha Go.Proofs.YtbimboibllboeaaDoor.Six
set_option linter.unusedVariables false
set_option maxRecDepth 100000
abbrev rowN (v : Value) (l : List Nat) : HP := RowC 3 1 v l.length (l.map fun n : Nat => iV (n : Int))
theorem rowN_app {w0 w : World} {v : Value} {l : List Nat} {n : Nat} {L : List HP} (hs : Eng.Sep w0 w (RowC 3 1 v (l.length + 1) ((l.map fun n : Nat => iV (n : Int)) ++ [iV (n : Int)]) :: L)) : Eng.Sep w0 w (rowN v (l ++ [n]) :: L) := by
  unfold rowN; rw [List.length_append, List.map_append]; exact hs
abbrev bvs (b : List UInt8) : List Value := (BL b).map bV
theorem bvs_get {b : List UInt8} {m : Nat} (h : m < 8 * b.length) : (bvs b)[m]? = some (bV (tstB b m)) := by unfold bvs; rw [List.getElem?_map, BL_get h]; rfl
theorem bvs_len (b : List UInt8) : (bvs b).length = 8 * b.length := by unfold bvs; rw [List.length_map, BL_len]
/-- The document's filter, as a value. -/
abbrev rfV (h : Nat) (A : Option Addr) (n c : Nat) : Value := .agg #[iV (h : Int), .slice A n c]
theorem places_next (key : List UInt8) (z : Nat) (i : Nat) : places key z (i + 1) = places key z i ++ [place key z i] := by
  unfold places; rw [List.range_succ, List.map_append]; rfl
set_option maxHeartbeats 8000000 in
theorem rbits_c (h z c : Nat) (A : Option Addr) (key : ByteArray) (hk : key.size ≤ 1000000) (hh : h ≤ 8) (hz : 0 < z) (hz2 : z ≤ 1099511627776) (w0 w : World) (R : List HP) (hs : Eng.Sep w0 w R) :
    Calls Tryd.prog 19 #[rfV h A (8 * z) c, sV key] w fun e w' => ∃ v, e = .returned v ∧ Eng.Sep w0 w' (rowN v (places (toL key) z h) :: R) := by
  have hdl := digest_length (toL key)
  have hone : ∀ v ∈ (digest (toL key)).map u8V, v.oneCell' = true := one_map (fun _ => rfl) _
  refine enter (P := Tryd.prog) Tryd.func19 rfl rfl ?_
  refine c_rseq ?_
  refine l_box hs rfl ?_
  intro b2 w2 hs hB2 hlt2
  refine l_v (by first | exact (r_assign (v := .slice _ _ _) rfl) | exact (r_assign rfl)) ?_
  refine l_nil (nrm_then ?_)
  refine c_rseq ?_
  refine l_v (by first | exact (r_move (v := sV _) rfl) | exact (r_move rfl)) ?_
  refine l_call (r_call Tryd.func36 rfl rfl) ?_
  refine Calls.mono (refsum_c key hk _) ?_
  rintro e w_ ⟨rfl, hb⟩
  refine ⟨_, rfl, ?_⟩
  have hs := hs.below_ hb
  refine l_alloc hs I68 ?_
  intro b5 w5 hs hB5 hlt5
  first | refine l_store_whole (i := 0) hs rfl I68 rfl rfl (by first | assumption | (simp; done)) (by first | assumption | (simp; done)) (by first | assumption | simp [Value.oneCell']) ?_ | refine l_store_whole (i := 1) hs rfl I68 rfl rfl (by first | assumption | (simp; done)) (by first | assumption | (simp; done)) (by first | assumption | simp [Value.oneCell']) ?_ | refine l_store_whole (i := 2) hs rfl I68 rfl rfl (by first | assumption | (simp; done)) (by first | assumption | (simp; done)) (by first | assumption | simp [Value.oneCell']) ?_ | refine l_store_whole (i := 3) hs rfl I68 rfl rfl (by first | assumption | (simp; done)) (by first | assumption | (simp; done)) (by first | assumption | simp [Value.oneCell']) ?_ | refine l_store_whole (i := 4) hs rfl I68 rfl rfl (by first | assumption | (simp; done)) (by first | assumption | (simp; done)) (by first | assumption | simp [Value.oneCell']) ?_ | refine l_store_whole (i := 5) hs rfl I68 rfl rfl (by first | assumption | (simp; done)) (by first | assumption | (simp; done)) (by first | assumption | simp [Value.oneCell']) ?_ | refine l_store_whole (i := 6) hs rfl I68 rfl rfl (by first | assumption | (simp; done)) (by first | assumption | (simp; done)) (by first | assumption | simp [Value.oneCell']) ?_
  intro w_ hs
  refine l_nil (nrm_then ?_)
  refine c_rseq ?_
  refine l_v (by first | exact (r_assign (v := .slice _ _ _) rfl) | exact (r_assign rfl)) ?_
  refine l_nil (nrm_then ?_)
  refine c_seq ?_
  refine c_rseq ?_
  refine l_v (by first | exact (r_assign (v := iV _) rfl) | exact (r_assign rfl)) ?_
  refine l_nil (nrm_then ?_)
  refine c_block ?_
  have hs : Eng.Sep w0 w_ (blk b5 ((digest (toL key)).map u8V) 68 :: blk b2 [iV (h : Int), .slice A (8 * z) c] 31 :: R) := hs
  have hs := hs.rowNil 3 1
  refine c_loopn [2, 4, 5] (fun m f' w' => ∃ (i : Nat) (v : Value), i + m = h ∧ f' 7 = iV (i : Int) ∧ f' 6 = v ∧ Eng.Sep w0 w' (rowN v (places (toL key) z i) :: blk b5 ((digest (toL key)).map u8V) 68 :: blk b2 [iV (h : Int), .slice A (8 * z) c] 31 :: R)) ?_ ?_
  · exact ⟨h, 0, .slice none 0 0, by omega, rfl, rfl, hs⟩
  · rintro m g w_ ⟨i, v, hi, h7, h6, hs⟩
    refine OkC.env ?_ (fixH (L := [(7, _), (6, _)]) ⟨h7, h6, trivial⟩)
    clear h7 h6
    refine c_seq ?_
    refine c_rseq ?_
    refine l_v (by first | exact (r_move (v := iV _) rfl) | exact (r_move rfl)) ?_
    refine l_v (by first | exact (r_fieldAddr0 (off := 0) (T := 3) (by kernel_rfl) rfl) | exact (r_fieldAddr (off := 0) (T := 3) (by kernel_rfl) rfl)) ?_
    refine l_v (by first | exact (r_load_at (i := 0) hs rfl Tryd.underlying3 rfl rfl) | exact (r_load_at (i := 1) hs rfl Tryd.underlying3 rfl rfl) | exact (r_load_at (i := 2) hs rfl Tryd.underlying3 rfl rfl) | exact (r_load_at (i := 3) hs rfl Tryd.underlying3 rfl rfl) | exact (r_load_at (i := 4) hs rfl Tryd.underlying3 rfl rfl) | exact (r_load_at (i := 5) hs rfl Tryd.underlying3 rfl rfl) | exact (r_load_at (i := 6) hs rfl Tryd.underlying3 rfl rfl)) ?_
    refine l_v (r_lssi rfl rfl) ?_
    refine l_nil (nrm_then ?_)
    refine c_cond rfl (fun h1 => ?_) (fun h1 => ?_)
    · replace h1 := of_decide_eq_true h1
      refine c_skip (nrm_then ?_)
      refine c_seq ?_
      refine c_block ?_
      have hil : i < h := by omega
      have hplt := place_lt (toL key) hz i
      have hpe : ((wordAt (digest (toL key)) ((i : Int) % 8).toNat).toNat : Int) % ((8 * z : Nat) : Int) = (place (toL key) z i : Int) := by
        rw [show ((i : Int) % 8).toNat = i by omega]; unfold place; omega
      have hs := hs.drew
      refine c_floatG (fun w' => Eng.Sep w0 w' (rowN v (places (toL key) z i) :: blk b5 ((digest (toL key)).map u8V) 68 :: blk b2 [iV (h : Int), .slice A (8 * z) c] 31 :: R)) [9, 3] 10 (by kernel_rfl) (by kernel_rfl) (hs) ?_
      show OkG _ _ _ _ _ _ (_ :: _) 0 _ _
      refine g_v (fun wl hbl => by have hs := hbl; first | exact (r_move (v := .slice _ _ _) rfl) | exact (r_move rfl)) ?_
      refine g_v (fun wl hbl => by have hs := hbl; exact (r_load_whole (i := 1) hs rfl Tryd.underlying68 I68 rfl (by rw [List.length_map]; exact hdl))) ?_
      refine g_v (fun wl hbl => by have hs := hbl; first | exact (r_move (v := iV _) rfl) | exact (r_move rfl)) ?_
      refine g_call (r_call Tryd.func37 rfl rfl) ?_
      refine Calls.mono (refword_c (digest (toL key)) hdl (i : Int) _) ?_
      rintro e w_ ⟨rfl, hb⟩
      refine ⟨_, rfl, hs.below_ hb, ?_⟩
      have hs := hs.below_ hb
      refine g_v (fun wl hbl => by have hs := hbl; exact (r_cv_32i Tryd.underlying71 Tryd.underlying3 rfl)) ?_
      refine g_v (fun wl hbl => by have hs := hbl; first | exact (r_fieldAddr0 (off := 1) (T := 29) (by kernel_rfl) rfl) | exact (r_fieldAddr (off := 1) (T := 29) (by kernel_rfl) rfl)) ?_
      refine g_v (fun wl hbl => by have hs := hbl; first | exact (r_load_at (i := 0) hs rfl Tryd.underlying29 rfl rfl) | exact (r_load_at (i := 1) hs rfl Tryd.underlying29 rfl rfl) | exact (r_load_at (i := 2) hs rfl Tryd.underlying29 rfl rfl) | exact (r_load_at (i := 3) hs rfl Tryd.underlying29 rfl rfl) | exact (r_load_at (i := 4) hs rfl Tryd.underlying29 rfl rfl) | exact (r_load_at (i := 5) hs rfl Tryd.underlying29 rfl rfl) | exact (r_load_at (i := 6) hs rfl Tryd.underlying29 rfl rfl)) ?_
      refine g_v (fun wl hbl => by have hs := hbl; exact (r_len_l Tryd.underlying29 rfl)) ?_
      refine g_v (fun wl hbl => by have hs := hbl; exact (r_remi rfl rfl (by omega) (by omega))) ?_
      rw [hpe]
      refine g_lit1 [iV (place (toL key) z i : Int)] hs Tryd.underlying49 I3 rfl (by simp [Value.oneCell']) rfl (by decide) (by decide) ?_
      intro b25 w25 hs
      refine ⟨hs.drop, ?_⟩
      refine g_nil ?_
      show OkL _ _ _ _ (_ :: _) _ _
      refine l_append_lit Tryd.underlying49 I3 rfl (by decide) rfl rfl hs rfl (by simp [Value.oneCell']) (by rw [place_len]; omega) (by rw [place_len]; omega) ?_
      intro v26 w26 hs
      have hs := rowN_app hs
      rw [← places_next] at hs
      refine l_v (by first | exact (r_assign (v := .slice _ _ _) rfl) | exact (r_assign rfl)) ?_
      refine l_nil (nrm_block (nrm_then ?_))
      refine c_region ?_
      refine l_v (by first | exact (r_move (v := iV _) rfl) | exact (r_move rfl)) ?_
      refine l_v (r_addi rfl rfl (by omega)) ?_
      refine l_v (by first | exact (r_assign (v := iV _) rfl) | exact (r_assign rfl)) ?_
      refine l_nil (nrm_then ?_)
      refine And.intro (by refine ⟨?_, ?_, ?_, trivial⟩ <;> ((conv => lhs; whnf); (try conv => rhs; whnf))) ?_
      exact ⟨h - (i + 1), by omega, i + 1, _, by omega, rfl, rfl, hs⟩
    · obtain rfl : i = h := by have := of_decide_eq_false h1; omega
      replace h1 := of_decide_eq_false h1
      refine c_exit (ex_then (ex_then (ex_hit (nrm_then ?_))))
      refine c_rseq ?_
      refine l_v (by first | exact (r_move (v := .slice _ _ _) rfl) | exact (r_move rfl)) ?_
      refine l_v (by first | exact (r_assign (v := .slice _ _ _) rfl) | exact (r_assign rfl)) ?_
      refine l_nil (nrm_then ?_)
      refine c_ret ?_
      show Fin _ _ _ _ _
      refine fin1 rfl ?_
      exact ⟨_, rfl, (hs.pull 1).drop.pull 1 |>.drop⟩
set_option maxHeartbeats 8000000 in
theorem rhas_c (h c : Nat) (A : Option Addr) (b : List UInt8) (key : ByteArray) (hk : key.size ≤ 1000000) (hh : h ≤ 8) (hz : 0 < b.length) (hz2 : b.length ≤ 1099511627776) (w : World) (hr : Rd w 1 A (8 * b.length) (bvs b)) :
    Calls Tryd.prog 22 #[rfV h A (8 * b.length) c, sV key] w fun e w' => e = .returned (bV (hasB h b (toL key))) ∧ Below w.heap.size w w' := by
  refine enter (P := Tryd.prog) Tryd.func22 rfl rfl ?_
  have hs := Eng.Sep.init w
  refine c_rseq ?_
  refine l_box hs rfl ?_
  intro b2 w2 hs hB2 hlt2
  refine l_v (by first | exact (r_assign (v := bV _) rfl) | exact (r_assign rfl)) ?_
  refine l_nil (nrm_then ?_)
  refine c_rseq ?_
  refine l_v (by first | exact (r_load_whole (i := 0) hs rfl Tryd.underlying31 I31 rfl (by first | assumption | (simp; done))) | exact (r_load_whole (i := 1) hs rfl Tryd.underlying31 I31 rfl (by first | assumption | (simp; done))) | exact (r_load_whole (i := 2) hs rfl Tryd.underlying31 I31 rfl (by first | assumption | (simp; done))) | exact (r_load_whole (i := 3) hs rfl Tryd.underlying31 I31 rfl (by first | assumption | (simp; done))) | exact (r_load_whole (i := 4) hs rfl Tryd.underlying31 I31 rfl (by first | assumption | (simp; done))) | exact (r_load_whole (i := 5) hs rfl Tryd.underlying31 I31 rfl (by first | assumption | (simp; done))) | exact (r_load_whole (i := 6) hs rfl Tryd.underlying31 I31 rfl (by first | assumption | (simp; done)))) ?_
  refine l_v (by first | exact (r_move (v := sV _) rfl) | exact (r_move rfl)) ?_
  refine l_call (r_call Tryd.func19 rfl rfl) ?_
  refine Calls.mono (rbits_c h b.length c A key hk hh hz hz2 w _ _ hs) ?_
  rintro e w_ ⟨v, rfl, hs⟩
  refine ⟨_, rfl, ?_⟩
  obtain ⟨A2, c2, rfl, hc2⟩ := hs.rowForm
  have hpl := place_len (toL key) b.length h
  unfold rowN at hs
  rw [hpl] at hs hc2 ⊢
  have hs : Eng.Sep w w_ (RowC 3 1 (.slice A2 h c2) h ((places (toL key) b.length h).map fun n : Nat => iV (n : Int)) :: blk b2 [iV (h : Int), .slice A (8 * b.length) c] 31 :: []) := hs
  obtain ⟨ad, rfl, hcell⟩ := hr.ad (by omega)
  refine l_v (by first | exact (r_assign (v := .slice _ _ _) rfl) | exact (r_assign rfl)) ?_
  refine l_nil (nrm_then ?_)
  refine c_seq ?_
  refine c_rseq ?_
  refine l_v (by first | exact (r_assign (v := iV _) rfl) | exact (r_assign rfl)) ?_
  refine l_nil (nrm_then ?_)
  refine c_block ?_
  refine c_loopn [2, 5] (fun m f' w' => ∃ i : Nat, i + m = h ∧ f' 6 = iV (i : Int) ∧ allTo b (toL key) i ∧ Eng.Sep w w' (RowC 3 1 (.slice A2 h c2) h ((places (toL key) b.length h).map fun n : Nat => iV (n : Int)) :: blk b2 [iV (h : Int), .slice (some ad) (8 * b.length) c] 31 :: [])) ?_ ?_
  · exact ⟨h, 0, by omega, rfl, fun j hj => by omega, hs⟩
  · rintro m g w_ ⟨i, hi, h6, hall, hs⟩
    refine OkC.env ?_ (fixH (L := [(6, _)]) ⟨h6, trivial⟩)
    clear h6
    refine c_seq ?_
    refine c_rseq ?_
    refine l_v (by first | exact (r_move (v := iV _) rfl) | exact (r_move rfl)) ?_
    refine l_v (by first | exact (r_move (v := .slice _ _ _) rfl) | exact (r_move rfl)) ?_
    refine l_v (r_len_l Tryd.underlying49 rfl) ?_
    refine l_v (r_lssi rfl rfl) ?_
    refine l_nil (nrm_then ?_)
    refine c_cond rfl (fun h1 => ?_) (fun h1 => ?_)
    · replace h1 := of_decide_eq_true h1
      refine c_skip (nrm_then ?_)
      refine c_seq ?_
      refine c_block ?_
      refine c_seq ?_
      have hil : i < h := by omega
      have hplt := place_lt (toL key) hz i
      have hpg := place_get (toL key) b.length hil
      obtain ⟨ad2, rfl, hcell2⟩ := hs.rd.ad (by omega)
      have hX := hcell2 i (iV (place (toL key) b.length i : Int)) (by rw [List.getElem?_map, hpg]; rfl)
      have hY := hcell _ _ (bvs_get hplt)
      have hY2 := (hs.below.cell (World.block_lt_of_cell? w _ hY)).trans hY
      generalize hpn : place (toL key) b.length i = n at *
      refine c_still (by kernel_rfl) (by kernel_rfl) ?_
      have hs := hs.drew
      refine s_v (by first | exact (r_fieldAddr0 (off := 1) (T := 29) (by kernel_rfl) rfl) | exact (r_fieldAddr (off := 1) (T := 29) (by kernel_rfl) rfl)) ?_
      refine s_v (by first | exact (r_load_at (i := 0) hs rfl Tryd.underlying29 rfl rfl) | exact (r_load_at (i := 1) hs rfl Tryd.underlying29 rfl rfl) | exact (r_load_at (i := 2) hs rfl Tryd.underlying29 rfl rfl) | exact (r_load_at (i := 3) hs rfl Tryd.underlying29 rfl rfl) | exact (r_load_at (i := 4) hs rfl Tryd.underlying29 rfl rfl) | exact (r_load_at (i := 5) hs rfl Tryd.underlying29 rfl rfl) | exact (r_load_at (i := 6) hs rfl Tryd.underlying29 rfl rfl)) ?_
      refine s_v (by first | exact (r_move (v := .slice _ _ _) rfl) | exact (r_move rfl)) ?_
      refine s_v (by first | exact (r_move (v := iV _) rfl) | exact (r_move rfl)) ?_
      refine s_v (r_indexAddr_l1 (k := i) Tryd.underlying49 I3 rfl rfl hil) ?_
      refine s_v (r_load Tryd.underlying3 rfl hX) ?_
      refine s_v (r_indexAddr_l1 (k := n) Tryd.underlying29 I4 rfl rfl hplt) ?_
      refine s_v (r_load Tryd.underlying4 rfl hY2) ?_
      refine s_v (r_not rfl) ?_
      refine s_nil (nrm_then ?_)
      cases htb : tstB b n
      · skip
        refine c_true rfl (rfl) ?_
        refine c_rseq ?_
        refine l_v (by first | exact (r_assign (v := bV _) rfl) | exact (r_assign rfl)) ?_
        refine l_nil (nrm_then ?_)
        refine c_ret (ret_block (ret_then (ret_then (ret_block (ret_then ?_)))))
        show Fin _ _ _ _ _
        refine fin1 rfl ?_
        exact ⟨by rw [not_has hil (by rw [hpn]; exact htb)]; rfl, hs.below⟩
      · skip
        refine c_false rfl (rfl) ?_
        refine c_skip (nrm_block (nrm_then ?_))
        refine c_region ?_
        refine l_v (by first | exact (r_move (v := iV _) rfl) | exact (r_move rfl)) ?_
        refine l_v (r_addi rfl rfl (by omega)) ?_
        refine l_v (by first | exact (r_assign (v := iV _) rfl) | exact (r_assign rfl)) ?_
        refine l_nil (nrm_then ?_)
        refine And.intro (by refine ⟨?_, ?_, trivial⟩ <;> ((conv => lhs; whnf); (try conv => rhs; whnf))) ?_
        refine ⟨h - (i + 1), by omega, i + 1, by omega, rfl, fun j hj => ?_, hs⟩
        rcases Nat.lt_or_ge j i with hji | hji
        · exact hall j hji
        · have : j = i := by omega
          rw [this, hpn]; exact htb
    · obtain rfl : i = h := by have := of_decide_eq_false h1; omega
      replace h1 := of_decide_eq_false h1
      refine c_exit (ex_then (ex_then (ex_hit (nrm_then ?_))))
      refine c_rseq ?_
      refine l_v (by first | exact (r_assign (v := bV _) rfl) | exact (r_assign rfl)) ?_
      refine l_nil (nrm_then ?_)
      refine c_ret ?_
      show Fin _ _ _ _ _
      refine fin1 rfl ?_
      exact ⟨by rw [all_has hall]; rfl, hs.below⟩
set_option maxHeartbeats 4000000 in
theorem rones_c (h c : Nat) (A : Option Addr) (b : List UInt8) (hz : 0 < b.length) (hz2 : b.length ≤ 1099511627776) (w : World) (hr : Rd w 1 A (8 * b.length) (bvs b)) :
    Calls Tryd.prog 20 #[rfV h A (8 * b.length) c] w fun e w' => e = .returned (iV ((onesB b : Nat) : Int)) ∧ Below w.heap.size w w' := by
  obtain ⟨ad, rfl, hcell⟩ := hr.ad (by omega)
  refine enter (P := Tryd.prog) Tryd.func20 rfl rfl ?_
  have hs := Eng.Sep.init w
  refine c_rseq ?_
  refine l_box hs rfl ?_
  intro b1 w1 hs hB1 hlt1
  refine l_v (by first | exact (r_assign (v := iV _) rfl) | exact (r_assign rfl)) ?_
  refine l_nil (nrm_then ?_)
  refine c_rseq ?_
  refine l_v (by first | exact (r_assign (v := iV _) rfl) | exact (r_assign rfl)) ?_
  refine l_nil (nrm_then ?_)
  refine c_seq ?_
  refine c_rseq ?_
  refine l_v (by first | exact (r_assign (v := iV _) rfl) | exact (r_assign rfl)) ?_
  refine l_nil (nrm_then ?_)
  refine c_block ?_
  have hs : Eng.Sep w w1 (blk b1 [iV (h : Int), .slice (some ad) (8 * b.length) c] 31 :: []) := hs
  refine c_loopn [1, 2] (fun m f' w' => ∃ i : Nat, i + m = 8 * b.length ∧ f' 4 = iV (i : Int) ∧ f' 3 = iV ((cntB b i : Nat) : Int) ∧ Eng.Sep w w' (blk b1 [iV (h : Int), .slice (some ad) (8 * b.length) c] 31 :: [])) ?_ ?_
  · exact ⟨8 * b.length, 0, by omega, rfl, rfl, hs⟩
  · rintro m g w_ ⟨i, hi, h4, h3, hs⟩
    refine OkC.env ?_ (fixH (L := [(4, _), (3, _)]) ⟨h4, h3, trivial⟩)
    clear h4 h3
    refine c_seq ?_
    refine c_rseq ?_
    refine l_v (by first | exact (r_move (v := iV _) rfl) | exact (r_move rfl)) ?_
    refine l_v (by first | exact (r_fieldAddr0 (off := 1) (T := 29) (by kernel_rfl) rfl) | exact (r_fieldAddr (off := 1) (T := 29) (by kernel_rfl) rfl)) ?_
    refine l_v (by first | exact (r_load_at (i := 0) hs rfl Tryd.underlying29 rfl rfl) | exact (r_load_at (i := 1) hs rfl Tryd.underlying29 rfl rfl) | exact (r_load_at (i := 2) hs rfl Tryd.underlying29 rfl rfl) | exact (r_load_at (i := 3) hs rfl Tryd.underlying29 rfl rfl) | exact (r_load_at (i := 4) hs rfl Tryd.underlying29 rfl rfl) | exact (r_load_at (i := 5) hs rfl Tryd.underlying29 rfl rfl) | exact (r_load_at (i := 6) hs rfl Tryd.underlying29 rfl rfl)) ?_
    refine l_v (r_len_l Tryd.underlying29 rfl) ?_
    refine l_v (r_lssi rfl rfl) ?_
    refine l_nil (nrm_then ?_)
    refine c_cond rfl (fun h1 => ?_) (fun h1 => ?_)
    · have hil : i < 8 * b.length := by have := of_decide_eq_true h1; omega
      have hcl := cnt_le b i
      have hcn := cnt_next hil
      have hY := hcell _ _ (bvs_get hil)
      have hY2 := (hs.below.cell (World.block_lt_of_cell? w _ hY)).trans hY
      replace h1 := of_decide_eq_true h1
      refine c_skip (nrm_then ?_)
      refine c_seq ?_
      refine c_block ?_
      refine c_rseq ?_
      refine l_v (by first | exact (r_fieldAddr0 (off := 1) (T := 29) (by kernel_rfl) rfl) | exact (r_fieldAddr (off := 1) (T := 29) (by kernel_rfl) rfl)) ?_
      refine l_v (by first | exact (r_load_at (i := 0) hs rfl Tryd.underlying29 rfl rfl) | exact (r_load_at (i := 1) hs rfl Tryd.underlying29 rfl rfl) | exact (r_load_at (i := 2) hs rfl Tryd.underlying29 rfl rfl) | exact (r_load_at (i := 3) hs rfl Tryd.underlying29 rfl rfl) | exact (r_load_at (i := 4) hs rfl Tryd.underlying29 rfl rfl) | exact (r_load_at (i := 5) hs rfl Tryd.underlying29 rfl rfl) | exact (r_load_at (i := 6) hs rfl Tryd.underlying29 rfl rfl)) ?_
      refine l_v (by first | exact (r_move (v := iV _) rfl) | exact (r_move rfl)) ?_
      refine l_v (r_indexAddr_l1 (k := i) Tryd.underlying29 I4 rfl rfl hil) ?_
      refine l_v (r_load Tryd.underlying4 rfl hY2) ?_
      refine l_nil (nrm_then ?_)
      cases htb : tstB b i
      · rw [htb] at hcn
        refine c_false rfl (rfl) ?_
        refine c_skip (nrm_block (nrm_then ?_))
        refine c_region ?_
        refine l_v (by first | exact (r_move (v := iV _) rfl) | exact (r_move rfl)) ?_
        refine l_v (r_addi rfl rfl (by omega)) ?_
        refine l_v (by first | exact (r_assign (v := iV _) rfl) | exact (r_assign rfl)) ?_
        refine l_nil (nrm_then ?_)
        refine And.intro (by refine ⟨?_, ?_, trivial⟩ <;> ((conv => lhs; whnf); (try conv => rhs; whnf))) ?_
        exact ⟨8 * b.length - (i + 1), by omega, i + 1, by omega, rfl, by rw [hcn]; rfl, hs⟩
      · rw [htb] at hcn
        refine c_true rfl (rfl) ?_
        refine c_region ?_
        refine l_v (by first | exact (r_move (v := iV _) rfl) | exact (r_move rfl)) ?_
        refine l_v (r_addi rfl rfl (by omega)) ?_
        refine l_v (by first | exact (r_assign (v := iV _) rfl) | exact (r_assign rfl)) ?_
        refine l_nil (nrm_block (nrm_then ?_))
        refine c_region ?_
        refine l_v (by first | exact (r_move (v := iV _) rfl) | exact (r_move rfl)) ?_
        refine l_v (r_addi rfl rfl (by omega)) ?_
        refine l_v (by first | exact (r_assign (v := iV _) rfl) | exact (r_assign rfl)) ?_
        refine l_nil (nrm_then ?_)
        refine And.intro (by refine ⟨?_, ?_, trivial⟩ <;> ((conv => lhs; whnf); (try conv => rhs; whnf))) ?_
        exact ⟨8 * b.length - (i + 1), by omega, i + 1, by omega, rfl, by rw [hcn]; rfl, hs⟩
    · obtain rfl : i = 8 * b.length := by have := of_decide_eq_false h1; omega
      rw [cnt_all]
      replace h1 := of_decide_eq_false h1
      refine c_exit (ex_then (ex_then (ex_hit (nrm_then ?_))))
      refine c_rseq ?_
      refine l_v (by first | exact (r_move (v := iV _) rfl) | exact (r_move rfl)) ?_
      refine l_v (by first | exact (r_assign (v := iV _) rfl) | exact (r_assign rfl)) ?_
      refine l_nil (nrm_then ?_)
      refine c_ret ?_
      show Fin _ _ _ _ _
      refine fin1 rfl ?_
      exact ⟨rfl, hs.below⟩
end Go.Proofs.YtbimboibllboeaaDoor.Blm
