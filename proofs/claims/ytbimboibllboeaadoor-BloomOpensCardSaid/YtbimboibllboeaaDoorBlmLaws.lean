/- few, awake, and the walk of BloomNil. -/
import Derived.Test.YtbimboibllboeaaDoorBlmPack
import Derived.Test.YtbimboibllboeaaDoorShaAbc
namespace Go.Proofs.YtbimboibllboeaaDoor.Blm
open Go Go.RowKit Go.Proofs.YtbimboibllboeaaDoor.Eng Go.Proofs.YtbimboibllboeaaDoor.Sha Go.Proofs.YtbimboibllboeaaDoor.Six
set_option linter.unusedVariables false
set_option maxRecDepth 100000
def sizN (keys : List ByteArray) (i : Nat) : Nat := ((keys.take i).map ByteArray.size).sum
set_option maxHeartbeats 4000000 in
theorem few_c (A : Option Addr) (c : Nat) (keys : List ByteArray) (w : World) (hr : Rd w 1 A keys.length (keys.map sV)) :
    Calls Tryd.prog 9 #[.slice A keys.length c] w fun e w' => ∃ b, e = .returned (bV b) ∧ (b = true → keys.length ≤ 2000 ∧ (∀ s ∈ keys, s.size ≤ 100000)) ∧ Below w.heap.size w w' := by
  have hn := hr.2.1
  refine enter (P := Tryd.prog) Tryd.func9 rfl rfl ?_
  have hs := Eng.Sep.init w
  refine c_rseq ?_
  refine l_v (by first | exact (r_assign (v := bV _) rfl) | exact (r_assign rfl)) ?_
  refine l_nil (nrm_then ?_)
  refine c_rseq ?_
  refine l_v (by first | exact (r_assign (v := iV _) rfl) | exact (r_assign rfl)) ?_
  refine l_nil (nrm_then ?_)
  refine c_seq ?_
  refine c_rseq ?_
  refine l_v (by first | exact (r_assign (v := iV _) rfl) | exact (r_assign rfl)) ?_
  refine l_nil (nrm_then ?_)
  refine c_block ?_
  refine c_loopn [0] (fun m f' w' => ∃ i : Nat, i + m = keys.length ∧ f' 4 = iV (i : Int) ∧ f' 3 = iV ((sizN keys i : Nat) : Int) ∧ w' = w ∧ i ≤ 2000 ∧ sizN keys i ≤ 200000 ∧ ∀ s ∈ keys.take i, s.size ≤ 100000) ?_ ?_
  · exact ⟨keys.length, 0, by omega, rfl, rfl, rfl, by omega, by simp [sizN], by simp⟩
  · rintro m g w_ ⟨i, hi, h4, h3, hw, hi2, hz, hall⟩
    subst hw
    refine OkC.env ?_ (fixH (L := [(4, _), (3, _)]) ⟨h4, h3, trivial⟩)
    clear h4 h3
    refine c_seq ?_
    refine c_rseq ?_
    refine l_v (by first | exact (r_move (v := iV _) rfl) | exact (r_move rfl)) ?_
    refine l_v (by first | exact (r_move (v := .slice _ _ _) rfl) | exact (r_move rfl)) ?_
    refine l_v (r_len_l Tryd.underlying22 rfl) ?_
    refine l_v (r_lssi rfl rfl) ?_
    refine l_nil (nrm_then ?_)
    refine c_cond rfl (fun h1 => ?_) (fun h1 => ?_)
    · have hil : i < keys.length := by have := of_decide_eq_true h1; omega
      obtain ⟨s, hsi⟩ : ∃ s, keys[i]? = some s := ⟨keys[i], List.getElem?_eq_getElem hil⟩
      have htk : keys.take (i + 1) = keys.take i ++ [s] := by rw [List.take_add_one, hsi]; rfl
      have htn : sizN keys (i + 1) = sizN keys i + s.size := by unfold sizN; rw [htk, List.map_append, List.sum_append]; simp
      obtain ⟨ad, rfl, hcell⟩ := hr.ad (by omega)
      have hX := hcell i (sV s) (by rw [List.getElem?_map, hsi]; rfl)
      replace h1 := of_decide_eq_true h1
      refine c_skip (nrm_then ?_)
      refine c_seq ?_
      refine c_block ?_
      refine c_seq ?_
      refine c_rseq ?_
      refine l_v (by first | exact (r_move (v := iV _) rfl) | exact (r_move rfl)) ?_
      refine l_v (r_geqi rfl rfl) ?_
      by_cases h2 : (i : Int) ≥ 2000
      · have f2 : decide ((i : Int) ≥ 2000) = true := decide_eq_true h2
        refine l_v (by first | exact (r_move (v := bV _) rfl) | exact (r_move rfl)) ?_
        refine l_no rfl (f2) ?_
        refine l_no rfl (f2) ?_
        refine l_no rfl (f2) ?_
        refine l_no rfl (f2) ?_
        refine l_no rfl (f2) ?_
        refine l_no rfl (f2) ?_
        refine l_v (r_pick_t rfl f2 rfl) ?_
        refine l_v (by first | exact (r_move (v := bV _) rfl) | exact (r_move rfl)) ?_
        refine l_no rfl (rfl) ?_
        refine l_no rfl (rfl) ?_
        refine l_v (r_pick_t rfl rfl rfl) ?_
        refine l_nil (nrm_then ?_)
        refine c_true rfl (rfl) ?_
        refine c_rseq ?_
        refine l_v (by first | exact (r_assign (v := bV _) rfl) | exact (r_assign rfl)) ?_
        refine l_nil (nrm_then ?_)
        refine c_ret (ret_then (ret_block (ret_then (ret_then (ret_block (ret_then ?_))))))
        show Fin _ _ _ _ _
        refine fin1 rfl ?_
        exact ⟨false, rfl, fun h => (by cases h), hs.below⟩
      · have f2 : decide ((i : Int) ≥ 2000) = false := decide_eq_false h2
        refine l_v (by first | exact (r_move (v := bV _) rfl) | exact (r_move rfl)) ?_
        refine l_vg (by first | exact (r_move (v := .slice _ _ _) rfl) | exact (r_move rfl)) rfl (f2) ?_
        refine l_vg (by first | exact (r_move (v := iV _) rfl) | exact (r_move rfl)) rfl (f2) ?_
        refine l_vg (r_indexAddr_l1 (k := i) Tryd.underlying22 I9 rfl rfl hil) rfl (f2) ?_
        refine l_vg (r_load Tryd.underlying9 rfl hX) rfl (f2) ?_
        refine l_vg (r_len_s Tryd.underlying9 rfl) rfl (f2) ?_
        refine l_vg (r_gtri rfl rfl) rfl (f2) ?_
        refine l_v (r_pick_f rfl f2 rfl) ?_
        by_cases h3 : ((s.size : Nat) : Int) > 100000
        · have f3 : decide (((s.size : Nat) : Int) > 100000) = true := decide_eq_true h3
          refine l_v (by first | exact (r_move (v := bV _) rfl) | exact (r_move rfl)) ?_
          refine l_no rfl (f3) ?_
          refine l_no rfl (f3) ?_
          refine l_v (r_pick_t rfl f3 rfl) ?_
          refine l_nil (nrm_then ?_)
          refine c_true rfl (rfl) ?_
          refine c_rseq ?_
          refine l_v (by first | exact (r_assign (v := bV _) rfl) | exact (r_assign rfl)) ?_
          refine l_nil (nrm_then ?_)
          refine c_ret (ret_then (ret_block (ret_then (ret_then (ret_block (ret_then ?_))))))
          show Fin _ _ _ _ _
          refine fin1 rfl ?_
          exact ⟨false, rfl, fun h => (by cases h), hs.below⟩
        · have f3 : decide (((s.size : Nat) : Int) > 100000) = false := decide_eq_false h3
          refine l_v (by first | exact (r_move (v := bV _) rfl) | exact (r_move rfl)) ?_
          refine l_vg (by first | exact (r_move (v := iV _) rfl) | exact (r_move rfl)) rfl (f3) ?_
          refine l_vg (r_gtri rfl rfl) rfl (f3) ?_
          refine l_v (r_pick_f rfl f3 rfl) ?_
          refine l_nil (nrm_then ?_)
          refine c_cond rfl (fun h5 => ?_) (fun h5 => ?_)
          · replace h5 := of_decide_eq_true h5
            refine c_rseq ?_
            refine l_v (by first | exact (r_assign (v := bV _) rfl) | exact (r_assign rfl)) ?_
            refine l_nil (nrm_then ?_)
            refine c_ret (ret_then (ret_block (ret_then (ret_then (ret_block (ret_then ?_))))))
            show Fin _ _ _ _ _
            refine fin1 rfl ?_
            exact ⟨false, rfl, fun h => (by cases h), hs.below⟩
          · replace h5 := of_decide_eq_false h5
            refine c_skip (nrm_then ?_)
            refine c_region ?_
            refine l_v (by first | exact (r_move (v := iV _) rfl) | exact (r_move rfl)) ?_
            refine l_v (by first | exact (r_move (v := .slice _ _ _) rfl) | exact (r_move rfl)) ?_
            refine l_v (by first | exact (r_move (v := iV _) rfl) | exact (r_move rfl)) ?_
            refine l_v (r_indexAddr_l1 (k := i) Tryd.underlying22 I9 rfl rfl hil) ?_
            refine l_v (r_load Tryd.underlying9 rfl hX) ?_
            refine l_v (r_len_s Tryd.underlying9 rfl) ?_
            refine l_v (r_addi rfl rfl (by omega)) ?_
            refine l_v (by first | exact (r_assign (v := iV _) rfl) | exact (r_assign rfl)) ?_
            refine l_nil (nrm_block (nrm_then ?_))
            refine c_region ?_
            refine l_v (by first | exact (r_move (v := iV _) rfl) | exact (r_move rfl)) ?_
            refine l_v (r_addi rfl rfl (by omega)) ?_
            refine l_v (by first | exact (r_assign (v := iV _) rfl) | exact (r_assign rfl)) ?_
            refine l_nil (nrm_then ?_)
            refine And.intro (by refine ⟨?_, trivial⟩ <;> ((conv => lhs; whnf); (try conv => rhs; whnf))) ?_
            refine ⟨keys.length - (i + 1), by omega, i + 1, by omega, rfl, by rw [htn]; rfl, rfl, by omega, by omega, fun s' hs' => ?_⟩
            rw [htk] at hs'
            rcases List.mem_append.1 hs' with h | h
            · exact hall s' h
            · rw [List.mem_singleton.1 h]; omega
    · obtain rfl : i = keys.length := by have := of_decide_eq_false h1; omega
      rw [List.take_length] at hall
      replace h1 := of_decide_eq_false h1
      refine c_exit (ex_then (ex_then (ex_hit (nrm_then ?_))))
      refine c_rseq ?_
      refine l_v (by first | exact (r_move (v := iV _) rfl) | exact (r_move rfl)) ?_
      refine l_v (r_leqi rfl rfl) ?_
      refine l_v (by first | exact (r_assign (v := bV _) rfl) | exact (r_assign rfl)) ?_
      refine l_nil (nrm_then ?_)
      refine c_ret ?_
      show Fin _ _ _ _ _
      refine fin1 rfl ?_
      exact ⟨_, rfl, fun h => ⟨hi2, hall⟩, hs.below⟩
theorem place_abc : place [97, 98, 99] 8 0 = 63 := by
  unfold place
  rw [abc]; decide +kernel
theorem make_abc : makeB 1 8 [[97, 98, 99]] = [0, 0, 0, 0, 0, 0, 0, 128] := by
  have h : places [97, 98, 99] 8 1 = [63] := by
    unfold places
    rw [show List.range 1 = [0] from rfl, List.map_cons, List.map_nil, place_abc]
  unfold makeB
  rw [List.foldl_cons, List.foldl_nil, h]
  decide +kernel
theorem has_abc : hasB 1 [0, 0, 0, 0, 0, 0, 0, 128] [97, 98, 99] = true := by
  have h : places [97, 98, 99] 8 1 = [63] := by
    unfold places
    rw [show List.range 1 = [0] from rfl, List.map_cons, List.map_nil, place_abc]
  unfold hasB
  rw [show ([0, 0, 0, 0, 0, 0, 0, 128] : List UInt8).length = 8 from rfl, h]
  decide +kernel
theorem has_none : hasB 7 (makeB 7 8 []) [97, 98, 99] = false := by
  have h : places [97, 98, 99] 8 7 = 63 :: (List.range' 1 6).map (place [97, 98, 99] 8) := by
    unfold places
    rw [show List.range 7 = 0 :: List.range' 1 6 from rfl, List.map_cons, place_abc]
  have e : makeB 7 8 [] = [0, 0, 0, 0, 0, 0, 0, 0] := rfl
  unfold hasB
  rw [e, show ([0, 0, 0, 0, 0, 0, 0, 0] : List UInt8).length = 8 from rfl, h, List.all_cons]
  rw [show tstB [0, 0, 0, 0, 0, 0, 0, 0] 63 = false by decide +kernel]; rfl
theorem enc_small (n : Nat) (h : n < 64) : enc 64 n = [UInt8.ofNat (64 + n)] := by
  unfold enc
  rw [show n / 64 = 0 by omega, high_zero, Nat.mod_eq_of_lt h]; rfl
theorem pack_abc : packF 1 [0, 0, 0, 0, 0, 0, 0, 128] = [65, 72, 0, 0, 0, 0, 0, 0, 0, 128] := by
  unfold packF encT
  rw [enc_small 1 (by decide), enc_small _ (by decide)]; rfl
set_option maxHeartbeats 4000000 in
theorem awake_c (w : World) (h0 : Ok0 w) : Calls Tryd.prog 8 #[] w fun e w' => e = .returned (bV true) ∧ Below w.heap.size w w' := by
  refine enter (P := Tryd.prog) Tryd.func8 rfl rfl ?_
  have hs := Eng.Sep.init w
  refine c_rseq ?_
  refine l_v (by first | exact (r_assign (v := bV _) rfl) | exact (r_assign rfl)) ?_
  refine l_nil (nrm_then ?_)
  refine c_rseq ?_
  refine l_lit1 [sV _] hs Tryd.underlying22 I9 rfl (by simp [Value.oneCell']) rfl (by decide) (by decide) ?_
  intro b6 w6 hs hB6 hlt6
  refine l_call (r_call Tryd.func10 rfl rfl) ?_
  refine Calls.mono (make_c 1 _ 1 [⟨#[97, 98, 99]⟩] (by decide) w _ _ h0 (by decide) hs (fun w' h => rd_blk (h.at_ 0).1 rfl (by decide))) ?_
  rintro e w_ ⟨q, rfl, hq, hs⟩
  refine ⟨_, rfl, ?_⟩
  have e1 : makeE 1 ([⟨#[97, 98, 99]⟩] : List ByteArray).length = 0 := by decide
  rw [e1] at hq ⊢
  obtain ⟨bf, rfl⟩ : ∃ bf, q = some bf := by
    cases q with
    | none => exact absurd (hq.1 rfl) (fun h => h rfl)
    | some bf => exact ⟨bf, rfl⟩
  obtain ⟨bb, hs⟩ := hs
  have hs : Eng.Sep w w_ (blk bf (filC 1 bb 8) 46 :: blk bb ((makeB 1 8 [[97, 98, 99]]).map u8V) 5 :: _) := hs
  rw [make_abc] at hs
  have hs := fil_made (z := 8) (b := [0, 0, 0, 0, 0, 0, 0, 128]) rfl (by decide) hs
  refine l_v (r_move rfl) ?_
  refine l_v (r_extract rfl rfl) ?_
  refine l_v (r_extract rfl rfl) ?_
  refine l_v (r_assign (v := .pointer _) rfl) ?_
  refine l_v (by first | exact (r_assign (v := iV _) rfl) | exact (r_assign rfl)) ?_
  refine l_nil (nrm_then ?_)
  refine c_rseq ?_
  refine l_call (r_call Tryd.func10 rfl rfl) ?_
  refine Calls.mono (make_c 10 none 0 [] (fun s h => by cases h) w _ _ h0 (by decide) hs (fun w' h => Rd.none_ _ _ _)) ?_
  rintro e w_ ⟨q, rfl, hq, hs⟩
  refine ⟨_, rfl, ?_⟩
  have e2 : makeE 10 ([] : List ByteArray).length = 0 := by decide
  rw [e2] at hq ⊢
  obtain ⟨bg, rfl⟩ : ∃ bg, q = some bg := by
    cases q with
    | none => exact absurd (hq.1 rfl) (fun h => h rfl)
    | some bg => exact ⟨bg, rfl⟩
  obtain ⟨bbg, hs⟩ := hs
  have hs : Eng.Sep w w_ (blk bg (filC 7 bbg 8) 46 :: blk bbg ((makeB 7 8 []).map u8V) 5 :: _) := hs
  have hs := fil_made (z := 8) (b := makeB 7 8 []) (makeB_len _ _ _) (by decide) hs
  obtain ⟨A1, c1, hf1⟩ := fil_at (hs.pull 1)
  obtain ⟨A2, c2, hf2⟩ := fil_at hs
  refine l_v (r_move rfl) ?_
  refine l_v (r_extract rfl rfl) ?_
  refine l_v (r_extract rfl rfl) ?_
  refine l_v (r_assign (v := .pointer _) rfl) ?_
  refine l_v (by first | exact (r_assign (v := iV _) rfl) | exact (r_assign rfl)) ?_
  refine l_nil (nrm_then ?_)
  refine c_rseq ?_
  refine l_v (by first | exact (r_move (v := iV _) rfl) | exact (r_move rfl)) ?_
  refine l_v (r_eqli rfl rfl) ?_
  refine l_v (by first | exact (r_move (v := bV _) rfl) | exact (r_move rfl)) ?_
  refine l_vg (r_move (v := .pointer _) rfl) rfl (rfl) ?_
  refine l_callg (r_call Tryd.func13 rfl rfl) rfl (rfl) ?_
  refine Calls.mono (pack_c bf 1 c1 A1 [0, 0, 0, 0, 0, 0, 0, 128] _ (by decide) (by decide) hf1) ?_
  rintro e w_ ⟨rfl, hb⟩
  refine ⟨_, rfl, ?_⟩
  have hf1 := hf1.below hb
  have hf2 := hf2.below hb
  have hs := hs.below_ hb
  rw [pack_abc]
  have f19 : decide (ofL [65, 72, 0, 0, 0, 0, 0, 0, 0, 128] = (⟨#[65, 72, 0, 0, 0, 0, 0, 0, 0, 128]⟩ : ByteArray)) = true := decide_eq_true rfl
  refine l_vg (r_eqls rfl rfl) rfl (rfl) ?_
  refine l_v (r_pick_t rfl rfl rfl) ?_
  refine l_v (by first | exact (r_move (v := bV _) rfl) | exact (r_move rfl)) ?_
  refine l_vg (r_move (v := .pointer _) rfl) rfl (f19) ?_
  refine l_callg (r_call Tryd.func15 rfl rfl) rfl (f19) ?_
  refine Calls.mono (has_c bf 1 c1 A1 [0, 0, 0, 0, 0, 0, 0, 128] ⟨#[97, 98, 99]⟩ (by decide) _ (h0.sep hs) (by decide) (by decide) (by decide) hf1.h0 hf1.h1 hf1.rd) ?_
  rintro e w_ ⟨rfl, hb⟩
  refine ⟨_, rfl, ?_⟩
  have hf2 := hf2.below hb
  have hs := hs.below_ hb
  rw [show hasB 1 [0, 0, 0, 0, 0, 0, 0, 128] (toL ⟨#[97, 98, 99]⟩) = true from has_abc]
  refine l_v (r_pick_t rfl f19 rfl) ?_
  refine l_v (by first | exact (r_move (v := bV _) rfl) | exact (r_move rfl)) ?_
  refine l_vg (by first | exact (r_move (v := iV _) rfl) | exact (r_move rfl)) rfl (rfl) ?_
  refine l_vg (r_eqli rfl rfl) rfl (rfl) ?_
  refine l_v (r_pick_t rfl rfl rfl) ?_
  refine l_v (by first | exact (r_move (v := bV _) rfl) | exact (r_move rfl)) ?_
  refine l_vg (r_move (v := .pointer _) rfl) rfl (rfl) ?_
  have hl7 := makeB_len 7 8 []
  refine l_callg (r_call Tryd.func15 rfl rfl) rfl (rfl) ?_
  refine Calls.mono (has_c bg 7 c2 A2 (makeB 7 8 []) ⟨#[97, 98, 99]⟩ (by decide) _ (h0.sep hs) (by omega) (by omega) (by decide) hf2.h0 hf2.h1 hf2.rd) ?_
  rintro e w_ ⟨rfl, hb⟩
  refine ⟨_, rfl, ?_⟩
  have hs := hs.below_ hb
  rw [show hasB 7 (makeB 7 8 []) (toL ⟨#[97, 98, 99]⟩) = false from has_none]
  refine l_vg (r_not rfl) rfl (rfl) ?_
  refine l_v (r_pick_t rfl rfl rfl) ?_
  refine l_v (by first | exact (r_assign (v := bV _) rfl) | exact (r_assign rfl)) ?_
  refine l_nil (nrm_then ?_)
  refine c_ret ?_
  show Fin _ _ _ _ _
  refine fin1 rfl ?_
  exact ⟨rfl, hs.below⟩
set_option maxHeartbeats 4000000 in
theorem nil_walk {w : World} (key : ByteArray) (hk : key.size ≤ 140737488351232) (h0 : Ok0 w) : Calls Tryd.prog 5 #[sV key] w fun e w' => e = .returned (bV true) ∧ Below w.heap.size w w' := by
  refine enter (P := Tryd.prog) Tryd.func5 rfl rfl ?_
  have hs := Eng.Sep.init w
  refine c_rseq ?_
  refine l_v (by first | exact (r_assign (v := bV _) rfl) | exact (r_assign rfl)) ?_
  refine l_nil (nrm_then ?_)
  refine c_rseq ?_
  refine l_v (r_assign (v := .pointer _) rfl) ?_
  refine l_nil (nrm_then ?_)
  refine c_rseq ?_
  refine l_v (r_move (v := .pointer _) rfl) ?_
  refine l_call (r_call Tryd.func14 rfl rfl) ?_
  refine Calls.mono (shapenil_c _) ?_
  rintro e w_ ⟨rfl, hww⟩
  refine ⟨_, rfl, ?_⟩
  rw [hww]
  refine l_v (r_move rfl) ?_
  refine l_v (r_extract rfl rfl) ?_
  refine l_v (r_extract rfl rfl) ?_
  refine l_v (r_extract rfl rfl) ?_
  refine l_v (by first | exact (r_assign (v := iV _) rfl) | exact (r_assign rfl)) ?_
  refine l_v (by first | exact (r_assign (v := iV _) rfl) | exact (r_assign rfl)) ?_
  refine l_v (by first | exact (r_assign (v := iV _) rfl) | exact (r_assign rfl)) ?_
  refine l_nil (nrm_then ?_)
  refine c_rseq ?_
  refine l_call (r_call Tryd.func8 rfl rfl) ?_
  refine Calls.mono (awake_c _ (h0.sep hs)) ?_
  rintro e w_ ⟨rfl, hb⟩
  refine ⟨_, rfl, ?_⟩
  have hs := hs.below_ hb
  refine l_v (by first | exact (r_move (v := bV _) rfl) | exact (r_move rfl)) ?_
  refine l_vg (r_move (v := .pointer _) rfl) rfl (rfl) ?_
  refine l_vg (by first | exact (r_move (v := sV _) rfl) | exact (r_move rfl)) rfl (rfl) ?_
  refine l_callg (r_call Tryd.func15 rfl rfl) rfl (rfl) ?_
  refine Calls.mono (hasnil_c key _) ?_
  rintro e w_ ⟨rfl, hb⟩
  refine ⟨_, rfl, ?_⟩
  have hs := hs.below_ hb
  refine l_vg (r_not rfl) rfl (rfl) ?_
  refine l_v (r_pick_t rfl rfl rfl) ?_
  refine l_v (by first | exact (r_move (v := bV _) rfl) | exact (r_move rfl)) ?_
  refine l_vg (by first | exact (r_move (v := iV _) rfl) | exact (r_move rfl)) rfl (rfl) ?_
  refine l_vg (by first | exact (r_move (v := iV _) rfl) | exact (r_move rfl)) rfl (rfl) ?_
  refine l_vg (r_addi rfl rfl (by omega)) rfl (rfl) ?_
  refine l_vg (by first | exact (r_move (v := iV _) rfl) | exact (r_move rfl)) rfl (rfl) ?_
  refine l_vg (r_addi rfl rfl (by omega)) rfl (rfl) ?_
  refine l_vg (r_eqli rfl rfl) rfl (rfl) ?_
  refine l_v (r_pick_t rfl rfl rfl) ?_
  refine l_v (by first | exact (r_move (v := bV _) rfl) | exact (r_move rfl)) ?_
  refine l_vg (r_move (v := .pointer _) rfl) rfl (rfl) ?_
  refine l_callg (r_call Tryd.func13 rfl rfl) rfl (rfl) ?_
  refine Calls.mono (packnil_c _) ?_
  rintro e w_ ⟨rfl, hww⟩
  refine ⟨_, rfl, ?_⟩
  rw [hww]
  refine l_vg (r_eqls rfl rfl) rfl (rfl) ?_
  refine l_v (r_pick_t rfl rfl rfl) ?_
  refine l_v (by first | exact (r_assign (v := bV _) rfl) | exact (r_assign rfl)) ?_
  refine l_nil (nrm_then ?_)
  refine c_ret ?_
  show Fin _ _ _ _ _
  refine fin1 rfl ?_
  exact ⟨congrArg Ending.returned (congrArg Value.bool (decide_eq_true rfl)), hs.below⟩
end Go.Proofs.YtbimboibllboeaaDoor.Blm
