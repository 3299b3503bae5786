/- awake, and the laws BlockPacks and BlockOpens: the walks; entries among the arguments. -/
import Derived.Test.YtfjnjnkmkbbjoaaBlkPlain
namespace Go.Proofs.Ytfjnjnkmkbbjoaa.Blk
open Go Go.RowKit Go.Proofs.Ytfjnjnkmkbbjoaa.Eng Go.Proofs.Ytfjnjnkmkbbjoaa.Six Go.Proofs.Ytfjnjnkmkbbjoaa.CrcFn
set_option linter.unusedVariables false
set_option maxRecDepth 100000
def eok (r : Ent) : Prop := r.key.length ≤ 9223372036854775807 ∧ r.val.length ≤ 9223372036854775807
theorem ent_open {H : Type} {enc : TypeId × Value → H} {W : World} {base : Nat} {spare : Nat → Bool} {held : Bool} {fuel : Nat} {cs : List Value} {x : DataW H × List MemPlace} (h : DataW.trod enc Try.prog W base spare held fuel 44 cs = some x) :
    ∃ r : Ent, cs = entC r ∧ eok r := by
  obtain ⟨xs, n, rfl, rfl, hl, hlen, hf⟩ := DataW.trod_struct Try.underlying44 h
  have c4 : Try.prog.cellsOf 44 = 3 := by kernel_rfl
  have cb : Try.prog.cellsOf 4 = 1 := by kernel_rfl
  have cst : Try.prog.cellsOf 9 = 1 := by kernel_rfl
  rw [c4] at hl
  match xs, hlen with
  | [y0, y1, y2], _ =>
    have h0 : DataW.trod enc Try.prog W base spare held n 9 ((cs.drop 0).take (Try.prog.cellsOf 9)) = some y0 := hf 0 _ rfl
    have h1 : DataW.trod enc Try.prog W base spare held n 9 ((cs.drop 1).take (Try.prog.cellsOf 9)) = some y1 := hf 1 _ rfl
    have h2 : DataW.trod enc Try.prog W base spare held n 4 ((cs.drop 2).take (Try.prog.cellsOf 4)) = some y2 := hf 2 _ rfl
    rw [cst] at h0 h1; rw [cb] at h2
    obtain ⟨s, e0, _, hs⟩ := DataW.trod_string Try.underlying9 h0
    obtain ⟨t, e1, _, ht⟩ := DataW.trod_string Try.underlying9 h1
    obtain ⟨b, e2, _⟩ := DataW.trod_bool Try.underlying4 h2
    match cs, hl with
    | [z0, z1, z2], _ =>
      simp at e0 e1 e2
      subst e0; subst e1; subst e2
      exact ⟨⟨toL s, toL t, b⟩, rfl, by unfold maxLen at hs ht; exact ⟨by rw [toL_size]; omega, by rw [toL_size]; omega⟩⟩
theorem ents_open {H : Type} {enc : TypeId × Value → H} {W : World} {base : Nat} {spare : Nat → Bool} {held : Bool} {a : Option Addr} {len cap : Nat} {d : DataW H} {ps : List MemPlace}
    (h : DataW.Trod enc Try.prog W base spare held 22 (.slice a len cap) d ps) : ∃ l : List Ent, len = l.length ∧ Rd W 3 a l.length (l.flatMap entC) ∧ l.length ≤ cap ∧ ∀ r ∈ l, eok r :=
  rows_open (gc := entC) eok Try.underlying22 (by kernel_rfl) (fun r hr => rfl) (fun fuel cs x hx => ent_open hx) h
def xsA : List Ent := [⟨[97, 98], [120], false⟩, ⟨[97, 99], [], true⟩]
theorem checkA : check xsA = 0 := by
  unfold check xsA
  rw [if_neg (by decide), chk, if_neg (by decide), if_neg (by simp [fit]), chk, if_neg (by decide), if_neg, chk]
  have h : sLt (ofL [97, 98]) (ofL [97, 99]) = true := by
    unfold sLt
    rw [ByteArray.toList_eq, ByteArray.toList_eq]
    decide
  show ¬ ((!sLt (ofL [97, 98]) (ofL [97, 99])) || (true && decide (([] : List UInt8) ≠ []))) = true
  rw [h]
  decide
theorem packA : packB xsA = [66, 64, 66, 97, 98, 66, 120, 65, 65, 99, 64] := by
  simp [packB, xsA, packL, packE, packV, shareN, enc, encT, high_zero]
theorem packRA : packR xsA = put [66, 64, 66, 97, 98, 66, 120, 65, 65, 99, 64] := by
  unfold packR; rw [if_pos checkA, packA]
theorem lenA : (packR xsA).length = 15 := by rw [packRA]; unfold put; rw [List.length_append, four_length]; rfl
theorem partA : (ofL (packR xsA)).extract 0 11 = ofL [66, 64, 66, 97, 98, 66, 120, 65, 65, 99, 64] := Eng.toL_inj (by
  rw [Eng.toL_extract, Eng.toL_ofL, Eng.toL_ofL, packRA]
  unfold put
  exact List.take_left (l₁ := [66, 64, 66, 97, 98, 66, 120, 65, 65, 99, 64]))
theorem one_ents (xs : List Ent) : ∀ u ∈ xs.flatMap entC, u.oneCell' = true := by
  intro u hu
  obtain ⟨x, _, hx⟩ := List.mem_flatMap.1 hu
  exact ent_one x u hx
set_option maxHeartbeats 4000000 in
theorem awake_c (w : World) : Calls Try.prog 7 #[] w fun e w' => e = .returned (bV true) ∧ Below w.heap.size w w' := by
  have hlen := lenA
  have hpart := partA
  have hop := openB_pack checkA
  have hca := checkA
  have hsz : (ofL (packR xsA)).size = 15 := hlen
  refine enter (P := Try.prog) Try.func7 rfl rfl ?_
  have hs := Sep.init w
  refine c_rseq ?_
  refine l_v (by first | exact (r_assign (v := bV _) rfl) | exact (r_assign rfl)) ?_
  refine l_nil (nrm_then ?_)
  refine c_rseq ?_
  refine l_v (r_build (l := [(0, sV _), (1, sV _)]) rfl ((fun (x0 : ByteArray) (x1 : ByteArray) => (by kernel_rfl : Program.built Try.prog 44 [(0, sV x0), (1, sV x1)] = some #[sV x0, sV x1, bV false])) _ _)) ?_
  refine l_v (r_build (l := [(0, sV _), (2, bV _)]) rfl ((fun (x0 : ByteArray) (x2 : Bool) => (by kernel_rfl : Program.built Try.prog 44 [(0, sV x0), (2, bV x2)] = some #[sV x0, sV ByteArray.empty, bV x2])) _ _)) ?_
  refine l_lit [.agg (entC ⟨[97, 98], [120], false⟩).toArray, .agg (entC ⟨[97, 99], [], true⟩).toArray] hs Try.underlying22 I44 rfl (by intro u hu; simp at hu; rcases hu with rfl | rfl <;> rfl) (by decide) rfl (by decide) (by decide) ?_
  intro b8 w8 hs hB8 hlt8
  have e1 : ([Value.agg (entC ⟨[97, 98], [120], false⟩).toArray, Value.agg (entC ⟨[97, 99], [], true⟩).toArray].flatMap fun v => v.cells.toList) = xsA.flatMap entC := by simp [Value.cells, xsA]
  rw [e1] at hs
  have hs := hs.rowOf 3 2 2 (Nat.le_refl _) (by decide) rfl
  refine l_call (r_call Try.func9 rfl rfl) ?_
  refine Calls.mono (pack_c (some ⟨b8, 0, none⟩) 2 xsA _ hs.rd) ?_
  rintro e w_ ⟨rfl, hb⟩
  refine ⟨_, rfl, ?_⟩
  have hs := hs.below_ hb
  rw [hca]
  refine l_v (r_move rfl) ?_
  refine l_v (r_extract rfl rfl) ?_
  refine l_v (r_extract rfl rfl) ?_
  refine l_v (by first | exact (r_assign (v := sV _) rfl) | exact (r_assign rfl)) ?_
  refine l_v (by first | exact (r_assign (v := iV _) rfl) | exact (r_assign rfl)) ?_
  refine l_nil (nrm_then ?_)
  refine c_rseq ?_
  refine l_v (by first | exact (r_move (v := sV _) rfl) | exact (r_move rfl)) ?_
  refine l_call (r_call Try.func15 rfl rfl) ?_
  refine Calls.mono (open_c (ofL (packR xsA)) (by omega) w _ _ hs) ?_
  rintro e w_ ⟨v, rfl, hs⟩
  refine ⟨_, rfl, ?_⟩
  rw [Eng.toL_ofL, hop] at hs ⊢
  obtain ⟨A, c, rfl, hc⟩ := hs.rowForm
  have hs : Eng.Sep w w_ (rowE (.slice A 2 c) xsA :: _) := hs
  have f1 : decide (((ofL (packR xsA)).size : Int) > 4) = true := decide_eq_true (by omega)
  have f2 : decide ((ofL (packR xsA)).extract 0 (((ofL (packR xsA)).size : Int) - 4).toNat = ⟨#[66, 64, 66, 97, 98, 66, 120, 65, 65, 99, 64]⟩) = true := decide_eq_true (by
    rw [show (((ofL (packR xsA)).size : Int) - 4).toNat = 11 by omega, hpart])
  refine l_v (r_move rfl) ?_
  refine l_v (r_extract rfl rfl) ?_
  refine l_v (r_extract rfl rfl) ?_
  refine l_v (by first | exact (r_assign (v := .slice _ _ _) rfl) | exact (r_assign rfl)) ?_
  refine l_v (by first | exact (r_assign (v := iV _) rfl) | exact (r_assign rfl)) ?_
  refine l_nil (nrm_then ?_)
  refine c_rseq ?_
  refine l_v (by first | exact (r_move (v := iV _) rfl) | exact (r_move rfl)) ?_
  refine l_v (r_eqli rfl rfl) ?_
  refine l_v (by first | exact (r_move (v := bV _) rfl) | exact (r_move rfl)) ?_
  refine l_vg (by first | exact (r_move (v := sV _) rfl) | exact (r_move rfl)) rfl (rfl) ?_
  refine l_vg (r_len_s Try.underlying9 rfl) rfl (rfl) ?_
  refine l_vg (r_gtri rfl rfl) rfl (rfl) ?_
  refine l_v (r_pick_t rfl rfl rfl) ?_
  refine l_v (by first | exact (r_move (v := bV _) rfl) | exact (r_move rfl)) ?_
  refine l_vg (by first | exact (r_move (v := sV _) rfl) | exact (r_move rfl)) rfl (f1) ?_
  refine l_vg (by first | exact (r_move (v := sV _) rfl) | exact (r_move rfl)) rfl (f1) ?_
  refine l_vg (r_len_s Try.underlying9 rfl) rfl (f1) ?_
  refine l_vg (r_subi rfl rfl (by omega)) rfl (f1) ?_
  refine l_vg (r_slice_sh (((ofL (packR xsA)).size : Int) - 4) Try.underlying9 rfl rfl (by omega)) rfl (f1) ?_
  refine l_vg (r_eqls rfl rfl) rfl (f1) ?_
  refine l_v (r_pick_t rfl f1 rfl) ?_
  refine l_v (by first | exact (r_move (v := bV _) rfl) | exact (r_move rfl)) ?_
  refine l_vg (by first | exact (r_move (v := .slice _ _ _) rfl) | exact (r_move rfl)) rfl (f2) ?_
  refine l_vg (r_len_l Try.underlying22 rfl) rfl (f2) ?_
  refine l_vg (r_eqli rfl rfl) rfl (f2) ?_
  refine l_v (r_pick_t rfl f2 rfl) ?_
  refine l_v (by first | exact (r_move (v := bV _) rfl) | exact (r_move rfl)) ?_
  refine l_vg (by first | exact (r_move (v := iV _) rfl) | exact (r_move rfl)) rfl (rfl) ?_
  refine l_vg (r_eqli rfl rfl) rfl (rfl) ?_
  refine l_v (r_pick_t rfl rfl rfl) ?_
  refine l_v (by first | exact (r_assign (v := bV _) rfl) | exact (r_assign rfl)) ?_
  refine l_nil (nrm_then ?_)
  refine c_ret ?_
  show Fin _ _ _ _ _
  refine fin1 rfl ?_
  exact ⟨rfl, hs.below⟩
set_option maxHeartbeats 8000000 in
theorem blockPacks_walk {w : World} (A : Option Addr) (c : Nat) (xs : List Ent) (hr : Rd w 3 A xs.length (xs.flatMap entC)) (hcap : xs.length ≤ c) (hg : ∀ r ∈ xs, eok r) :
    Calls Try.prog 3 #[.slice A xs.length c] w fun e w' => e = .returned (bV true) ∧ Below w.heap.size w w' := by
  have hn := hr.2.1
  refine enter (P := Try.prog) Try.func3 rfl rfl ?_
  have hs := Sep.init w
  refine c_rseq ?_
  refine l_v (by first | exact (r_assign (v := bV _) rfl) | exact (r_assign rfl)) ?_
  refine l_nil (nrm_then ?_)
  refine c_seq ?_
  refine c_rseq ?_
  refine l_call (r_call Try.func7 rfl rfl) ?_
  refine Calls.mono (awake_c _) ?_
  rintro e w_ ⟨rfl, hb⟩
  refine ⟨_, rfl, ?_⟩
  have hs := hs.below_ hb
  refine l_v (r_not rfl) ?_
  refine l_v (by first | exact (r_move (v := bV _) rfl) | exact (r_move rfl)) ?_
  refine l_vg (by first | exact (r_move (v := .slice _ _ _) rfl) | exact (r_move rfl)) rfl (rfl) ?_
  refine l_callg (r_call Try.func8 rfl rfl) rfl (rfl) ?_
  refine Calls.mono (few_c A c xs _ (hr.below hs.below)) ?_
  rintro e w_ ⟨bf, rfl, hbf, hb⟩
  refine ⟨_, rfl, ?_⟩
  have hs := hs.below_ hb
  refine l_vg (r_not rfl) rfl (rfl) ?_
  rcases Bool.eq_false_or_eq_true bf with hq | hq
  · obtain ⟨hn1, hn2, hn3⟩ := hbf hq
    have f : (!bf) = false := by rw [hq]; rfl
    refine l_v (r_pick_f rfl rfl rfl) ?_
    refine l_nil (nrm_then ?_)
    refine c_false rfl (f) ?_
    refine c_skip (nrm_then ?_)
    refine c_rseq ?_
    refine l_lit0 hs Try.underlying22 I44 ?_
    intro b15 w15 hs hB15 hlt15
    refine l_v (by first | exact (r_move (v := .slice _ _ _) rfl) | exact (r_move rfl)) ?_
    have hs := hs.rowOf 3 0 0 (Nat.le_refl _) (by decide) rfl
    refine l_append Try.underlying22 I44 (by kernel_rfl) (by decide) rfl rfl hs (hr.below hs.below) (one_ents xs) (by omega) (by omega) ?_
    intro v17 w17 hs
    rw [Nat.zero_add, Nat.zero_mul, List.take_zero, List.nil_append] at hs
    obtain ⟨A2, c2, rfl, hc2⟩ := hs.rowForm
    have hrd := hs.rd
    refine l_v (by first | exact (r_assign (v := .slice _ _ _) rfl) | exact (r_assign rfl)) ?_
    refine l_nil (nrm_then ?_)
    refine c_rseq ?_
    refine l_v (by first | exact (r_move (v := .slice _ _ _) rfl) | exact (r_move rfl)) ?_
    refine l_call (r_call Try.func9 rfl rfl) ?_
    refine Calls.mono (pack_c A2 c2 xs _ hrd) ?_
    rintro e w_ ⟨rfl, hb⟩
    refine ⟨_, rfl, ?_⟩
    have hs := hs.below_ hb
    refine l_v (r_move rfl) ?_
    refine l_v (r_extract rfl rfl) ?_
    refine l_v (r_extract rfl rfl) ?_
    refine l_v (by first | exact (r_assign (v := sV _) rfl) | exact (r_assign rfl)) ?_
    refine l_v (by first | exact (r_assign (v := iV _) rfl) | exact (r_assign rfl)) ?_
    refine l_nil (nrm_then ?_)
    refine c_rseq ?_
    refine l_v (by first | exact (r_move (v := .slice _ _ _) rfl) | exact (r_move rfl)) ?_
    refine l_call (r_call Try.func10 rfl rfl) ?_
    refine Calls.mono (rcheck_c A c xs _ (hr.below hs.below)) ?_
    rintro e w_ ⟨rfl, hb⟩
    refine ⟨_, rfl, ?_⟩
    have hs := hs.below_ hb
    have f1 : decide (check xs ≠ check xs) = false := decide_eq_false (fun h => h rfl)
    have f2 : (!decide (xs = xs)) = false := by rw [decide_eq_true rfl]; rfl
    refine l_v (by first | exact (r_assign (v := iV _) rfl) | exact (r_assign rfl)) ?_
    refine l_nil (nrm_then ?_)
    refine c_seq ?_
    refine c_rseq ?_
    refine l_v (by first | exact (r_move (v := iV _) rfl) | exact (r_move rfl)) ?_
    refine l_v (by first | exact (r_move (v := iV _) rfl) | exact (r_move rfl)) ?_
    refine l_v (r_neqi rfl rfl) ?_
    refine l_v (by first | exact (r_move (v := bV _) rfl) | exact (r_move rfl)) ?_
    refine l_vg (by first | exact (r_move (v := .slice _ _ _) rfl) | exact (r_move rfl)) rfl (f1) ?_
    refine l_callg (r_call Try.func11 rfl rfl) rfl (f1) ?_
    refine Calls.mono (check_c A2 c2 xs _ hs.rd) ?_
    rintro e w_ ⟨rfl, hb⟩
    refine ⟨_, rfl, ?_⟩
    have hs := hs.below_ hb
    refine l_vg (by first | exact (r_move (v := iV _) rfl) | exact (r_move rfl)) rfl (f1) ?_
    refine l_vg (r_neqi rfl rfl) rfl (f1) ?_
    refine l_v (r_pick_f rfl f1 rfl) ?_
    refine l_v (by first | exact (r_move (v := bV _) rfl) | exact (r_move rfl)) ?_
    refine l_vg (by first | exact (r_move (v := .slice _ _ _) rfl) | exact (r_move rfl)) rfl (f1) ?_
    refine l_vg (by first | exact (r_move (v := .slice _ _ _) rfl) | exact (r_move rfl)) rfl (f1) ?_
    refine l_callg (r_call Try.func12 rfl rfl) rfl (f1) ?_
    refine Calls.mono (same_c A2 A c2 c xs.length xs.length xs xs rfl rfl _ hs.rd (hr.below hs.below)) ?_
    rintro e w_ ⟨rfl, hb⟩
    refine ⟨_, rfl, ?_⟩
    have hs := hs.below_ hb
    refine l_vg (r_not rfl) rfl (f1) ?_
    refine l_v (r_pick_f rfl f1 rfl) ?_
    refine l_nil (nrm_then ?_)
    refine c_false rfl (f2) ?_
    refine c_skip (nrm_then ?_)
    refine c_seq ?_
    refine c_rseq ?_
    refine l_v (by first | exact (r_move (v := iV _) rfl) | exact (r_move rfl)) ?_
    refine l_v (r_neqi rfl rfl) ?_
    refine l_nil (nrm_then ?_)
    refine c_cond rfl (fun h3 => ?_) (fun h3 => ?_)
    · replace h3 := of_decide_eq_true h3
      refine c_rseq ?_
      refine l_v (by first | exact (r_move (v := sV _) rfl) | exact (r_move rfl)) ?_
      refine l_v (r_eqls rfl rfl) ?_
      refine l_v (by first | exact (r_assign (v := bV _) rfl) | exact (r_assign rfl)) ?_
      refine l_nil (nrm_then ?_)
      refine c_ret (ret_then ?_)
      show Fin _ _ _ _ _
      refine fin1 rfl ?_
      have hp : packR xs = [] := if_neg h3
      rw [hp]
      exact ⟨rfl, hs.below⟩
    · have h3' : check xs = 0 := Decidable.of_not_not (of_decide_eq_false h3)
      obtain ⟨k1, k2⟩ := check_zero h3'
      replace h3 := of_decide_eq_false h3
      refine c_skip (nrm_then ?_)
      refine c_rseq ?_
      refine l_v (by first | exact (r_move (v := sV _) rfl) | exact (r_move rfl)) ?_
      refine l_v (by first | exact (r_move (v := .slice _ _ _) rfl) | exact (r_move rfl)) ?_
      refine l_call (r_call Try.func13 rfl rfl) ?_
      refine Calls.mono (rpack_c A c xs k1 k2 _ (hr.below hs.below)) ?_
      rintro e w_ ⟨rfl, hb⟩
      refine ⟨_, rfl, ?_⟩
      have hs := hs.below_ hb
      have hp : packR xs = put (packB xs) := if_pos h3'
      rw [hp]
      refine l_v (r_eqls rfl rfl) ?_
      refine l_v (by first | exact (r_assign (v := bV _) rfl) | exact (r_assign rfl)) ?_
      refine l_nil (nrm_then ?_)
      refine c_ret ?_
      show Fin _ _ _ _ _
      refine fin1 rfl ?_
      exact ⟨congrArg Ending.returned (congrArg Value.bool (decide_eq_true rfl)), hs.below⟩
  · have f : (!bf) = true := by rw [hq]; rfl
    refine l_v (r_pick_f rfl rfl rfl) ?_
    refine l_nil (nrm_then ?_)
    refine c_true rfl (f) ?_
    refine c_rseq ?_
    refine l_call (r_call Try.func7 rfl rfl) ?_
    refine Calls.mono (awake_c _) ?_
    rintro e w_ ⟨rfl, hb⟩
    refine ⟨_, rfl, ?_⟩
    have hs := hs.below_ hb
    refine l_v (by first | exact (r_assign (v := bV _) rfl) | exact (r_assign rfl)) ?_
    refine l_nil (nrm_then ?_)
    refine c_ret (ret_then ?_)
    show Fin _ _ _ _ _
    refine fin1 rfl ?_
    exact ⟨rfl, hs.below⟩
set_option maxHeartbeats 8000000 in
theorem blockOpens_walk {w : World} (s : ByteArray) (hw : s.size ≤ 140737488351232) (b : Bool) :
    Calls Try.prog 4 #[sV s, bV b] w fun e w' => e = .returned (bV true) ∧ Below w.heap.size w w' := by
  refine enter (P := Try.prog) Try.func4 rfl rfl ?_
  have hs := Sep.init w
  refine c_rseq ?_
  refine l_v (by first | exact (r_assign (v := bV _) rfl) | exact (r_assign rfl)) ?_
  refine l_nil (nrm_then ?_)
  refine c_seq ?_
  refine c_rseq ?_
  refine l_call (r_call Try.func7 rfl rfl) ?_
  refine Calls.mono (awake_c _) ?_
  rintro e w_ ⟨rfl, hb⟩
  refine ⟨_, rfl, ?_⟩
  have hs := hs.below_ hb
  refine l_v (r_not rfl) ?_
  refine l_v (by first | exact (r_move (v := bV _) rfl) | exact (r_move rfl)) ?_
  refine l_vg (by first | exact (r_move (v := sV _) rfl) | exact (r_move rfl)) rfl (rfl) ?_
  refine l_vg (r_len_s Try.underlying9 rfl) rfl (rfl) ?_
  refine l_vg (r_gtri rfl rfl) rfl (rfl) ?_
  refine l_v (r_pick_f rfl rfl rfl) ?_
  refine l_nil (nrm_then ?_)
  refine c_cond rfl (fun h1 => ?_) (fun h1 => ?_)
  · replace h1 := of_decide_eq_true h1
    refine c_rseq ?_
    refine l_call (r_call Try.func7 rfl rfl) ?_
    refine Calls.mono (awake_c _) ?_
    rintro e w_ ⟨rfl, hb⟩
    refine ⟨_, rfl, ?_⟩
    have hs := hs.below_ hb
    refine l_v (by first | exact (r_assign (v := bV _) rfl) | exact (r_assign rfl)) ?_
    refine l_nil (nrm_then ?_)
    refine c_ret (ret_then ?_)
    show Fin _ _ _ _ _
    refine fin1 rfl ?_
    exact ⟨rfl, hs.below⟩
  · replace h1 := of_decide_eq_false h1
    refine c_skip (nrm_then ?_)
    refine c_seq ?_
    refine c_rseq ?_
    refine l_v (by first | exact (r_move (v := bV _) rfl) | exact (r_move rfl)) ?_
    refine l_nil (nrm_then ?_)
    have h1' : s.size ≤ 60000 := by omega
    refine c_mid [4] (fun f' w' => ∃ s' : ByteArray, f' 0 = sV s' ∧ s'.size ≤ 60004 ∧ Eng.Sep w w' []) ?_ ?_
    · skip
      refine c_cond rfl (fun h2 => ?_) (fun h2 => ?_)
      · refine c_region ?_
        refine l_v (by first | exact (r_move (v := sV _) rfl) | exact (r_move rfl)) ?_
        refine l_call (r_call Try.func14 rfl rfl) ?_
        refine Calls.mono (RefCrc.put_c s (by omega) _) ?_
        rintro e w_ ⟨rfl, hb⟩
        refine ⟨_, rfl, ?_⟩
        have hs := hs.below_ hb
        refine l_v (by first | exact (r_assign (v := sV _) rfl) | exact (r_assign rfl)) ?_
        refine l_nil (nrm_then ?_)
        refine And.intro (by refine ⟨?_, trivial⟩ <;> ((conv => lhs; whnf); (try conv => rhs; whnf))) ?_
        exact ⟨_, rfl, by show (put (toL s)).length ≤ _; unfold put; rw [List.length_append, four_length, toL_size]; omega, hs⟩
      · refine c_skip (nrm_then ?_)
        refine And.intro (by refine ⟨?_, trivial⟩ <;> ((conv => lhs; whnf); (try conv => rhs; whnf))) ?_
        exact ⟨s, rfl, by omega, hs⟩
    · rintro g w_ ⟨s', h0, hz, hs⟩
      show OkC _ _ _ _ _ _
      refine OkC.env ?_ (fixH (L := [(0, _)]) ⟨h0, trivial⟩)
      clear h0
      refine c_rseq ?_
      refine l_v (by first | exact (r_move (v := sV _) rfl) | exact (r_move rfl)) ?_
      refine l_call (r_call Try.func15 rfl rfl) ?_
      refine Calls.mono (open_c s' (by omega) w _ _ hs) ?_
      rintro e w_ ⟨v1, rfl, hs⟩
      refine ⟨_, rfl, ?_⟩
      refine l_v (r_move rfl) ?_
      refine l_v (r_extract rfl rfl) ?_
      refine l_v (r_extract rfl rfl) ?_
      refine l_v (by first | exact (r_assign (v := .slice _ _ _) rfl) | exact (r_assign rfl)) ?_
      refine l_v (by first | exact (r_assign (v := iV _) rfl) | exact (r_assign rfl)) ?_
      refine l_nil (nrm_then ?_)
      refine c_rseq ?_
      refine l_v (by first | exact (r_move (v := sV _) rfl) | exact (r_move rfl)) ?_
      refine l_call (r_call Try.func16 rfl rfl) ?_
      refine Calls.mono (ropen_c s' (by omega) w _ _ hs) ?_
      rintro e w_ ⟨v2, rfl, hs⟩
      refine ⟨_, rfl, ?_⟩
      have hcan := @openB_canon (toL s')
      generalize openB (toL s') = X at *
      obtain ⟨A1, c1, rfl, hc1⟩ := (hs.pull 1).rowForm
      obtain ⟨A2, c2, rfl, hc2⟩ := hs.rowForm
      have hr1 := (hs.pull 1).rd
      have hr2 := hs.rd
      have f1 : decide (X.2 ≠ X.2) = false := decide_eq_false (fun h => h rfl)
      have f2 : (!decide (X.1 = X.1)) = false := by rw [decide_eq_true rfl]; rfl
      refine l_v (r_move rfl) ?_
      refine l_v (r_extract rfl rfl) ?_
      refine l_v (r_extract rfl rfl) ?_
      refine l_v (by first | exact (r_assign (v := .slice _ _ _) rfl) | exact (r_assign rfl)) ?_
      refine l_v (by first | exact (r_assign (v := iV _) rfl) | exact (r_assign rfl)) ?_
      refine l_nil (nrm_then ?_)
      refine c_seq ?_
      refine c_rseq ?_
      refine l_v (by first | exact (r_move (v := iV _) rfl) | exact (r_move rfl)) ?_
      refine l_v (by first | exact (r_move (v := iV _) rfl) | exact (r_move rfl)) ?_
      refine l_v (r_neqi rfl rfl) ?_
      refine l_v (by first | exact (r_move (v := bV _) rfl) | exact (r_move rfl)) ?_
      refine l_vg (by first | exact (r_move (v := .slice _ _ _) rfl) | exact (r_move rfl)) rfl (f1) ?_
      refine l_vg (by first | exact (r_move (v := .slice _ _ _) rfl) | exact (r_move rfl)) rfl (f1) ?_
      refine l_callg (r_call Try.func12 rfl rfl) rfl (f1) ?_
      refine Calls.mono (same_c A1 A2 c1 c2 _ _ X.1 X.1 rfl rfl _ hr1 hr2) ?_
      rintro e w_ ⟨rfl, hb⟩
      refine ⟨_, rfl, ?_⟩
      have hs := hs.below_ hb
      refine l_vg (r_not rfl) rfl (f1) ?_
      refine l_v (r_pick_f rfl f1 rfl) ?_
      refine l_nil (nrm_then ?_)
      refine c_false rfl (f2) ?_
      refine c_skip (nrm_then ?_)
      refine c_seq ?_
      refine c_rseq ?_
      refine l_v (by first | exact (r_move (v := iV _) rfl) | exact (r_move rfl)) ?_
      refine l_v (r_neqi rfl rfl) ?_
      refine l_nil (nrm_then ?_)
      refine c_cond rfl (fun h3 => ?_) (fun h3 => ?_)
      · replace h3 := of_decide_eq_true h3
        refine c_rseq ?_
        refine l_v (by first | exact (r_assign (v := bV _) rfl) | exact (r_assign rfl)) ?_
        refine l_nil (nrm_then ?_)
        refine c_ret (ret_then ?_)
        show Fin _ _ _ _ _
        refine fin1 rfl ?_
        exact ⟨rfl, hs.below⟩
      · have h3' : X.2 = 0 := Decidable.of_not_not (of_decide_eq_false h3)
        obtain ⟨k1, k2⟩ := hcan h3'
        replace h3 := of_decide_eq_false h3
        refine c_skip (nrm_then ?_)
        refine c_rseq ?_
        refine l_v (by first | exact (r_move (v := .slice _ _ _) rfl) | exact (r_move rfl)) ?_
        refine l_call (r_call Try.func9 rfl rfl) ?_
        refine Calls.mono (pack_c A1 c1 X.1 _ (hs.pull 1).rd) ?_
        rintro e w_ ⟨rfl, hb⟩
        refine ⟨_, rfl, ?_⟩
        have hs := hs.below_ hb
        rw [k1, k2, Eng.ofL_toL]
        refine l_v (r_move rfl) ?_
        refine l_v (r_extract rfl rfl) ?_
        refine l_v (r_extract rfl rfl) ?_
        refine l_v (by first | exact (r_assign (v := sV _) rfl) | exact (r_assign rfl)) ?_
        refine l_v (by first | exact (r_assign (v := iV _) rfl) | exact (r_assign rfl)) ?_
        refine l_nil (nrm_then ?_)
        refine c_rseq ?_
        refine l_v (by first | exact (r_move (v := iV _) rfl) | exact (r_move rfl)) ?_
        refine l_v (r_eqli rfl rfl) ?_
        refine l_v (by first | exact (r_move (v := bV _) rfl) | exact (r_move rfl)) ?_
        refine l_vg (by first | exact (r_move (v := sV _) rfl) | exact (r_move rfl)) rfl (rfl) ?_
        refine l_vg (by first | exact (r_move (v := sV _) rfl) | exact (r_move rfl)) rfl (rfl) ?_
        refine l_vg (r_eqls rfl rfl) rfl (rfl) ?_
        refine l_v (r_pick_t rfl rfl rfl) ?_
        refine l_v (by first | exact (r_assign (v := bV _) rfl) | exact (r_assign rfl)) ?_
        refine l_nil (nrm_then ?_)
        refine c_ret ?_
        show Fin _ _ _ _ _
        refine fin1 rfl ?_
        exact ⟨congrArg Ending.returned (congrArg Value.bool (decide_eq_true rfl)), hs.below⟩
end Go.Proofs.Ytfjnjnkmkbbjoaa.Blk
