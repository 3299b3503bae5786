/- Whole frames ahead of a cut, plain; awake, few, end. -/
import Derived.Test.YtlkljeghhahedaaWalWalk
namespace Go.Proofs.Ytlkljeghhahedaa.Wal
open Go Go.RowKit Go.Proofs.Ytlkljeghhahedaa.Eng Go.Proofs.Ytlkljeghhahedaa.Six Go.Proofs.Ytlkljeghhahedaa.CrcFn Go.Proofs.Ytlkljeghhahedaa.Crc
set_option linter.unusedVariables false
set_option maxRecDepth 100000
def FF (xs : List (List UInt8)) (i : Nat) : List UInt8 := (xs.take i).flatMap frame
def EE (xs : List (List UInt8)) (i : Nat) : Nat := (FF xs i).length
def ZZ (xs : List (List UInt8)) (i : Nat) : Nat := ((xs.take i).map List.length).sum
theorem take_next {xs : List (List UInt8)} {i : Nat} (h : i < xs.length) : xs.take (i + 1) = xs.take i ++ [xs[i]] := by rw [List.take_add_one, List.getElem?_eq_getElem h]; rfl
theorem FF_next {xs : List (List UInt8)} {i : Nat} (h : i < xs.length) : FF xs (i + 1) = FF xs i ++ frame xs[i] := by
  unfold FF; rw [take_next h, List.flatMap_append]; simp
theorem EE_next {xs : List (List UInt8)} {i : Nat} (h : i < xs.length) : EE xs (i + 1) = EE xs i + (frame xs[i]).length := by
  unfold EE; rw [FF_next h, List.length_append]
theorem ZZ_next {xs : List (List UInt8)} {i : Nat} (h : i < xs.length) : ZZ xs (i + 1) = ZZ xs i + xs[i].length := by
  unfold ZZ; rw [take_next h, List.map_append, List.sum_append]; simp
theorem FF_split (xs : List (List UInt8)) (i n : Nat) (h : i ≤ n) : FF xs n = FF xs i ++ ((xs.take n).drop i).flatMap frame := by
  have e : xs.take n = xs.take i ++ (xs.take n).drop i := by
    conv => lhs; rw [← List.take_append_drop i (xs.take n), List.take_take, Nat.min_eq_left h]
  unfold FF
  conv => lhs; rw [e, List.flatMap_append]
theorem EE_mono {xs : List (List UInt8)} {i n : Nat} (h : i ≤ n) : EE xs i ≤ EE xs n := by
  unfold EE; rw [FF_split xs i n h, List.length_append]; omega
theorem frame_size (x : List UInt8) (h : x.length ≤ 1048576) : 5 ≤ (frame x).length ∧ (frame x).length ≤ x.length + 15 := by
  have h1 := enc_len 64 x.length (by omega)
  have h2 := enc_pos 64 x.length
  rw [frame_len]; unfold encT; rw [List.length_append]; omega
theorem EE_bound {xs : List (List UInt8)} (hx : ∀ x ∈ xs, x.length ≤ 1048576) : ∀ {i : Nat}, i ≤ xs.length → i ≤ EE xs i ∧ EE xs i ≤ ZZ xs i + 15 * i
  | 0, _ => by simp [EE, FF]
  | i + 1, h => by
    have ih := EE_bound hx (i := i) (by omega)
    have hf := frame_size xs[i] (hx _ (List.getElem_mem _))
    rw [EE_next (by omega), ZZ_next (by omega)]
    omega
theorem wstep_nil : wstep [] = none := by
  have h := wstep_cut [] (by decide) 0 (by have := frame_size [] (by decide); omega)
  rwa [List.take_zero] at h
theorem cut_law {xs : List (List UInt8)} (hx : ∀ x ∈ xs, x.length ≤ 1048576) {i K f : Nat} (hi : i ≤ xs.length) (hK : K ≤ EE xs xs.length) (h1 : EE xs i ≤ K) (h2 : i < xs.length → K < EE xs (i + 1)) (hf : i ≤ f) :
    splitA (f + 1) [] 0 ((FF xs xs.length).take K) = (xs.take i, EE xs i) := by
  have hs := split_frames (xs.take i) (f + 1 - i) [] 0 (((xs.drop i).flatMap frame).take (K - EE xs i)) (fun x hm => hx x (List.mem_of_mem_take hm))
  have e1 : (FF xs xs.length).take K = (xs.take i).flatMap frame ++ ((xs.drop i).flatMap frame).take (K - EE xs i) := by
    rw [FF_split xs i xs.length hi, List.take_append, List.take_length, List.take_of_length_le (by show EE xs i ≤ K; exact h1)]
    rfl
  rw [List.length_take, Nat.min_eq_left hi, show f + 1 - i + i = f + 1 by omega] at hs
  rw [e1, hs, List.nil_append, Nat.zero_add]
  have hno : wstep (((xs.drop i).flatMap frame).take (K - EE xs i)) = none := by
    by_cases h : i < xs.length
    · have h3 := h2 h
      rw [EE_next h] at h3
      rw [List.drop_eq_getElem_cons h, List.flatMap_cons, List.take_append_of_le_length (by omega)]
      exact wstep_cut _ (hx _ (List.getElem_mem _)) _ (by omega)
    · rw [List.drop_of_length_le (by omega), List.flatMap_nil, List.take_nil]; exact wstep_nil
  exact splitA_no (by omega) hno
theorem turn_law {xs : List (List UInt8)} (hx : ∀ x ∈ xs, x.length ≤ 1048576) {i K f : Nat} (c : UInt8) (hi : i ≤ xs.length) (h1 : EE xs i ≤ K) (hf : i ≤ f) :
    xs.take i <+: (splitA (f + 1) [] 0 ((FF xs xs.length).set K c)).1 := by
  have hs := split_frames (xs.take i) (f + 1 - i) [] 0 (((xs.drop i).flatMap frame).set (K - EE xs i) c) (fun x hm => hx x (List.mem_of_mem_take hm))
  have e1 : (FF xs xs.length).set K c = (xs.take i).flatMap frame ++ ((xs.drop i).flatMap frame).set (K - EE xs i) c := by
    rw [FF_split xs i xs.length hi, List.take_length, List.set_append_right _ _ h1]; rfl
  rw [List.length_take, Nat.min_eq_left hi, show f + 1 - i + i = f + 1 by omega] at hs
  rw [e1, hs, List.nil_append]
  exact split_more _ _ _ _
theorem prefix_take {α : Type} {a b : List α} (h : a <+: b) : a.length ≤ b.length ∧ b.take a.length = a := by
  obtain ⟨r, rfl⟩ := h
  exact ⟨by rw [List.length_append]; omega, List.take_left⟩
section
variable {P : Program} {ρ : Operand → Value} {w : World} {dst : Option Tmp} {ty : TypeId} {pos : String} {aft : Array Edge} {g : Option (Nat × Bool)}
theorem r_slice_ph {t e : TypeId} {x : Operand} {hi : Option Operand} {A : Option Addr} {n c sz by_ : Nat} {z : Value} (h : Nat) (ht : P.underlying t = some (.slice e)) (hI : TI P e z sz by_) (hx : ρ x = .slice A n c) (hh : hi.map ρ = some (iV (h : Int))) (hb : h ≤ c) :
    Run P ρ ⟨dst, .slice t x none hi none, ty, pos, aft, g⟩ w (.slice A h c) w := by
  left
  have hel : P.underlying t = some (.slice (P.elem t)) := by unfold Program.elem; rw [ht]
  have he : P.elem t = e := by unfold Program.elem; rw [ht]
  have e0 : A.map (·.add (0 * sz)) = A := by cases A <;> simp [Addr.add]
  have hr := run_slice_h (P := P) w t A n c hel .i64 (h : Int) (by omega) (by omega)
  rw [he, hI.size, Result.andThen_ok, Int.toNat_natCast] at hr
  unfold sliced at hr
  rw [e0, ite_self, Nat.sub_zero, Nat.sub_zero] at hr
  simp only [execOp, hx, hh, Option.map_none, Sem.run_bind]
  rw [run_sliceAt_slice (P := P) w t _ _ _ _ hel]
  have hr' : (Instr.slice t (.slice A n c) none (some (iV (h : Int))) none).run P w = .ok (.slice A h c) w := hr
  rw [hr', Result.andThen_ok, Sem.run_pure]
end
theorem rd_take {w : World} {A : Option Addr} {n k : Nat} {cs : List Value} (h : Rd w 1 A n cs) (hk : k ≤ n) : Rd w 1 A k (cs.take k) := by
  have hn := h.1
  have hm := h.2.1
  refine ⟨by rw [List.length_take]; omega, by omega, fun h0 => ?_⟩
  obtain ⟨ad, he, hc⟩ := h.ad (by omega)
  refine ⟨ad, he, fun j u hj => hc j u ?_⟩
  rw [List.getElem?_take] at hj
  split at hj
  · exact hj
  · cases hj
abbrev xV (xs : List (List UInt8)) : List Value := (xs.map ofL).map sV
theorem xV_get {xs : List (List UInt8)} {i : Nat} (h : i < xs.length) : (xV xs)[i]? = some (sV (ofL xs[i])) := by simp [xV, h]
set_option maxHeartbeats 2000000 in
theorem awake_c (w : World) : Calls Try.prog 9 #[] w fun e w' => e = .returned (bV true) ∧ Below w.heap.size w w' := by
  have hfl : (frame [97, 98]).length = 7 := by
    rw [frame_len]; unfold encT; rw [List.length_append]
    rw [show (enc 64 ([97, 98] : List UInt8).length).length = 1 by unfold enc; rw [show ([97, 98] : List UInt8).length / 64 = 0 from rfl, high_zero]; rfl]; rfl
  have hfs : (ofL (frame [97, 98])).size = 7 := hfl
  have hno : wstep [66, 97] = none := by
    unfold wstep
    exact if_neg (fun h => absurd h.1 (by decide +kernel))
  have hlaw : splitA 10 [] 0 (frame [97, 98] ++ [66, 97]) = ([[97, 98]], 7) := by
    have h := split_frames [[97, 98]] 9 [] 0 [66, 97] (by simp)
    simp only [List.flatMap_cons, List.flatMap_nil, List.append_nil, List.length_cons, List.length_nil, List.nil_append, Nat.zero_add, hfl] at h
    rw [h, splitA_no (by omega) hno]
  refine enter (P := Try.prog) Try.func9 rfl rfl ?_
  have hs := Sep.init w
  refine c_rseq ?_
  refine l_v (by first | exact (r_assign (v := bV _) rfl) | exact (r_assign rfl)) ?_
  refine l_nil (nrm_then ?_)
  refine c_rseq ?_
  refine l_call (r_call Try.func11 rfl rfl) ?_
  refine Calls.mono (frame_c ⟨#[97, 98]⟩ (by decide) _) ?_
  rintro e w_ ⟨rfl, hb⟩
  refine ⟨_, rfl, ?_⟩
  have hs := hs.below_ hb
  have hz9 : (ofL (frame (toL ⟨#[97, 98]⟩)) ++ (⟨#[66, 97]⟩ : ByteArray)).size = 9 := by rw [ByteArray.size_append]; show (frame [97, 98]).length + 2 = 9; rw [hfl]
  have hlaw2 : splitA ((ofL (frame (toL ⟨#[97, 98]⟩)) ++ (⟨#[66, 97]⟩ : ByteArray)).size + 1) [] 0 (toL (ofL (frame (toL ⟨#[97, 98]⟩)) ++ (⟨#[66, 97]⟩ : ByteArray))) = ([[97, 98]], 7) := by
    rw [hz9, Eng.toL_append]; exact hlaw
  refine l_v (r_adds rfl rfl (by show (frame [97, 98]).length + 2 ≤ _; omega)) ?_
  refine l_call (r_call Try.func12 rfl rfl) ?_
  refine Calls.mono (split_c _ (by rw [hz9]; decide) w _ _ hs) ?_
  rintro e w_ ⟨v, rfl, hs⟩
  refine ⟨_, rfl, ?_⟩
  rw [hlaw2] at *
  obtain ⟨ad, c, rfl, hc⟩ := hs.rowAd (by decide)
  have f1 : decide (((1 : Nat) : Int) = 1) = true := rfl
  refine l_v (r_move rfl) ?_
  refine l_v (r_extract rfl rfl) ?_
  refine l_v (r_extract rfl rfl) ?_
  refine l_v (by first | exact (r_assign (v := .slice _ _ _) rfl) | exact (r_assign rfl)) ?_
  refine l_v (by first | exact (r_assign (v := iV _) rfl) | exact (r_assign rfl)) ?_
  refine l_nil (nrm_then ?_)
  refine c_rseq ?_
  refine l_v (by first | exact (r_move (v := .slice _ _ _) rfl) | exact (r_move rfl)) ?_
  refine l_v (r_len_l Try.underlying22 rfl) ?_
  refine l_v (r_eqli rfl rfl) ?_
  refine l_v (by first | exact (r_move (v := bV _) rfl) | exact (r_move rfl)) ?_
  refine l_vg (by first | exact (r_move (v := .slice _ _ _) rfl) | exact (r_move rfl)) rfl (f1) ?_
  refine l_vg (r_indexAddr_l1 (k := 0) Try.underlying22 I9 rfl rfl (by decide)) rfl (f1) ?_
  refine l_vg (r_load Try.underlying9 rfl (hs.rowAt (k := 0) rfl)) rfl (f1) ?_
  refine l_vg (r_eqls rfl rfl) rfl (f1) ?_
  refine l_v (r_pick_t rfl f1 rfl) ?_
  refine l_v (by first | exact (r_move (v := bV _) rfl) | exact (r_move rfl)) ?_
  refine l_vg (by first | exact (r_move (v := iV _) rfl) | exact (r_move rfl)) rfl (rfl) ?_
  refine l_vg (r_eqli rfl rfl) rfl (rfl) ?_
  refine l_v (r_pick_t rfl rfl rfl) ?_
  refine l_v (by first | exact (r_assign (v := bV _) rfl) | exact (r_assign rfl)) ?_
  refine l_nil (nrm_then ?_)
  refine c_ret ?_
  show Fin _ _ _ _ _
  refine fin1 rfl ?_
  exact ⟨rfl, hs.below⟩
set_option maxHeartbeats 2000000 in
theorem few_c (A : Option Addr) (c : Nat) (xs : List (List UInt8)) (w : World) (hr : Rd w 1 A xs.length (xV xs)) :
    Calls Try.prog 10 #[.slice A xs.length c] w fun e w' => ∃ b, e = .returned (bV b) ∧ (b = true → xs.length ≤ 200 ∧ (∀ x ∈ xs, x.length ≤ 30000) ∧ ZZ xs xs.length ≤ 30000) ∧ Below w.heap.size w w' := by
  have hn := hr.2.1
  refine enter (P := Try.prog) Try.func10 rfl rfl ?_
  have hs := Sep.init w
  refine c_rseq ?_
  refine l_v (by first | exact (r_assign (v := bV _) rfl) | exact (r_assign rfl)) ?_
  refine l_nil (nrm_then ?_)
  refine c_rseq ?_
  refine l_v (by first | exact (r_assign (v := iV _) rfl) | exact (r_assign rfl)) ?_
  refine l_nil (nrm_then ?_)
  refine c_seq ?_
  refine c_rseq ?_
  refine l_v (by first | exact (r_assign (v := iV _) rfl) | exact (r_assign rfl)) ?_
  refine l_nil (nrm_then ?_)
  refine c_block ?_
  refine c_loopn [0] (fun m f' w' => ∃ i, i + m = xs.length ∧ f' 4 = iV (i : Int) ∧ f' 3 = iV ((ZZ xs i : Nat) : Int) ∧ w' = w ∧ i ≤ 200 ∧ ZZ xs i ≤ 60000 ∧ ∀ x ∈ xs.take i, x.length ≤ 30000) ?_ ?_
  · exact ⟨xs.length, 0, by omega, rfl, rfl, rfl, by omega, by simp [ZZ], by simp⟩
  · rintro m g w_ ⟨i, hi, h4, h3, hw, hi2, hz, hall⟩
    subst hw
    refine OkC.env ?_ (fixH (L := [(4, _), (3, _)]) ⟨h4, h3, trivial⟩)
    clear h4 h3
    refine c_seq ?_
    refine c_rseq ?_
    refine l_v (by first | exact (r_move (v := iV _) rfl) | exact (r_move rfl)) ?_
    refine l_v (by first | exact (r_move (v := .slice _ _ _) rfl) | exact (r_move rfl)) ?_
    refine l_v (r_len_l Try.underlying22 rfl) ?_
    refine l_v (r_lssi rfl rfl) ?_
    refine l_nil (nrm_then ?_)
    refine c_cond rfl (fun h1 => ?_) (fun h1 => ?_)
    · have hil : i < xs.length := by have := of_decide_eq_true h1; omega
      have hu := xV_get hil
      obtain ⟨ad, rfl, _⟩ := hr.ad (by omega)
      have htn := take_next hil
      have hzn := ZZ_next hil
      generalize xs[i] = x at *
      replace h1 := of_decide_eq_true h1
      refine c_skip (nrm_then ?_)
      refine c_seq ?_
      refine c_block ?_
      refine c_seq ?_
      refine c_rseq ?_
      refine l_v (by first | exact (r_move (v := iV _) rfl) | exact (r_move rfl)) ?_
      refine l_v (r_geqi rfl rfl) ?_
      by_cases h2 : (i : Int) ≥ 200
      · have f2 : decide ((i : Int) ≥ 200) = true := decide_eq_true h2
        refine l_v (by first | exact (r_move (v := bV _) rfl) | exact (r_move rfl)) ?_
        refine l_no rfl (f2) ?_
        refine l_no rfl (f2) ?_
        refine l_no rfl (f2) ?_
        refine l_no rfl (f2) ?_
        refine l_no rfl (f2) ?_
        refine l_no rfl (f2) ?_
        refine l_v (r_pick_t rfl f2 rfl) ?_
        refine l_v (by first | exact (r_move (v := bV _) rfl) | exact (r_move rfl)) ?_
        refine l_no rfl (rfl) ?_
        refine l_no rfl (rfl) ?_
        refine l_v (r_pick_t rfl rfl rfl) ?_
        refine l_nil (nrm_then ?_)
        refine c_true rfl (rfl) ?_
        refine c_rseq ?_
        refine l_v (by first | exact (r_assign (v := bV _) rfl) | exact (r_assign rfl)) ?_
        refine l_nil (nrm_then ?_)
        refine c_ret (ret_then (ret_block (ret_then (ret_then (ret_block (ret_then ?_))))))
        show Fin _ _ _ _ _
        refine fin1 rfl ?_
        exact ⟨false, rfl, (fun h => by cases h), hs.below⟩
      · have f2 : decide ((i : Int) ≥ 200) = false := decide_eq_false h2
        refine l_v (by first | exact (r_move (v := bV _) rfl) | exact (r_move rfl)) ?_
        refine l_vg (by first | exact (r_move (v := .slice _ _ _) rfl) | exact (r_move rfl)) rfl (f2) ?_
        refine l_vg (by first | exact (r_move (v := iV _) rfl) | exact (r_move rfl)) rfl (f2) ?_
        refine l_vg (by first | exact (r_indexAddr_o1 Try.underlying22 I9 rfl rfl (by omega)) | exact (r_indexAddr_l1 Try.underlying22 I9 rfl rfl (by omega)) | exact (r_indexAddr_l Try.underlying22 I9 rfl rfl (by omega))) rfl (f2) ?_
        refine l_vg (r_load Try.underlying9 rfl (rd_get hr hs.below hu)) rfl (f2) ?_
        refine l_vg (r_len_s Try.underlying9 rfl) rfl (f2) ?_
        refine l_vg (r_gtri rfl rfl) rfl (f2) ?_
        refine l_v (r_pick_f rfl f2 rfl) ?_
        by_cases h5 : (((ofL x).size : Nat) : Int) > 30000
        · have f5 : decide ((((ofL x).size : Nat) : Int) > 30000) = true := decide_eq_true h5
          refine l_v (by first | exact (r_move (v := bV _) rfl) | exact (r_move rfl)) ?_
          refine l_no rfl (f5) ?_
          refine l_no rfl (f5) ?_
          refine l_v (r_pick_t rfl f5 rfl) ?_
          refine l_nil (nrm_then ?_)
          refine c_true rfl (rfl) ?_
          refine c_rseq ?_
          refine l_v (by first | exact (r_assign (v := bV _) rfl) | exact (r_assign rfl)) ?_
          refine l_nil (nrm_then ?_)
          refine c_ret (ret_then (ret_block (ret_then (ret_then (ret_block (ret_then ?_))))))
          show Fin _ _ _ _ _
          refine fin1 rfl ?_
          exact ⟨false, rfl, (fun h => by cases h), hs.below⟩
        · have f5 : decide ((((ofL x).size : Nat) : Int) > 30000) = false := decide_eq_false h5
          have h5' : x.length ≤ 30000 := by have h : ¬ ((x.length : Nat) : Int) > 30000 := h5; omega
          refine l_v (by first | exact (r_move (v := bV _) rfl) | exact (r_move rfl)) ?_
          refine l_vg (by first | exact (r_move (v := iV _) rfl) | exact (r_move rfl)) rfl (f5) ?_
          refine l_vg (r_gtri rfl rfl) rfl (f5) ?_
          refine l_v (r_pick_f rfl f5 rfl) ?_
          refine l_nil (nrm_then ?_)
          refine c_cond rfl (fun h6 => ?_) (fun h6 => ?_)
          · replace h6 := of_decide_eq_true h6
            refine c_rseq ?_
            refine l_v (by first | exact (r_assign (v := bV _) rfl) | exact (r_assign rfl)) ?_
            refine l_nil (nrm_then ?_)
            refine c_ret (ret_then (ret_block (ret_then (ret_then (ret_block (ret_then ?_))))))
            show Fin _ _ _ _ _
            refine fin1 rfl ?_
            exact ⟨false, rfl, (fun h => by cases h), hs.below⟩
          · have h6' : ZZ xs i ≤ 30000 := by have h : ¬ ((ZZ xs i : Nat) : Int) > 30000 := of_decide_eq_false h6; omega
            have hxz : (ofL x).size = x.length := rfl
            have hall2 : ∀ y ∈ xs.take (i + 1), y.length ≤ 30000 := by
              rw [htn]
              intro y hy
              rcases List.mem_append.1 hy with h | h
              · exact hall y h
              · rw [List.mem_singleton.1 h]; exact h5'
            replace h6 := of_decide_eq_false h6
            refine c_skip (nrm_then ?_)
            refine c_region ?_
            refine l_v (by first | exact (r_move (v := iV _) rfl) | exact (r_move rfl)) ?_
            refine l_v (by first | exact (r_move (v := .slice _ _ _) rfl) | exact (r_move rfl)) ?_
            refine l_v (by first | exact (r_move (v := iV _) rfl) | exact (r_move rfl)) ?_
            refine l_v (by first | exact (r_indexAddr_o1 Try.underlying22 I9 rfl rfl (by omega)) | exact (r_indexAddr_l1 Try.underlying22 I9 rfl rfl (by omega)) | exact (r_indexAddr_l Try.underlying22 I9 rfl rfl (by omega))) ?_
            refine l_v (r_load Try.underlying9 rfl (rd_get hr hs.below hu)) ?_
            refine l_v (r_len_s Try.underlying9 rfl) ?_
            refine l_v (r_addi rfl rfl (by omega)) ?_
            refine l_v (by first | exact (r_assign (v := iV _) rfl) | exact (r_assign rfl)) ?_
            refine l_nil (nrm_block (nrm_then ?_))
            refine c_region ?_
            refine l_v (by first | exact (r_move (v := iV _) rfl) | exact (r_move rfl)) ?_
            refine l_v (r_addi rfl rfl (by omega)) ?_
            refine l_v (by first | exact (r_assign (v := iV _) rfl) | exact (r_assign rfl)) ?_
            refine l_nil (nrm_then ?_)
            refine And.intro (by refine ⟨?_, trivial⟩ <;> ((conv => lhs; whnf); (try conv => rhs; whnf))) ?_
            exact ⟨xs.length - (i + 1), by omega, i + 1, by omega, rfl, congrArg iV (by rw [hzn, hxz]; omega), rfl, by have h : ¬ (i : Int) ≥ 200 := h2; omega, by omega, hall2⟩
    · obtain rfl : i = xs.length := by have := of_decide_eq_false h1; omega
      rw [List.take_length] at hall
      replace h1 := of_decide_eq_false h1
      refine c_exit (ex_then (ex_then (ex_hit (nrm_then ?_))))
      refine c_rseq ?_
      refine l_v (by first | exact (r_move (v := iV _) rfl) | exact (r_move rfl)) ?_
      refine l_v (r_leqi rfl rfl) ?_
      refine l_v (by first | exact (r_assign (v := bV _) rfl) | exact (r_assign rfl)) ?_
      refine l_nil (nrm_then ?_)
      refine c_ret ?_
      show Fin _ _ _ _ _
      refine fin1 rfl ?_
      exact ⟨_, rfl, fun h => ⟨hi2, hall, by have h : ((ZZ xs xs.length : Nat) : Int) ≤ 30000 := of_decide_eq_true h; omega⟩, hs.below⟩
set_option maxHeartbeats 2000000 in
theorem end_c (A : Option Addr) (c n i : Nat) (xs : List (List UInt8)) (hi : i ≤ n) (w : World) (hr : Rd w 1 A n ((List.range n).map fun j => iV ((EE xs (j + 1) : Nat) : Int))) :
    Calls Try.prog 16 #[.slice A n c, iV (i : Int)] w fun e w' => e = .returned (iV ((EE xs i : Nat) : Int)) ∧ w' = w := by
  have hn := hr.2.1
  have hs := Sep.init w
  refine enter (P := Try.prog) Try.func16 rfl rfl ?_
  refine c_rseq ?_
  refine l_v (by first | exact (r_assign (v := iV _) rfl) | exact (r_assign rfl)) ?_
  refine l_nil (nrm_then ?_)
  refine c_seq ?_
  refine c_rseq ?_
  refine l_v (by first | exact (r_move (v := iV _) rfl) | exact (r_move rfl)) ?_
  refine l_v (r_eqli rfl rfl) ?_
  refine l_nil (nrm_then ?_)
  refine c_cond rfl (fun h => ?_) (fun h => ?_)
  · replace h := of_decide_eq_true h
    refine c_rseq ?_
    refine l_v (by first | exact (r_assign (v := iV _) rfl) | exact (r_assign rfl)) ?_
    refine l_nil (nrm_then ?_)
    refine c_ret (ret_then ?_)
    show Fin _ _ _ _ _
    refine fin1 rfl ?_
    have h' : i = 0 := by omega
    subst h'
    exact ⟨rfl, rfl⟩
  · have h' : 0 < i := by have h := of_decide_eq_false h; omega
    obtain ⟨ad, rfl, hc⟩ := hr.ad (by omega)
    have hu : ((List.range n).map fun j => iV ((EE xs (j + 1) : Nat) : Int))[i - 1]? = some (iV ((EE xs i : Nat) : Int)) := by
      rw [List.getElem?_map, List.getElem?_range (by omega)]; show some (iV ((EE xs (i - 1 + 1) : Nat) : Int)) = _; rw [show i - 1 + 1 = i by omega]
    replace h := of_decide_eq_false h
    refine c_skip (nrm_then ?_)
    refine c_rseq ?_
    refine l_v (by first | exact (r_move (v := .slice _ _ _) rfl) | exact (r_move rfl)) ?_
    refine l_v (by first | exact (r_move (v := iV _) rfl) | exact (r_move rfl)) ?_
    refine l_v (r_subi rfl rfl (by omega)) ?_
    refine l_v (r_indexAddr_l1 (k := i - 1) Try.underlying31 I3 rfl (congrArg iV (by omega)) (by omega)) ?_
    refine l_v (r_load Try.underlying3 rfl (rd_get hr hs.below hu)) ?_
    refine l_v (by first | exact (r_assign (v := iV _) rfl) | exact (r_assign rfl)) ?_
    refine l_nil (nrm_then ?_)
    refine c_ret ?_
    show Fin _ _ _ _ _
    refine fin1 rfl ?_
    exact ⟨rfl, rfl⟩
end Go.Proofs.Ytlkljeghhahedaa.Wal
