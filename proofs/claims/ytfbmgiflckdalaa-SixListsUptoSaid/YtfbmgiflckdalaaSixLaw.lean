/- The walk of the law SixLists. -/
import Derived.Test.YtfbmgiflckdalaaSixLists
namespace Go.Proofs.Ytfbmgiflckdalaa.Six
open Go Go.RowKit Go.Proofs.Ytfbmgiflckdalaa.Eng
set_option linter.unusedVariables false
set_option maxRecDepth 100000
theorem sumS_len : ∀ l : List ByteArray, l.length ≤ sumS l
  | [] => by simp
  | x :: l => by
    have := sumS_len l
    unfold sumS at *
    rw [List.map_cons, List.sum_cons, List.length_cons]; omega
theorem takeA_size : ∀ (m : Nat) (ts : List (List UInt8)) (k : Nat) (l : List UInt8), (takeA m ts k l).2.1 ≤ k + l.length
  | 0, ts, k, l => by simp [takeA]
  | m + 1, ts, k, l => by
    rw [takeA]
    split
    · dsimp only; omega
    · split
      · have := takeA_size m (ts ++ [(text l).1]) (k + (text l).2.1) (l.drop (text l).2.1)
        have h2 := text_size l
        rw [List.length_drop] at this
        omega
      · dsimp only; omega
theorem takeL_size (l : List UInt8) : (takeL l).2.1 ≤ l.length := by
  unfold takeL
  split
  · have h := takeA_size (count l).1.toNat [] (count l).2.1 (l.drop (count l).2.1)
    have h2 := count_size l
    rw [List.length_drop] at h
    omega
  · dsimp only; omega
theorem takeL_put (ts : List ByteArray) (M : ByteArray) (hb : sumS ts ≤ 1048576) : takeL (enc 64 ts.length ++ (ts.flatMap fun s => encT (toL s)) ++ toL M) = (ts.map toL, (enc 64 ts.length ++ ts.flatMap fun s => encT (toL s)).length, 0) := by
  have hnl := sumS_len ts
  unfold takeL
  rw [List.append_assoc, count_enc _ (by omega)]
  dsimp only
  rw [if_pos rfl, List.drop_left, Int.toNat_natCast]
  have h := takeA_put (ts.map toL) (toL M) (enc 64 ts.length).length [] (fun t ht => by
    obtain ⟨s, hs, rfl⟩ := List.mem_map.1 ht
    have := sumS_mem hs
    rw [toL_size]; omega)
  rw [List.length_map, List.flatMap_map] at h
  rw [h, List.nil_append, List.length_append]
set_option maxHeartbeats 4000000 in
theorem sixLists_walk {w : World} (B : Option Addr) (d : Nat) (ts : List ByteArray) (hq : Rd w 1 B ts.length (ts.map sV)) (hd : ts.length ≤ d) (hts : ∀ s ∈ ts, s.size ≤ 9223372036854775807) (M : ByteArray) (hz : M.size ≤ 140737488351232) (hbk : (ts.map fun s => s.size + 1).sum + M.size ≤ 1048576) :
    Calls Try.prog 7 #[.slice B ts.length d, sV M] w fun e w' => e = .returned (bV true) ∧ Below w.heap.size w w' := by
  have hbk : sumS ts + M.size ≤ 1048576 := hbk
  have hn2 := hq.2.1
  have hnl := sumS_len ts
  have hel := enc_len 64 ts.length (by omega)
  have hMl := toL_size M
  have hXl := flatT_len ts (by omega)
  have hput := takeL_put ts M (by omega)
  refine enter (P := Try.prog) Try.func7 rfl rfl ?_
  have hs := Sep.init w
  refine c_rseq ?_
  refine l_v (by first | exact (r_assign (v := bV _) rfl) | exact (r_assign rfl)) ?_
  refine l_nil (nrm_then ?_)
  refine c_rseq ?_
  refine l_call (r_call Try.func14 rfl rfl) ?_
  refine Calls.mono (new_c w _ _ hs) ?_
  rintro e w_ ⟨b5, rfl, hs⟩
  refine ⟨_, rfl, ?_⟩
  refine l_v (r_assign (v := .pointer _) rfl) ?_
  refine l_nil (nrm_then ?_)
  refine c_rseq ?_
  refine l_v (r_move (v := .pointer _) rfl) ?_
  refine l_v (by first | exact (r_move (v := .slice _ _ _) rfl) | exact (r_move rfl)) ?_
  refine l_call (r_call Try.func24 rfl rfl) ?_
  refine Calls.mono (putlist_c B d ts hq (by omega) b5 _ hs) ?_
  rintro e w_ ⟨rfl, hs⟩
  refine ⟨_, rfl, ?_⟩
  refine l_v (by first | exact (r_assign (v := iV _) rfl) | exact (r_assign rfl)) ?_
  refine l_nil (nrm_then ?_)
  refine c_rseq ?_
  refine l_v (by first | exact (r_move (v := .slice _ _ _) rfl) | exact (r_move rfl)) ?_
  refine l_v (r_len_l Try.underlying32 rfl) ?_
  refine l_call (r_call Try.func21 rfl rfl) ?_
  refine Calls.mono (refwhole_c (ts.length : Int) (by omega) w _ _ hs) ?_
  rintro e w_ ⟨rfl, hs⟩
  refine ⟨_, rfl, ?_⟩
  rw [encW_nat]
  refine l_v (by first | exact (r_assign (v := sV _) rfl) | exact (r_assign rfl)) ?_
  refine l_nil (nrm_then ?_)
  refine c_seq ?_
  refine c_rseq ?_
  refine l_v (by first | exact (r_assign (v := iV _) rfl) | exact (r_assign rfl)) ?_
  refine l_nil (nrm_then ?_)
  refine c_block ?_
  refine c_loopn [0, 1, 4, 5, 6] (fun m f' w' => ∃ i, i + m = ts.length ∧ f' 8 = iV (i : Int) ∧ f' 7 = sV (ofL (enc 64 ts.length ++ (ts.take i).flatMap fun s => encT (toL s))) ∧ Sep w w' [wtr b5 (enc 64 ts.length ++ ts.flatMap fun s => encT (toL s))]) ?_ ?_
  · exact ⟨ts.length, 0, by omega, rfl, by rw [List.take_zero, List.flatMap_nil, List.append_nil]; rfl, hs⟩
  · rintro m g w_ ⟨i, hi, h8, h7, hs⟩
    have hst := sumS_take ts i
    have hft := flatT_len (ts.take i) (by omega)
    refine OkC.env ?_ (fixH (L := [(8, _), (7, _)]) ⟨h8, h7, trivial⟩)
    clear h8 h7
    refine c_seq ?_
    refine c_rseq ?_
    refine l_v (by first | exact (r_move (v := iV _) rfl) | exact (r_move rfl)) ?_
    refine l_v (by first | exact (r_move (v := .slice _ _ _) rfl) | exact (r_move rfl)) ?_
    refine l_v (r_len_l Try.underlying32 rfl) ?_
    refine l_v (r_lssi rfl rfl) ?_
    refine l_nil (nrm_then ?_)
    refine c_cond rfl (fun h => ?_) (fun h => ?_)
    · have hil : i < ts.length := by have := of_decide_eq_true h; omega
      have hftk := flatS_take (f := fun s => encT (toL s)) ts i hil
      have hx := sumS_mem (List.getElem_mem hil)
      have hu : (ts.map sV)[i]? = some (sV ts[i]) := by simp [hil]
      obtain ⟨ad, rfl, _⟩ := hq.ad (by omega)
      generalize ts[i] = x at *
      have hxe : (encT (toL x)).length ≤ 11 + x.size := by
        have := enc_len 64 x.size (by omega)
        unfold encT; rw [List.length_append, toL_size]; omega
      replace h := of_decide_eq_true h
      refine c_skip (nrm_then ?_)
      refine c_seq ?_
      refine c_block ?_
      refine c_region ?_
      refine l_v (by first | exact (r_move (v := sV _) rfl) | exact (r_move rfl)) ?_
      refine l_v (by first | exact (r_move (v := .slice _ _ _) rfl) | exact (r_move rfl)) ?_
      refine l_v (by first | exact (r_move (v := iV _) rfl) | exact (r_move rfl)) ?_
      refine l_v (by first | exact (r_indexAddr_o1 Try.underlying32 I9 rfl rfl (by omega)) | exact (r_indexAddr_l1 Try.underlying32 I9 rfl rfl (by omega)) | exact (r_indexAddr_l Try.underlying32 I9 rfl rfl (by omega))) ?_
      refine l_v (r_load Try.underlying9 rfl (rd_get hq hs.below hu)) ?_
      refine l_call (r_call Try.func23 rfl rfl) ?_
      refine Calls.mono (reftext_c x (by omega) w _ _ hs) ?_
      rintro e w_ ⟨rfl, hs⟩
      refine ⟨_, rfl, ?_⟩
      refine l_v (r_adds rfl rfl (by show (enc 64 ts.length ++ _).length + (encT (toL x)).length ≤ _; rw [List.length_append]; omega)) ?_
      refine l_v (by first | exact (r_assign (v := sV _) rfl) | exact (r_assign rfl)) ?_
      refine l_nil (nrm_block (nrm_then ?_))
      refine c_region ?_
      refine l_v (by first | exact (r_move (v := iV _) rfl) | exact (r_move rfl)) ?_
      refine l_v (r_addi rfl rfl (by omega)) ?_
      refine l_v (by first | exact (r_assign (v := iV _) rfl) | exact (r_assign rfl)) ?_
      refine l_nil (nrm_then ?_)
      refine And.intro (by refine ⟨?_, ?_, ?_, ?_, ?_, trivial⟩ <;> ((conv => lhs; whnf); (try conv => rhs; whnf))) ?_
      refine ⟨ts.length - (i + 1), by omega, i + 1, by omega, rfl, ?_, hs⟩
      show sV _ = sV _
      rw [hftk, ← List.append_assoc]
      exact congrArg Value.string (toL_inj (by rw [toL_append]))
    · replace h := of_decide_eq_false h
      refine c_exit (ex_then (ex_then (ex_hit (nrm_then ?_))))
      refine c_seq ?_
      refine c_rseq ?_
      refine l_v (by first | exact (r_move (v := iV _) rfl) | exact (r_move rfl)) ?_
      refine l_v (r_neqi rfl rfl) ?_
      refine l_v (by first | exact (r_move (v := bV _) rfl) | exact (r_move rfl)) ?_
      obtain rfl : i = ts.length := by omega
      rw [List.take_length] at *
      have hXz : (enc 64 ts.length ++ ts.flatMap fun s => encT (toL s)).length ≤ 13000000 := by rw [List.length_append]; omega
      generalize hX : (enc 64 ts.length ++ ts.flatMap fun s => encT (toL s)) = X at *
      have hne : decide (ofL X ≠ ofL X) = false := decide_eq_false (fun h => h rfl)
      refine l_vg (r_move (v := .pointer _) rfl) rfl (rfl) ?_
      refine l_callg (r_call Try.func17 rfl rfl) rfl (rfl) ?_
      refine Calls.mono (bytes_c X b5 w _ _ hs) ?_
      rintro e w_ ⟨rfl, rfl⟩
      refine ⟨_, rfl, ?_⟩
      refine l_vg (by first | exact (r_move (v := sV _) rfl) | exact (r_move rfl)) rfl (rfl) ?_
      refine l_vg (r_neqs rfl rfl) rfl (rfl) ?_
      refine l_v (r_pick_f rfl rfl rfl) ?_
      refine l_nil (nrm_then ?_)
      refine c_false rfl (hne) ?_
      refine c_skip (nrm_then ?_)
      refine c_rseq ?_
      refine l_v (by first | exact (r_assign (v := .func _ _ _) rfl) | exact (r_assign (v := .nilFunc) rfl) | exact (r_assign rfl)) ?_
      refine l_nil (nrm_then ?_)
      refine c_rseq ?_
      refine l_v (by first | exact (r_move (v := sV _) rfl) | exact (r_move rfl)) ?_
      refine l_v (by first | exact (r_move (v := sV _) rfl) | exact (r_move rfl)) ?_
      refine l_v (r_adds rfl rfl (by show X.length + _ ≤ _; omega)) ?_
      refine l_call (r_call Try.func9 rfl rfl) ?_
      refine Calls.mono (over_c _ w _ _ hs) ?_
      rintro e w_ ⟨b10, rfl, hs⟩
      refine ⟨_, rfl, ?_⟩
      have hXM : toL (ofL X ++ M) = X ++ toL M := by rw [toL_append]
      refine l_v (r_assign (v := .pointer _) rfl) ?_
      refine l_nil (nrm_then ?_)
      refine c_rseq ?_
      refine l_v (r_move (v := .pointer _) rfl) ?_
      refine l_v (by first | exact (r_move (v := .func _ _ _) rfl) | exact (r_move (v := .nilFunc) rfl) | exact (r_move rfl)) ?_
      refine l_call (r_call Try.func27 rfl rfl) ?_
      refine Calls.mono (takelist_c (ofL X ++ M) (by rw [ByteArray.size_append]; show X.length + _ ≤ _; omega) b10 w _ _ hs) ?_
      rintro e w_ ⟨v, rfl, hs⟩
      refine ⟨_, rfl, ?_⟩
      rw [hXM, hput] at hs
      rw [hXM, hput]
      have hcut : cut (ofL X ++ M) X.length = M := toL_inj (by unfold cut; rw [toL_ofL, hXM, List.drop_left])
      rw [hcut] at hs
      obtain ⟨A1, c1, rfl, hc1⟩ := hs.rowForm
      have hrd := rowS_rd rfl hs
      refine l_v (r_move rfl) ?_
      refine l_v (r_extract rfl rfl) ?_
      refine l_v (r_extract rfl rfl) ?_
      refine l_v (by first | exact (r_assign (v := .slice _ _ _) rfl) | exact (r_assign rfl)) ?_
      refine l_v (by first | exact (r_assign (v := iV _) rfl) | exact (r_assign rfl)) ?_
      refine l_nil (nrm_then ?_)
      refine c_seq ?_
      refine c_rseq ?_
      refine l_v (by first | exact (r_move (v := iV _) rfl) | exact (r_move rfl)) ?_
      refine l_v (r_neqi rfl rfl) ?_
      refine l_v (by first | exact (r_move (v := bV _) rfl) | exact (r_move rfl)) ?_
      refine l_vg (by first | exact (r_move (v := .slice _ _ _) rfl) | exact (r_move rfl)) rfl (rfl) ?_
      refine l_vg (by first | exact (r_move (v := .slice _ _ _) rfl) | exact (r_move rfl)) rfl (rfl) ?_
      refine l_callg (r_call Try.func28 rfl rfl) rfl (rfl) ?_
      refine Calls.mono (same_n A1 B c1 d _ ts.length ((ts.map toL).map ofL) ts (by rw [List.length_map]) rfl _ hrd (hq.below hs.below)) ?_
      rintro e w_ ⟨rfl, hb⟩
      refine ⟨_, rfl, ?_⟩
      have hs := hs.below_ hb
      have hEq : decide ((ts.map toL).map ofL = ts) = true := decide_eq_true (by
        rw [List.map_map]
        exact List.map_id' ts)
      rw [hEq]
      refine l_vg (r_not rfl) rfl (rfl) ?_
      refine l_v (r_pick_f rfl rfl rfl) ?_
      refine l_v (by first | exact (r_move (v := bV _) rfl) | exact (r_move rfl)) ?_
      refine l_vg (r_move (v := .pointer _) rfl) rfl (rfl) ?_
      refine l_callg (r_call Try.func11 rfl rfl) rfl (rfl) ?_
      refine Calls.mono (rest_c M b10 w _ _ (hs.pull 1)) ?_
      rintro e w_ ⟨rfl, rfl⟩
      refine ⟨_, rfl, ?_⟩
      have hne2 : decide (M ≠ M) = false := decide_eq_false (fun h => h rfl)
      refine l_vg (by first | exact (r_move (v := sV _) rfl) | exact (r_move rfl)) rfl (rfl) ?_
      refine l_vg (r_neqs rfl rfl) rfl (rfl) ?_
      refine l_v (r_pick_f rfl rfl rfl) ?_
      refine l_nil (nrm_then ?_)
      refine c_false rfl (hne2) ?_
      refine c_skip (nrm_then ?_)
      refine c_rseq ?_
      refine l_v (by first | exact (r_move (v := sV _) rfl) | exact (r_move rfl)) ?_
      refine l_call (r_call Try.func9 rfl rfl) ?_
      refine Calls.mono (over_c M w _ _ hs) ?_
      rintro e w_ ⟨b13, rfl, hs⟩
      refine ⟨_, rfl, ?_⟩
      refine l_v (r_assign (v := .pointer _) rfl) ?_
      refine l_nil (nrm_then ?_)
      refine c_rseq ?_
      refine l_v (r_move (v := .pointer _) rfl) ?_
      refine l_v (by first | exact (r_move (v := .func _ _ _) rfl) | exact (r_move (v := .nilFunc) rfl) | exact (r_move rfl)) ?_
      refine l_call (r_call Try.func27 rfl rfl) ?_
      refine Calls.mono (takelist_c M (by omega) b13 w _ _ hs) ?_
      rintro e w_ ⟨v2, rfl, hs⟩
      refine ⟨_, rfl, ?_⟩
      obtain ⟨A2, c2, rfl, hc2⟩ := hs.rowForm
      refine l_v (r_move rfl) ?_
      refine l_v (r_extract rfl rfl) ?_
      refine l_v (r_extract rfl rfl) ?_
      refine l_v (by first | exact (r_assign (v := .slice _ _ _) rfl) | exact (r_assign rfl)) ?_
      refine l_v (by first | exact (r_assign (v := iV _) rfl) | exact (r_assign rfl)) ?_
      refine l_nil (nrm_then ?_)
      refine c_rseq ?_
      refine l_v (by first | exact (r_move (v := sV _) rfl) | exact (r_move rfl)) ?_
      refine l_call (r_call Try.func29 rfl rfl) ?_
      refine Calls.mono (readtexts_c M (by omega) w _ _ hs) ?_
      rintro e w_ ⟨v3, rfl, hs⟩
      refine ⟨_, rfl, ?_⟩
      obtain ⟨A3, c3, rfl, hc3⟩ := hs.rowForm
      have hrd2 := rowS_rd rfl (hs.pull 1)
      have hrd3 := rowS_rd rfl hs
      have hk : (takeL (toL M)).2.1 ≤ M.size := by have := takeL_size (toL M); omega
      generalize takeL (toL M) = T at *
      have hE2 : decide (T.2.2 = T.2.2) = true := decide_eq_true rfl
      have hE3 : decide (T.1.map ofL = T.1.map ofL) = true := decide_eq_true rfl
      refine l_v (r_move rfl) ?_
      refine l_v (r_extract rfl rfl) ?_
      refine l_v (r_extract rfl rfl) ?_
      refine l_v (r_extract rfl rfl) ?_
      refine l_v (by first | exact (r_assign (v := .slice _ _ _) rfl) | exact (r_assign rfl)) ?_
      refine l_v (by first | exact (r_assign (v := iV _) rfl) | exact (r_assign rfl)) ?_
      refine l_v (by first | exact (r_assign (v := iV _) rfl) | exact (r_assign rfl)) ?_
      refine l_nil (nrm_then ?_)
      refine c_seq ?_
      refine c_float [13, 9, 0] 17 (by kernel_rfl) (by kernel_rfl) ?_
      intro hbF
      show OkF _ _ _ _ _ _ (_ :: _) 0 _ _
      refine f_call (r_call Try.func10 rfl rfl) ?_
      refine Calls.mono (awake_c _) ?_
      rintro e w_ ⟨rfl, hb⟩
      have hbF := hbF.trans (Below.mono hb hbF.size)
      refine ⟨_, rfl, hb, ?_⟩
      refine f_v (fun wl hbl => by have hs := hs.below_ hbl; first | exact (r_move (v := bV _) rfl) | exact (r_move rfl)) ?_
      refine f_vg (fun wl hbl => by have hs := hs.below_ hbl; first | exact (r_move (v := iV _) rfl) | exact (r_move rfl)) rfl (rfl) ?_
      refine f_vg (fun wl hbl => by have hs := hs.below_ hbl; first | exact (r_move (v := iV _) rfl) | exact (r_move rfl)) rfl (rfl) ?_
      refine f_vg (fun wl hbl => by have hs := hs.below_ hbl; exact (r_eqli rfl rfl)) rfl (rfl) ?_
      refine f_v (fun wl hbl => by have hs := hs.below_ hbl; exact (r_pick_t rfl rfl rfl)) ?_
      refine f_v (fun wl hbl => by have hs := hs.below_ hbl; first | exact (r_move (v := bV _) rfl) | exact (r_move rfl)) ?_
      refine f_vg (fun wl hbl => by have hs := hs.below_ hbl; first | exact (r_move (v := .slice _ _ _) rfl) | exact (r_move rfl)) rfl (hE2) ?_
      refine f_vg (fun wl hbl => by have hs := hs.below_ hbl; first | exact (r_move (v := .slice _ _ _) rfl) | exact (r_move rfl)) rfl (hE2) ?_
      refine f_callg (r_call Try.func28 rfl rfl) rfl (hE2) ?_
      refine Calls.mono (same_n A2 A3 c2 c3 _ _ (T.1.map ofL) (T.1.map ofL) (by rw [List.length_map]) (by rw [List.length_map]) _ (hrd2.below hbF) (hrd3.below hbF)) ?_
      rintro e w_ ⟨rfl, hb⟩
      have hbF := hbF.trans (Below.mono hb hbF.size)
      refine ⟨_, rfl, hb, ?_⟩
      refine f_v (fun wl hbl => by have hs := hs.below_ hbl; exact (r_pick_t rfl hE2 rfl)) ?_
      refine f_v (fun wl hbl => by have hs := hs.below_ hbl; first | exact (r_move (v := bV _) rfl) | exact (r_move rfl)) ?_
      refine f_vg (fun wl hbl => by have hs := hs.below_ hbl; exact (r_move (v := .pointer _) rfl)) rfl (hE3) ?_
      refine f_callg (r_call Try.func11 rfl rfl) rfl (hE3) ?_
      refine Calls.mono (rest_c (cut M T.2.1) b13 w _ _ (((hs.below_ hbF).pull 2))) ?_
      rintro e w_ ⟨rfl, rfl⟩
      refine ⟨_, rfl, Below.refl _ _, ?_⟩
      refine f_vg (fun wl hbl => by have hs := hs.below_ hbl; first | exact (r_move (v := sV _) rfl) | exact (r_move rfl)) rfl (hE3) ?_
      refine f_vg (fun wl hbl => by have hs := hs.below_ hbl; first | exact (r_move (v := iV _) rfl) | exact (r_move rfl)) rfl (hE3) ?_
      refine f_vg (fun wl hbl => by have hs := hs.below_ hbl; exact (r_slice_sl (T.2.1 : Int) Try.underlying9 rfl rfl (by omega))) rfl (hE3) ?_
      refine f_nil ?_
      have hs := hs.below_ hbF
      show OkL _ _ _ _ (_ :: _) _ _
      refine l_vg (r_eqls rfl rfl) rfl (hE3) ?_
      refine l_v (r_pick_t rfl hE3 rfl) ?_
      refine l_v (by first | exact (r_assign (v := bV _) rfl) | exact (r_assign rfl)) ?_
      refine l_nil (nrm_then ?_)
      refine c_ret ?_
      show Fin _ _ _ _ _
      refine fin1 rfl ?_
      refine ⟨congrArg Ending.returned (congrArg Value.bool (decide_eq_true ?_)), hs.below⟩
      rw [Int.toNat_natCast, extract_cut]
end Go.Proofs.Ytfbmgiflckdalaa.Six
