/- The walks of Pack and of the document's Pack. -/
import Derived.Test.YtfjnjnkmkbbjoaaBlkPack
import Derived.Test.YtfjnjnkmkbbjoaaSixRef
import Derived.Test.YtfjnjnkmkbbjoaaRefTake
namespace Go.Proofs.Ytfjnjnkmkbbjoaa.Blk
open Go Go.RowKit Go.Proofs.Ytfjnjnkmkbbjoaa.Eng Go.Proofs.Ytfjnjnkmkbbjoaa.Six Go.Proofs.Ytfjnjnkmkbbjoaa.CrcFn
set_option linter.unusedVariables false
set_option maxRecDepth 100000
theorem chk_zero {xs : List Ent} : ∀ {p : Option (List UInt8)}, chk p xs = 0 → ∀ x ∈ xs, x.key.length ≤ 65536 ∧ x.val.length ≤ 65536 := by
  induction xs with
  | nil => intro p _ x hx; cases hx
  | cons y xs ih =>
    intro p h x hx
    rw [chk] at h
    split at h
    · cases h
    · rename_i h1
      split at h
      · cases h
      · rcases List.mem_cons.1 hx with rfl | hx
        · omega
        · exact ih h x hx
theorem check_zero {xs : List Ent} (h : check xs = 0) : xs.length ≤ 65536 ∧ ∀ x ∈ xs, x.key.length ≤ 65536 ∧ x.val.length ≤ 65536 := by
  unfold check at h
  split at h
  · cases h
  · exact ⟨by omega, chk_zero h⟩
theorem chk_some {xs : List Ent} : ∀ p, 0 ≤ chk p xs := by
  induction xs with
  | nil => intro p; exact Int.le_refl _
  | cons y xs ih => intro p; rw [chk]; split; · decide
                    split; · decide
                    exact ih _
theorem packB_len {xs : List Ent} (hn : xs.length ≤ 65536) (h : ∀ x ∈ xs, x.key.length ≤ 65536 ∧ x.val.length ≤ 65536) : (packB xs).length ≤ 70368744177664 := by
  have h1 := enc_len 64 xs.length (by omega)
  have h2 := packL_len h []
  unfold packB
  rw [List.length_append]
  omega
def packR (xs : List Ent) : List UInt8 := if check xs = 0 then put (packB xs) else []
set_option maxHeartbeats 4000000 in
theorem pack_c (A : Option Addr) (c : Nat) (xs : List Ent) (w : World) (hr : Rd w 3 A xs.length (xs.flatMap entC)) :
    Calls Try.prog 9 #[.slice A xs.length c] w fun e w' => e = .returned (.tuple #[sV (ofL (packR xs)), iV (check xs)]) ∧ Below w.heap.size w w' := by
  unfold packR
  refine enter (P := Try.prog) Try.func9 rfl rfl ?_
  have hs := Sep.init w
  refine c_rseq ?_
  refine l_v (by first | exact (r_assign (v := sV _) rfl) | exact (r_assign rfl)) ?_
  refine l_v (by first | exact (r_assign (v := iV _) rfl) | exact (r_assign rfl)) ?_
  refine l_nil (nrm_then ?_)
  refine c_seq ?_
  refine c_rseq ?_
  refine l_v (by first | exact (r_move (v := .slice _ _ _) rfl) | exact (r_move rfl)) ?_
  refine l_call (r_call Try.func11 rfl rfl) ?_
  refine Calls.mono (check_c A c xs _ hr) ?_
  rintro e w_ ⟨rfl, hb⟩
  refine ⟨_, rfl, ?_⟩
  have hs := hs.below_ hb
  refine l_v (by first | exact (r_assign (v := iV _) rfl) | exact (r_assign rfl)) ?_
  refine l_nil (nrm_then ?_)
  refine c_rseq ?_
  refine l_v (by first | exact (r_move (v := iV _) rfl) | exact (r_move rfl)) ?_
  refine l_v (r_neqi rfl rfl) ?_
  refine l_nil (nrm_then ?_)
  refine c_cond rfl (fun h1 => ?_) (fun h1 => ?_)
  · have h1' : ¬ check xs = 0 := of_decide_eq_true h1
    rw [if_neg h1']
    replace h1 := of_decide_eq_true h1
    refine c_rseq ?_
    refine l_v (by first | exact (r_move (v := iV _) rfl) | exact (r_move rfl)) ?_
    refine l_v (by first | exact (r_assign (v := sV _) rfl) | exact (r_assign rfl)) ?_
    refine l_v (by first | exact (r_assign (v := iV _) rfl) | exact (r_assign rfl)) ?_
    refine l_nil (nrm_then ?_)
    refine c_ret (ret_then ?_)
    show Fin _ _ _ _ _
    refine fin2 rfl ?_
    exact ⟨rfl, hs.below⟩
  · have h1' : check xs = 0 := Decidable.of_not_not (of_decide_eq_false h1)
    obtain ⟨hn, hx⟩ := check_zero h1'
    rw [if_pos h1']
    replace h1 := of_decide_eq_false h1
    refine c_skip (nrm_then ?_)
    refine c_rseq ?_
    refine l_call (r_call Try.func19 rfl rfl) ?_
    refine Calls.mono (new_c w _ _ hs) ?_
    rintro e w_ ⟨b5, rfl, hs⟩
    refine ⟨_, rfl, ?_⟩
    refine l_v (r_assign (v := .pointer _) rfl) ?_
    refine l_nil (nrm_then ?_)
    refine c_rseq ?_
    refine l_alloc hs I9 ?_
    intro b6 w6 hs hB6 hlt6
    first | refine l_store (i := 0) (v := sV _) hs rfl I9 rfl rfl (by first | (simp; done) | (simp; omega) | omega) ?_ | refine l_store (i := 1) (v := sV _) hs rfl I9 rfl rfl (by first | (simp; done) | (simp; omega) | omega) ?_ | refine l_store (i := 2) (v := sV _) hs rfl I9 rfl rfl (by first | (simp; done) | (simp; omega) | omega) ?_ | refine l_store (i := 3) (v := sV _) hs rfl I9 rfl rfl (by first | (simp; done) | (simp; omega) | omega) ?_ | refine l_store (i := 4) (v := sV _) hs rfl I9 rfl rfl (by first | (simp; done) | (simp; omega) | omega) ?_ | refine l_store (i := 5) (v := sV _) hs rfl I9 rfl rfl (by first | (simp; done) | (simp; omega) | omega) ?_ | refine l_store (i := 6) (v := sV _) hs rfl I9 rfl rfl (by first | (simp; done) | (simp; omega) | omega) ?_
    intro w_ hs
    refine l_nil (nrm_then ?_)
    refine c_rseq ?_
    refine l_v (r_move (v := .pointer _) rfl) ?_
    refine l_v (by first | exact (r_move (v := .slice _ _ _) rfl) | exact (r_move rfl)) ?_
    refine l_v (r_makeFunc rfl rfl) ?_
    have hs : Eng.Sep w w_ [wtr b5 [], blk b6 [sV (ofL [])] 9] := hs.pull 1
    refine l_call (r_call Try.func20 rfl rfl) ?_
    refine Calls.mono (putlist_c A c xs hr hx hn b5 b6 _ hs) ?_
    rintro e w_ ⟨rfl, v, hs⟩
    refine ⟨_, rfl, ?_⟩
    refine l_nil (nrm_then ?_)
    refine c_rseq ?_
    refine l_v (r_move (v := .pointer _) rfl) ?_
    refine l_call (r_call Try.func27 rfl rfl) ?_
    refine Calls.mono (bytes_c (packB xs) b5 w _ _ hs) ?_
    rintro e w_ ⟨rfl, rfl⟩
    refine ⟨_, rfl, ?_⟩
    have hpl := packB_len hn hx
    refine l_call (r_call Try.func26 rfl rfl) ?_
    refine Calls.mono (Crc.put_c (ofL (packB xs)) _ (by show (packB xs).length ≤ _; omega)) ?_
    rintro e w_ ⟨rfl, hb⟩
    refine ⟨_, rfl, ?_⟩
    have hs := hs.below_ hb
    refine l_v (by first | exact (r_assign (v := sV _) rfl) | exact (r_assign rfl)) ?_
    refine l_v (by first | exact (r_assign (v := iV _) rfl) | exact (r_assign rfl)) ?_
    refine l_nil (nrm_then ?_)
    refine c_ret ?_
    show Fin _ _ _ _ _
    refine fin2 rfl ?_
    rw [h1', Eng.toL_ofL]
    exact ⟨rfl, hs.below⟩
theorem refwhole_b (n : Int) (hn : -9223372036854775808 ≤ n ∧ n ≤ 9223372036854775807) (w : World) :
    Calls Try.prog 28 #[iV n] w fun e w' => e = .returned (sV (ofL (encW n))) ∧ Below w.heap.size w w' :=
  (refwhole_c n hn w w [] (Eng.Sep.init w)).mono fun _ _ h => ⟨h.1, h.2.below⟩
theorem reftext_b (s : ByteArray) (hz : s.size ≤ 9223372036854775796) (w : World) :
    Calls Try.prog 30 #[sV s] w fun e w' => e = .returned (sV (ofL (encT (toL s)))) ∧ Below w.heap.size w w' :=
  (reftext_c s hz w w [] (Eng.Sep.init w)).mono fun _ _ h => ⟨h.1, h.2.below⟩
theorem ofL_append (a b : List UInt8) : ofL a ++ ofL b = ofL (a ++ b) := Eng.toL_inj (by rw [Eng.toL_append, Eng.toL_ofL, Eng.toL_ofL, Eng.toL_ofL])
set_option maxHeartbeats 4000000 in
theorem rpack_c (A : Option Addr) (c : Nat) (xs : List Ent) (hn : xs.length ≤ 65536) (hx : ∀ x ∈ xs, x.key.length ≤ 65536 ∧ x.val.length ≤ 65536) (w : World) (hr : Rd w 3 A xs.length (xs.flatMap entC)) :
    Calls Try.prog 13 #[.slice A xs.length c] w fun e w' => e = .returned (sV (ofL (put (packB xs)))) ∧ Below w.heap.size w w' := by
  have hpb := packB_len hn hx
  have hel := enc_len 64 xs.length (by omega)
  unfold packB at *
  refine enter (P := Try.prog) Try.func13 rfl rfl ?_
  have hs := Sep.init w
  refine c_rseq ?_
  refine l_v (by first | exact (r_assign (v := sV _) rfl) | exact (r_assign rfl)) ?_
  refine l_nil (nrm_then ?_)
  refine c_rseq ?_
  refine l_v (by first | exact (r_move (v := .slice _ _ _) rfl) | exact (r_move rfl)) ?_
  refine l_v (r_len_l Try.underlying22 rfl) ?_
  refine l_call (r_call Try.func28 rfl rfl) ?_
  refine Calls.mono (refwhole_c (xs.length : Int) (by omega) w _ _ hs) ?_
  rintro e w_ ⟨rfl, hs⟩
  refine ⟨_, rfl, ?_⟩
  rw [encW_nat]
  refine l_v (by first | exact (r_assign (v := sV _) rfl) | exact (r_assign rfl)) ?_
  refine l_nil (nrm_then ?_)
  refine c_rseq ?_
  refine l_v (by first | exact (r_assign (v := sV _) rfl) | exact (r_assign rfl)) ?_
  refine l_nil (nrm_then ?_)
  refine c_seq ?_
  refine c_rseq ?_
  refine l_v (by first | exact (r_assign (v := iV _) rfl) | exact (r_assign rfl)) ?_
  refine l_nil (nrm_then ?_)
  refine c_block ?_
  refine c_loopn [0, 2] (fun m f' w' => ∃ i, i + m = xs.length ∧ f' 5 = iV (i : Int) ∧ f' 3 = sV (ofL (enc 64 xs.length ++ packL [] (xs.take i))) ∧ f' 4 = sV (ofL (lastK (xs.take i))) ∧ (lastK (xs.take i)).length ≤ 65536 ∧ Eng.Sep w w' []) ?_ ?_
  · exact ⟨xs.length, 0, by omega, rfl, by rw [List.take_zero, packL, List.append_nil]; rfl, rfl, by simp [lastK], hs⟩
  · rintro m g w_ ⟨i, hi, h5, h3, h4, hlk, hs⟩
    have hpl := packL_len (xs := xs.take i) (fun x h => hx x (List.mem_of_mem_take h)) []
    have htl : (xs.take i).length ≤ xs.length := by rw [List.length_take]; omega
    refine OkC.env ?_ (fixH (L := [(5, _), (3, _), (4, _)]) ⟨h5, h3, h4, trivial⟩)
    clear h5 h3 h4
    refine c_seq ?_
    refine c_rseq ?_
    refine l_v (by first | exact (r_move (v := iV _) rfl) | exact (r_move rfl)) ?_
    refine l_v (by first | exact (r_move (v := .slice _ _ _) rfl) | exact (r_move rfl)) ?_
    refine l_v (r_len_l Try.underlying22 rfl) ?_
    refine l_v (r_lssi rfl rfl) ?_
    refine l_nil (nrm_then ?_)
    refine c_cond rfl (fun h2 => ?_) (fun h2 => ?_)
    · have hil : i < xs.length := by have := of_decide_eq_true h2; omega
      obtain ⟨x, hxi⟩ : ∃ x, xs[i]? = some x := ⟨xs[i], List.getElem?_eq_getElem hil⟩
      have hr0 := hr.below hs.below
      obtain ⟨ad, rfl, _⟩ := hr.ad (by omega)
      have hX := rd_item hr0 (fun y _ => rfl) (by decide) hxi
      have hel : (entC x).length = 3 := rfl
      have hone := ent_one x
      obtain ⟨hk, hv⟩ := hx x (List.mem_of_getElem? hxi)
      have htn := take_nextE hxi
      have hkz : (ofL x.key).size = x.key.length := rfl
      have hvz : (ofL x.val).size = x.val.length := rfl
      generalize hS : enc 64 xs.length ++ packL [] (xs.take i) = S at *
      have hSl : S.length ≤ 11 + xs.length * 131105 := by rw [← hS, List.length_append]; omega
      have hSn : enc 64 xs.length ++ packL [] (xs.take (i + 1)) = S ++ packE (lastK (xs.take i)) x := by rw [htn, packL_next, ← List.append_assoc, hS]
      have hLn : lastK (xs.take (i + 1)) = x.key := by rw [htn, lastK_next]
      generalize lastK (xs.take i) = last at *
      have hlz : (ofL last).size = last.length := rfl
      have hsl := share_le last x.key
      have hpe : packE last x = enc 64 (shareN last x.key) ++ (encT (x.key.drop (shareN last x.key)) ++ packV x) := rfl
      replace h2 := of_decide_eq_true h2
      refine c_skip (nrm_then ?_)
      refine c_seq ?_
      refine c_block ?_
      refine c_rseq ?_
      refine l_v (by first | exact (r_move (v := .slice _ _ _) rfl) | exact (r_move rfl)) ?_
      refine l_v (by first | exact (r_move (v := iV _) rfl) | exact (r_move rfl)) ?_
      refine l_v (r_indexAddr_l (k := i) Try.underlying22 I44 rfl rfl hil) ?_
      refine l_v (r_load_aggP Try.underlying44 I44 rfl hX rfl) ?_
      refine l_alloc hs I44 ?_
      intro b6 w6 hs hB6 hlt6
      first | refine l_store_whole (i := 0) hs rfl I44 rfl rfl (by first | assumption | (simp; done)) (by first | assumption | (simp; done)) (by first | assumption | simp [Value.oneCell']) ?_ | refine l_store_whole (i := 1) hs rfl I44 rfl rfl (by first | assumption | (simp; done)) (by first | assumption | (simp; done)) (by first | assumption | simp [Value.oneCell']) ?_ | refine l_store_whole (i := 2) hs rfl I44 rfl rfl (by first | assumption | (simp; done)) (by first | assumption | (simp; done)) (by first | assumption | simp [Value.oneCell']) ?_ | refine l_store_whole (i := 3) hs rfl I44 rfl rfl (by first | assumption | (simp; done)) (by first | assumption | (simp; done)) (by first | assumption | simp [Value.oneCell']) ?_ | refine l_store_whole (i := 4) hs rfl I44 rfl rfl (by first | assumption | (simp; done)) (by first | assumption | (simp; done)) (by first | assumption | simp [Value.oneCell']) ?_ | refine l_store_whole (i := 5) hs rfl I44 rfl rfl (by first | assumption | (simp; done)) (by first | assumption | (simp; done)) (by first | assumption | simp [Value.oneCell']) ?_ | refine l_store_whole (i := 6) hs rfl I44 rfl rfl (by first | assumption | (simp; done)) (by first | assumption | (simp; done)) (by first | assumption | simp [Value.oneCell']) ?_
      intro w_ hs
      refine l_nil (nrm_then ?_)
      refine c_rseq ?_
      refine l_v (by first | exact (r_move (v := sV _) rfl) | exact (r_move rfl)) ?_
      refine l_v (by first | exact (r_fieldAddr0 (off := 0) (T := 9) (by kernel_rfl) rfl) | exact (r_fieldAddr (off := 0) (T := 9) (by kernel_rfl) rfl)) ?_
      refine l_v (by first | exact (r_load_at (i := 0) hs rfl Try.underlying9 rfl rfl) | exact (r_load_at (i := 1) hs rfl Try.underlying9 rfl rfl) | exact (r_load_at (i := 2) hs rfl Try.underlying9 rfl rfl) | exact (r_load_at (i := 3) hs rfl Try.underlying9 rfl rfl) | exact (r_load_at (i := 4) hs rfl Try.underlying9 rfl rfl) | exact (r_load_at (i := 5) hs rfl Try.underlying9 rfl rfl) | exact (r_load_at (i := 6) hs rfl Try.underlying9 rfl rfl)) ?_
      have hs : Eng.Sep w w_ [blk b6 (entC x) 44] := hs
      refine l_call (r_call Try.func29 rfl rfl) ?_
      refine Calls.mono (rshared_c (ofL last) (ofL x.key) (by omega) (by omega) _) ?_
      rintro e w_ ⟨rfl, hb⟩
      refine ⟨_, rfl, ?_⟩
      have hs := hs.below_ hb
      rw [Eng.toL_ofL, Eng.toL_ofL]
      generalize hN : shareN last x.key = N at *
      have hn1 := enc_len 64 N (by omega)
      have hn2 := enc_len 64 (x.key.drop N).length (by rw [List.length_drop]; omega)
      have hdl : (x.key.drop N).length = x.key.length - N := List.length_drop ..
      have hel2 : (encT (x.key.drop N)).length ≤ 11 + x.key.length := by unfold encT; rw [List.length_append]; omega
      have eN := encW_nat N
      have ex : (ofL x.key).extract ((N : Int)).toNat (ofL x.key).size = ofL (x.key.drop N) := Eng.toL_inj (by rw [Eng.toL_extract, Int.toNat_natCast, Eng.toL_ofL, Eng.toL_ofL, hkz, List.take_of_length_le (by omega)])
      refine l_v (by first | exact (r_assign (v := iV _) rfl) | exact (r_assign rfl)) ?_
      refine l_nil (nrm_then ?_)
      refine c_seq ?_
      refine c_float [8, 2] 9 (by kernel_rfl) (by kernel_rfl) ?_
      intro hbF
      show OkF _ _ _ _ _ _ (_ :: _) 0 _ _
      refine f_v (fun wl hbl => by have hs := hs.below_ hbl; first | exact (r_move (v := sV _) rfl) | exact (r_move rfl)) ?_
      refine f_v (fun wl hbl => by have hs := hs.below_ hbl; first | exact (r_move (v := iV _) rfl) | exact (r_move rfl)) ?_
      refine f_call (r_call Try.func28 rfl rfl) ?_
      refine Calls.mono (refwhole_b (N : Int) (by omega) _) ?_
      rintro e w_ ⟨rfl, hb⟩
      have hbF := hbF.trans (Below.mono hb hbF.size)
      refine ⟨_, rfl, hb, ?_⟩
      rw [eN]
      refine f_v (fun wl hbl => by have hs := hs.below_ hbl; exact (r_adds rfl rfl (by show S.length + (enc 64 N).length ≤ _; omega))) ?_
      refine f_v (fun wl hbl => by have hs := hs.below_ hbl; first | exact (r_fieldAddr0 (off := 0) (T := 9) (by kernel_rfl) rfl) | exact (r_fieldAddr (off := 0) (T := 9) (by kernel_rfl) rfl)) ?_
      refine f_v (fun wl hbl => by have hs := hs.below_ hbl; exact (r_load_at (i := 0) hs rfl Try.underlying9 rfl rfl)) ?_
      refine f_v (fun wl hbl => by have hs := hs.below_ hbl; first | exact (r_move (v := iV _) rfl) | exact (r_move rfl)) ?_
      refine f_v (fun wl hbl => by have hs := hs.below_ hbl; exact (r_slice_sl (N : Int) Try.underlying9 rfl rfl (by omega))) ?_
      rw [ex]
      refine f_call (r_call Try.func30 rfl rfl) ?_
      refine Calls.mono (reftext_b (ofL (x.key.drop N)) (by show (x.key.drop N).length ≤ _; omega) _) ?_
      rintro e w_ ⟨rfl, hb⟩
      have hbF := hbF.trans (Below.mono hb hbF.size)
      refine ⟨_, rfl, hb, ?_⟩
      rw [Eng.toL_ofL]
      refine f_nil ?_
      have hs := hs.below_ hbF
      show OkL _ _ _ _ (_ :: _) _ _
      refine l_v (r_adds rfl rfl (by rw [ByteArray.size_append]; show S.length + (enc 64 N).length + (encT (x.key.drop N)).length ≤ _; omega)) ?_
      refine l_v (by first | exact (r_assign (v := sV _) rfl) | exact (r_assign rfl)) ?_
      refine l_nil (nrm_then ?_)
      refine c_seq ?_
      refine c_rseq ?_
      refine l_v (by first | exact (r_fieldAddr0 (off := 2) (T := 4) (by kernel_rfl) rfl) | exact (r_fieldAddr (off := 2) (T := 4) (by kernel_rfl) rfl)) ?_
      refine l_v (by first | exact (r_load_at (i := 0) hs rfl Try.underlying4 rfl rfl) | exact (r_load_at (i := 1) hs rfl Try.underlying4 rfl rfl) | exact (r_load_at (i := 2) hs rfl Try.underlying4 rfl rfl) | exact (r_load_at (i := 3) hs rfl Try.underlying4 rfl rfl) | exact (r_load_at (i := 4) hs rfl Try.underlying4 rfl rfl) | exact (r_load_at (i := 5) hs rfl Try.underlying4 rfl rfl) | exact (r_load_at (i := 6) hs rfl Try.underlying4 rfl rfl)) ?_
      refine l_nil (nrm_then ?_)
      rw [ofL_append, ofL_append]
      rcases Bool.eq_false_or_eq_true x.gone with hg | hg
      · refine c_true rfl (hg) ?_
        refine c_region ?_
        refine l_v (by first | exact (r_move (v := sV _) rfl) | exact (r_move rfl)) ?_
        refine l_call (r_call Try.func28 rfl rfl) ?_
        refine Calls.mono (refwhole_c 0 (by omega) _ _ _ hs) ?_
        rintro e w_ ⟨rfl, hs⟩
        refine ⟨_, rfl, ?_⟩
        rw [show encW 0 = enc 64 0 from encW_nat 0]
        have hn3 := enc_len 64 0 (by omega)
        refine l_v (r_adds rfl rfl (by show (S ++ enc 64 N ++ encT (x.key.drop N)).length + (enc 64 0).length ≤ _; rw [List.length_append, List.length_append]; omega)) ?_
        refine l_v (by first | exact (r_assign (v := sV _) rfl) | exact (r_assign rfl)) ?_
        refine l_nil (nrm_then ?_)
        refine c_region ?_
        refine l_v (by first | exact (r_fieldAddr0 (off := 0) (T := 9) (by kernel_rfl) rfl) | exact (r_fieldAddr (off := 0) (T := 9) (by kernel_rfl) rfl)) ?_
        refine l_v (by first | exact (r_load_at (i := 0) hs rfl Try.underlying9 rfl rfl) | exact (r_load_at (i := 1) hs rfl Try.underlying9 rfl rfl) | exact (r_load_at (i := 2) hs rfl Try.underlying9 rfl rfl) | exact (r_load_at (i := 3) hs rfl Try.underlying9 rfl rfl) | exact (r_load_at (i := 4) hs rfl Try.underlying9 rfl rfl) | exact (r_load_at (i := 5) hs rfl Try.underlying9 rfl rfl) | exact (r_load_at (i := 6) hs rfl Try.underlying9 rfl rfl)) ?_
        refine l_v (by first | exact (r_assign (v := sV _) rfl) | exact (r_assign rfl)) ?_
        refine l_nil (nrm_block (nrm_then ?_))
        refine c_region ?_
        refine l_v (by first | exact (r_move (v := iV _) rfl) | exact (r_move rfl)) ?_
        refine l_v (r_addi rfl rfl (by omega)) ?_
        refine l_v (by first | exact (r_assign (v := iV _) rfl) | exact (r_assign rfl)) ?_
        refine l_nil (nrm_then ?_)
        have eS : S ++ enc 64 N ++ encT (x.key.drop N) ++ enc 64 0 = enc 64 xs.length ++ packL [] (xs.take (i + 1)) := by
          rw [hSn, hpe, show packV x = enc 64 0 from if_pos hg]; simp only [List.append_assoc]
        rw [ofL_append, eS]
        refine And.intro (by refine ⟨?_, ?_, trivial⟩ <;> ((conv => lhs; whnf); (try conv => rhs; whnf))) ?_
        have hs := hs.drop
        exact ⟨xs.length - (i + 1), by omega, i + 1, by omega, rfl, rfl, congrArg (fun l => sV (ofL l)) hLn.symm, by rw [hLn]; exact hk, hs⟩
      · skip
        refine c_false rfl (hg) ?_
        have hn3 := enc_len 64 (x.val.length + 1) (by omega)
        refine c_float [5] 9 (by kernel_rfl) (by kernel_rfl) ?_
        intro hbF
        show OkF _ _ _ _ _ _ (_ :: _) 0 _ _
        refine f_v (fun wl hbl => by have hs := hs.below_ hbl; first | exact (r_move (v := sV _) rfl) | exact (r_move rfl)) ?_
        refine f_v (fun wl hbl => by have hs := hs.below_ hbl; first | exact (r_fieldAddr0 (off := 1) (T := 9) (by kernel_rfl) rfl) | exact (r_fieldAddr (off := 1) (T := 9) (by kernel_rfl) rfl)) ?_
        refine f_v (fun wl hbl => by have hs := hs.below_ hbl; first | exact (r_load_at (i := 0) hs rfl Try.underlying9 rfl rfl) | exact (r_load_at (i := 1) hs rfl Try.underlying9 rfl rfl) | exact (r_load_at (i := 2) hs rfl Try.underlying9 rfl rfl) | exact (r_load_at (i := 3) hs rfl Try.underlying9 rfl rfl) | exact (r_load_at (i := 4) hs rfl Try.underlying9 rfl rfl) | exact (r_load_at (i := 5) hs rfl Try.underlying9 rfl rfl) | exact (r_load_at (i := 6) hs rfl Try.underlying9 rfl rfl)) ?_
        refine f_v (fun wl hbl => by have hs := hs.below_ hbl; exact (r_len_s Try.underlying9 rfl)) ?_
        refine f_v (fun wl hbl => by have hs := hs.below_ hbl; exact (r_addi rfl rfl (by omega))) ?_
        refine f_call (r_call Try.func28 rfl rfl) ?_
        refine Calls.mono (refwhole_b ((x.val.length + 1 : Nat) : Int) (by omega) _) ?_
        rintro e w_ ⟨rfl, hb⟩
        have hbF := hbF.trans (Below.mono hb hbF.size)
        refine ⟨_, rfl, hb, ?_⟩
        rw [encW_nat]
        refine f_v (fun wl hbl => by have hs := hs.below_ hbl; exact (r_adds rfl rfl (by show (S ++ enc 64 N ++ encT (x.key.drop N)).length + (enc 64 (x.val.length + 1)).length ≤ _; rw [List.length_append, List.length_append]; omega))) ?_
        refine f_v (fun wl hbl => by have hs := hs.below_ hbl; first | exact (r_fieldAddr0 (off := 1) (T := 9) (by kernel_rfl) rfl) | exact (r_fieldAddr (off := 1) (T := 9) (by kernel_rfl) rfl)) ?_
        refine f_v (fun wl hbl => by have hs := hs.below_ hbl; first | exact (r_load_at (i := 0) hs rfl Try.underlying9 rfl rfl) | exact (r_load_at (i := 1) hs rfl Try.underlying9 rfl rfl) | exact (r_load_at (i := 2) hs rfl Try.underlying9 rfl rfl) | exact (r_load_at (i := 3) hs rfl Try.underlying9 rfl rfl) | exact (r_load_at (i := 4) hs rfl Try.underlying9 rfl rfl) | exact (r_load_at (i := 5) hs rfl Try.underlying9 rfl rfl) | exact (r_load_at (i := 6) hs rfl Try.underlying9 rfl rfl)) ?_
        refine f_nil ?_
        have hs := hs.below_ hbF
        show OkL _ _ _ _ (_ :: _) _ _
        refine l_v (r_adds rfl rfl (by rw [ByteArray.size_append]; show (S ++ enc 64 N ++ encT (x.key.drop N)).length + (enc 64 (x.val.length + 1)).length + x.val.length ≤ _; rw [List.length_append, List.length_append]; omega)) ?_
        refine l_v (by first | exact (r_assign (v := sV _) rfl) | exact (r_assign rfl)) ?_
        refine l_nil (nrm_then ?_)
        refine c_region ?_
        refine l_v (by first | exact (r_fieldAddr0 (off := 0) (T := 9) (by kernel_rfl) rfl) | exact (r_fieldAddr (off := 0) (T := 9) (by kernel_rfl) rfl)) ?_
        refine l_v (by first | exact (r_load_at (i := 0) hs rfl Try.underlying9 rfl rfl) | exact (r_load_at (i := 1) hs rfl Try.underlying9 rfl rfl) | exact (r_load_at (i := 2) hs rfl Try.underlying9 rfl rfl) | exact (r_load_at (i := 3) hs rfl Try.underlying9 rfl rfl) | exact (r_load_at (i := 4) hs rfl Try.underlying9 rfl rfl) | exact (r_load_at (i := 5) hs rfl Try.underlying9 rfl rfl) | exact (r_load_at (i := 6) hs rfl Try.underlying9 rfl rfl)) ?_
        refine l_v (by first | exact (r_assign (v := sV _) rfl) | exact (r_assign rfl)) ?_
        refine l_nil (nrm_block (nrm_then ?_))
        refine c_region ?_
        refine l_v (by first | exact (r_move (v := iV _) rfl) | exact (r_move rfl)) ?_
        refine l_v (r_addi rfl rfl (by omega)) ?_
        refine l_v (by first | exact (r_assign (v := iV _) rfl) | exact (r_assign rfl)) ?_
        refine l_nil (nrm_then ?_)
        have eS : S ++ enc 64 N ++ encT (x.key.drop N) ++ enc 64 (x.val.length + 1) ++ x.val = enc 64 xs.length ++ packL [] (xs.take (i + 1)) := by
          rw [hSn, hpe, show packV x = enc 64 (x.val.length + 1) ++ x.val from if_neg (by rw [hg]; decide)]; simp only [List.append_assoc]
        rw [ofL_append, ofL_append, eS]
        refine And.intro (by refine ⟨?_, ?_, trivial⟩ <;> ((conv => lhs; whnf); (try conv => rhs; whnf))) ?_
        have hs := hs.drop
        exact ⟨xs.length - (i + 1), by omega, i + 1, by omega, rfl, rfl, congrArg (fun l => sV (ofL l)) hLn.symm, by rw [hLn]; exact hk, hs⟩
    · replace h2 := of_decide_eq_false h2
      refine c_exit (ex_then (ex_then (ex_hit (nrm_then ?_))))
      refine c_rseq ?_
      refine l_v (by first | exact (r_move (v := sV _) rfl) | exact (r_move rfl)) ?_
      obtain rfl : i = xs.length := by omega
      rw [List.take_length] at *
      refine l_call (r_call Try.func14 rfl rfl) ?_
      refine Calls.mono (RefCrc.put_c (ofL (enc 64 xs.length ++ packL [] xs)) (by show (enc 64 xs.length ++ packL [] xs).length ≤ _; omega) _) ?_
      rintro e w_ ⟨rfl, hb⟩
      refine ⟨_, rfl, ?_⟩
      have hs := hs.below_ hb
      refine l_v (by first | exact (r_assign (v := sV _) rfl) | exact (r_assign rfl)) ?_
      refine l_nil (nrm_then ?_)
      refine c_ret ?_
      show Fin _ _ _ _ _
      refine fin1 rfl ?_
      rw [Eng.toL_ofL]
      exact ⟨rfl, hs.below⟩
end Go.Proofs.Ytfjnjnkmkbbjoaa.Blk
