/- The walks of Pack, with its closure, and of PutList over entries. -/
import Derived.Test.YtfjnjnkmkbbjoaaBlkRCheck
import Derived.Test.YtfjnjnkmkbbjoaaBlkShare
import Derived.Test.YtfjnjnkmkbbjoaaSixWr
import Derived.Test.YtfjnjnkmkbbjoaaCrcBase
namespace Go.Proofs.Ytfjnjnkmkbbjoaa.Blk
open Go Go.RowKit Go.Proofs.Ytfjnjnkmkbbjoaa.Eng Go.Proofs.Ytfjnjnkmkbbjoaa.Six Go.Proofs.Ytfjnjnkmkbbjoaa.CrcFn
set_option linter.unusedVariables false
set_option maxRecDepth 100000
def packV (x : Ent) : List UInt8 := if x.gone = true then enc 64 0 else enc 64 (x.val.length + 1) ++ x.val
def packE (last : List UInt8) (x : Ent) : List UInt8 := enc 64 (shareN last x.key) ++ (encT (x.key.drop (shareN last x.key)) ++ packV x)
def packL : List UInt8 → List Ent → List UInt8
  | _, [] => []
  | last, x :: l => packE last x ++ packL x.key l
def packB (xs : List Ent) : List UInt8 := enc 64 xs.length ++ packL [] xs
theorem packV_len {x : Ent} (hv : x.val.length ≤ 65536) : (packV x).length ≤ 11 + x.val.length := by
  unfold packV
  split
  · have := enc_len 64 0 (by omega); omega
  · have := enc_len 64 (x.val.length + 1) (by omega); rw [List.length_append]; omega
theorem packE_len {last : List UInt8} {x : Ent} (hk : x.key.length ≤ 65536) (hv : x.val.length ≤ 65536) : (packE last x).length ≤ 33 + x.key.length + x.val.length := by
  have h1 := packV_len hv
  have h2 := (share_le last x.key).2
  have h3 := enc_len 64 (shareN last x.key) (by omega)
  have h4 := enc_len 64 (x.key.drop (shareN last x.key)).length (by rw [List.length_drop]; omega)
  unfold packE encT
  rw [List.length_append, List.length_append, List.length_append]
  rw [List.length_drop] at *
  omega
theorem packL_len {xs : List Ent} (h : ∀ x ∈ xs, x.key.length ≤ 65536 ∧ x.val.length ≤ 65536) : ∀ last, (packL last xs).length ≤ xs.length * 131105 := by
  induction xs with
  | nil => intro last; simp [packL]
  | cons x xs ih =>
    intro last
    have h1 := h x (List.mem_cons_self ..)
    have h2 := packE_len (last := last) h1.1 h1.2
    have h3 := ih (fun y hy => h y (List.mem_cons_of_mem _ hy)) x.key
    rw [packL, List.length_append, List.length_cons]
    omega
def lastK (xs : List Ent) : List UInt8 := match xs.getLast? with
  | some x => x.key
  | none => []
theorem packL_snoc (xs : List Ent) (x : Ent) : ∀ last, packL last (xs ++ [x]) = packL last xs ++ packE (match xs.getLast? with | some y => y.key | none => last) x := by
  induction xs with
  | nil => intro last; simp [packL]
  | cons y xs ih =>
    intro last
    rw [List.cons_append, packL, packL, ih, List.append_assoc]
    congr 3
    cases xs with
    | nil => rfl
    | cons z zs => rw [List.getLast?_cons_cons]
                   cases h : (z :: zs).getLast? with
                   | none => simp at h
                   | some u => rfl
theorem packL_next (xs : List Ent) (x : Ent) : packL [] (xs ++ [x]) = packL [] xs ++ packE (lastK xs) x := packL_snoc xs x []
theorem lastK_next (xs : List Ent) (x : Ent) : lastK (xs ++ [x]) = x.key := by unfold lastK; rw [List.getLast?_concat]
set_option maxHeartbeats 4000000 in
theorem put1_c (x : Ent) (hk : x.key.length ≤ 65536) (hv : x.val.length ≤ 65536) (last : List UInt8) (hla : last.length ≤ 65536) (l : List UInt8) (hl : l.length ≤ 70368744177664) (b bl : Nat) (w0 w : World) (R : List HP) (hs : Eng.Sep w0 w (wtr b l :: blk bl [sV (ofL last)] 9 :: R)) :
    Calls Try.prog 21 #[at_ b, .agg (entC x).toArray, at_ bl] w fun e w' => (∃ v, e = .returned v) ∧ Eng.Sep w0 w' (wtr b (l ++ packE last x) :: blk bl [sV (ofL x.key)] 9 :: R) := by
  have hkz : (ofL x.key).size = x.key.length := rfl
  have hvz : (ofL x.val).size = x.val.length := rfl
  have hlz : (ofL last).size = last.length := rfl
  have hsl := share_le last x.key
  have hpe := packV_len hv
  have hn1 := enc_len 64 (shareN last x.key) (by omega)
  have hn2 := enc_len 64 (x.key.drop (shareN last x.key)).length (by rw [List.length_drop]; omega)
  have hdl : (x.key.drop (shareN last x.key)).length = x.key.length - shareN last x.key := List.length_drop ..
  refine enter (P := Try.prog) Try.func21 rfl rfl ?_
  refine c_rseq ?_
  refine l_box hs rfl ?_
  intro b4 w4 hs hB4 hlt4
  refine l_nil (nrm_then ?_)
  refine c_rseq ?_
  refine l_v (by first | exact (r_load_at (i := 0) hs rfl Try.underlying9 rfl rfl) | exact (r_load_at (i := 1) hs rfl Try.underlying9 rfl rfl) | exact (r_load_at (i := 2) hs rfl Try.underlying9 rfl rfl) | exact (r_load_at (i := 3) hs rfl Try.underlying9 rfl rfl) | exact (r_load_at (i := 4) hs rfl Try.underlying9 rfl rfl) | exact (r_load_at (i := 5) hs rfl Try.underlying9 rfl rfl) | exact (r_load_at (i := 6) hs rfl Try.underlying9 rfl rfl)) ?_
  refine l_v (by first | exact (r_fieldAddr0 (off := 0) (T := 9) (by kernel_rfl) rfl) | exact (r_fieldAddr (off := 0) (T := 9) (by kernel_rfl) rfl)) ?_
  refine l_v (by first | exact (r_load_at (i := 0) hs rfl Try.underlying9 rfl rfl) | exact (r_load_at (i := 1) hs rfl Try.underlying9 rfl rfl) | exact (r_load_at (i := 2) hs rfl Try.underlying9 rfl rfl) | exact (r_load_at (i := 3) hs rfl Try.underlying9 rfl rfl) | exact (r_load_at (i := 4) hs rfl Try.underlying9 rfl rfl) | exact (r_load_at (i := 5) hs rfl Try.underlying9 rfl rfl) | exact (r_load_at (i := 6) hs rfl Try.underlying9 rfl rfl)) ?_
  have hs : Eng.Sep w0 w4 (blk b4 (entC x) 44 :: wtr b l :: blk bl [sV (ofL last)] 9 :: R) := hs
  refine l_call (r_call Try.func22 rfl rfl) ?_
  refine Calls.mono (shared_c (ofL last) (ofL x.key) (by omega) (by omega) _) ?_
  rintro e w_ ⟨rfl, hb⟩
  refine ⟨_, rfl, ?_⟩
  have hs := hs.below_ hb
  rw [Eng.toL_ofL, Eng.toL_ofL]
  generalize hN : shareN last x.key = N at *
  refine l_v (by first | exact (r_assign (v := iV _) rfl) | exact (r_assign rfl)) ?_
  refine l_nil (nrm_then ?_)
  refine c_rseq ?_
  refine l_v (r_move (v := .pointer _) rfl) ?_
  refine l_v (by first | exact (r_move (v := iV _) rfl) | exact (r_move rfl)) ?_
  refine l_call (r_call Try.func23 rfl rfl) ?_
  refine Calls.mono (wcount_c (N : Int) (by omega) l (by omega) b w0 _ _ (hs.pull 1)) ?_
  rintro e w_ ⟨rfl, hs⟩
  refine ⟨_, rfl, ?_⟩
  rw [if_neg (by omega), Int.toNat_natCast] at hs
  refine l_nil (nrm_then ?_)
  refine c_rseq ?_
  refine l_v (r_move (v := .pointer _) rfl) ?_
  refine l_v (by first | exact (r_fieldAddr0 (off := 0) (T := 9) (by kernel_rfl) rfl) | exact (r_fieldAddr (off := 0) (T := 9) (by kernel_rfl) rfl)) ?_
  refine l_v (r_load_at (i := 1) hs rfl Try.underlying9 rfl rfl) ?_
  refine l_v (by first | exact (r_move (v := iV _) rfl) | exact (r_move rfl)) ?_
  refine l_v (r_slice_sl (N : Int) Try.underlying9 rfl rfl (by omega)) ?_
  have ex : (ofL x.key).extract ((N : Int)).toNat (ofL x.key).size = ofL (x.key.drop N) := Eng.toL_inj (by rw [Eng.toL_extract, Int.toNat_natCast, Eng.toL_ofL, Eng.toL_ofL, hkz, List.take_of_length_le (by omega)])
  rw [ex]
  refine l_call (r_call Try.func24 rfl rfl) ?_
  refine Calls.mono (wtext_c (ofL (x.key.drop N)) _ (by rw [List.length_append]; show _ + (x.key.drop N).length ≤ _; omega) b w0 _ _ hs) ?_
  rintro e w_ ⟨rfl, hs⟩
  refine ⟨_, rfl, ?_⟩
  rw [Eng.toL_ofL] at hs
  have hel2 : (encT (x.key.drop N)).length ≤ 11 + x.key.length := by unfold encT; rw [List.length_append]; omega
  refine l_nil (nrm_then ?_)
  refine c_seq ?_
  refine c_rseq ?_
  refine l_v (by first | exact (r_fieldAddr0 (off := 2) (T := 4) (by kernel_rfl) rfl) | exact (r_fieldAddr (off := 2) (T := 4) (by kernel_rfl) rfl)) ?_
  refine l_v (by first | exact (r_load_at (i := 0) hs rfl Try.underlying4 rfl rfl) | exact (r_load_at (i := 1) hs rfl Try.underlying4 rfl rfl) | exact (r_load_at (i := 2) hs rfl Try.underlying4 rfl rfl) | exact (r_load_at (i := 3) hs rfl Try.underlying4 rfl rfl) | exact (r_load_at (i := 4) hs rfl Try.underlying4 rfl rfl) | exact (r_load_at (i := 5) hs rfl Try.underlying4 rfl rfl) | exact (r_load_at (i := 6) hs rfl Try.underlying4 rfl rfl)) ?_
  refine l_nil (nrm_then ?_)
  rcases Bool.eq_false_or_eq_true x.gone with hg | hg
  · refine c_true rfl (hg) ?_
    refine c_region ?_
    refine l_v (r_move (v := .pointer _) rfl) ?_
    refine l_call (r_call Try.func23 rfl rfl) ?_
    refine Calls.mono (wcount_c 0 (by omega) _ (by rw [List.length_append, List.length_append]; omega) b w0 _ _ hs) ?_
    rintro e w_ ⟨rfl, hs⟩
    refine ⟨_, rfl, ?_⟩
    rw [if_neg (by omega)] at hs
    have e : l ++ enc 64 N ++ encT (x.key.drop N) ++ enc 64 (Int.toNat 0) = l ++ packE last x := by
      unfold packE packV; rw [if_pos hg, hN, List.append_assoc, List.append_assoc]; rfl
    rw [e] at hs
    refine l_nil (nrm_then ?_)
    refine c_region ?_
    refine l_v (by first | exact (r_fieldAddr0 (off := 0) (T := 9) (by kernel_rfl) rfl) | exact (r_fieldAddr (off := 0) (T := 9) (by kernel_rfl) rfl)) ?_
    refine l_v (by first | exact (r_load_at (i := 0) hs rfl Try.underlying9 rfl rfl) | exact (r_load_at (i := 1) hs rfl Try.underlying9 rfl rfl) | exact (r_load_at (i := 2) hs rfl Try.underlying9 rfl rfl) | exact (r_load_at (i := 3) hs rfl Try.underlying9 rfl rfl) | exact (r_load_at (i := 4) hs rfl Try.underlying9 rfl rfl) | exact (r_load_at (i := 5) hs rfl Try.underlying9 rfl rfl) | exact (r_load_at (i := 6) hs rfl Try.underlying9 rfl rfl)) ?_
    first | refine l_store (i := 0) (v := sV _) hs rfl I9 rfl rfl (by first | (simp; done) | (simp; omega) | omega) ?_ | refine l_store (i := 1) (v := sV _) hs rfl I9 rfl rfl (by first | (simp; done) | (simp; omega) | omega) ?_ | refine l_store (i := 2) (v := sV _) hs rfl I9 rfl rfl (by first | (simp; done) | (simp; omega) | omega) ?_ | refine l_store (i := 3) (v := sV _) hs rfl I9 rfl rfl (by first | (simp; done) | (simp; omega) | omega) ?_ | refine l_store (i := 4) (v := sV _) hs rfl I9 rfl rfl (by first | (simp; done) | (simp; omega) | omega) ?_ | refine l_store (i := 5) (v := sV _) hs rfl I9 rfl rfl (by first | (simp; done) | (simp; omega) | omega) ?_ | refine l_store (i := 6) (v := sV _) hs rfl I9 rfl rfl (by first | (simp; done) | (simp; omega) | omega) ?_
    intro w_ hs
    refine l_nil ?_
    show Fin _ _ _ _ _
    refine fin0 rfl ?_
    exact ⟨⟨_, rfl⟩, (hs.pull 1).drop⟩
  · skip
    refine c_false rfl (hg) ?_
    refine c_rseq ?_
    refine l_v (r_move (v := .pointer _) rfl) ?_
    refine l_v (by first | exact (r_fieldAddr0 (off := 1) (T := 9) (by kernel_rfl) rfl) | exact (r_fieldAddr (off := 1) (T := 9) (by kernel_rfl) rfl)) ?_
    refine l_v (by first | exact (r_load_at (i := 0) hs rfl Try.underlying9 rfl rfl) | exact (r_load_at (i := 1) hs rfl Try.underlying9 rfl rfl) | exact (r_load_at (i := 2) hs rfl Try.underlying9 rfl rfl) | exact (r_load_at (i := 3) hs rfl Try.underlying9 rfl rfl) | exact (r_load_at (i := 4) hs rfl Try.underlying9 rfl rfl) | exact (r_load_at (i := 5) hs rfl Try.underlying9 rfl rfl) | exact (r_load_at (i := 6) hs rfl Try.underlying9 rfl rfl)) ?_
    refine l_v (r_len_s Try.underlying9 rfl) ?_
    refine l_v (r_addi rfl rfl (by omega)) ?_
    refine l_call (r_call Try.func23 rfl rfl) ?_
    refine Calls.mono (wcount_c (((ofL x.val).size : Int) + 1) (by omega) _ (by rw [List.length_append, List.length_append]; omega) b w0 _ _ hs) ?_
    rintro e w_ ⟨rfl, hs⟩
    refine ⟨_, rfl, ?_⟩
    rw [if_neg (by omega), show (((ofL x.val).size : Int) + 1).toNat = x.val.length + 1 by omega] at hs
    have hn3 := enc_len 64 (x.val.length + 1) (by omega)
    refine l_nil (nrm_then ?_)
    refine c_region ?_
    refine l_v (r_move (v := .pointer _) rfl) ?_
    refine l_v (by first | exact (r_fieldAddr0 (off := 1) (T := 9) (by kernel_rfl) rfl) | exact (r_fieldAddr (off := 1) (T := 9) (by kernel_rfl) rfl)) ?_
    refine l_v (by first | exact (r_load_at (i := 0) hs rfl Try.underlying9 rfl rfl) | exact (r_load_at (i := 1) hs rfl Try.underlying9 rfl rfl) | exact (r_load_at (i := 2) hs rfl Try.underlying9 rfl rfl) | exact (r_load_at (i := 3) hs rfl Try.underlying9 rfl rfl) | exact (r_load_at (i := 4) hs rfl Try.underlying9 rfl rfl) | exact (r_load_at (i := 5) hs rfl Try.underlying9 rfl rfl) | exact (r_load_at (i := 6) hs rfl Try.underlying9 rfl rfl)) ?_
    refine l_call (r_call Try.func25 rfl rfl) ?_
    refine Calls.mono (wraw_c (ofL x.val) _ (by rw [List.length_append, List.length_append, List.length_append]; omega) b w0 _ _ hs) ?_
    rintro e w_ ⟨rfl, hs⟩
    refine ⟨_, rfl, ?_⟩
    have e : l ++ enc 64 N ++ encT (x.key.drop N) ++ enc 64 (x.val.length + 1) ++ toL (ofL x.val) = l ++ packE last x := by
      unfold packE packV; rw [if_neg (by rw [hg]; decide), hN, Eng.toL_ofL]; simp only [List.append_assoc]
    rw [e] at hs
    refine l_nil (nrm_then ?_)
    refine c_region ?_
    refine l_v (by first | exact (r_fieldAddr0 (off := 0) (T := 9) (by kernel_rfl) rfl) | exact (r_fieldAddr (off := 0) (T := 9) (by kernel_rfl) rfl)) ?_
    refine l_v (by first | exact (r_load_at (i := 0) hs rfl Try.underlying9 rfl rfl) | exact (r_load_at (i := 1) hs rfl Try.underlying9 rfl rfl) | exact (r_load_at (i := 2) hs rfl Try.underlying9 rfl rfl) | exact (r_load_at (i := 3) hs rfl Try.underlying9 rfl rfl) | exact (r_load_at (i := 4) hs rfl Try.underlying9 rfl rfl) | exact (r_load_at (i := 5) hs rfl Try.underlying9 rfl rfl) | exact (r_load_at (i := 6) hs rfl Try.underlying9 rfl rfl)) ?_
    first | refine l_store (i := 0) (v := sV _) hs rfl I9 rfl rfl (by first | (simp; done) | (simp; omega) | omega) ?_ | refine l_store (i := 1) (v := sV _) hs rfl I9 rfl rfl (by first | (simp; done) | (simp; omega) | omega) ?_ | refine l_store (i := 2) (v := sV _) hs rfl I9 rfl rfl (by first | (simp; done) | (simp; omega) | omega) ?_ | refine l_store (i := 3) (v := sV _) hs rfl I9 rfl rfl (by first | (simp; done) | (simp; omega) | omega) ?_ | refine l_store (i := 4) (v := sV _) hs rfl I9 rfl rfl (by first | (simp; done) | (simp; omega) | omega) ?_ | refine l_store (i := 5) (v := sV _) hs rfl I9 rfl rfl (by first | (simp; done) | (simp; omega) | omega) ?_ | refine l_store (i := 6) (v := sV _) hs rfl I9 rfl rfl (by first | (simp; done) | (simp; omega) | omega) ?_
    intro w_ hs
    refine l_nil ?_
    show Fin _ _ _ _ _
    refine fin0 rfl ?_
    exact ⟨⟨_, rfl⟩, (hs.pull 1).drop⟩
set_option maxHeartbeats 4000000 in
theorem putlist_c {u : World} (B : Option Addr) (d : Nat) (xs : List Ent) (hq : Rd u 3 B xs.length (xs.flatMap entC)) (hx : ∀ x ∈ xs, x.key.length ≤ 65536 ∧ x.val.length ≤ 65536) (hn : xs.length ≤ 65536) (b bl : Nat) (w : World) (hs : Eng.Sep u w [wtr b [], blk bl [sV (ofL [])] 9]) :
    Calls Try.prog 20 #[at_ b, .slice B xs.length d, .func (.func 21) #[] #[at_ bl]] w fun e w' => e = .returned (iV 0) ∧ ∃ v, Eng.Sep u w' [wtr b (packB xs), v] := by
  have hel := enc_len 64 xs.length (by omega)
  unfold packB
  refine enter (P := Try.prog) Try.func20 rfl rfl ?_
  refine c_rseq ?_
  refine l_v (by first | exact (r_assign (v := iV _) rfl) | exact (r_assign rfl)) ?_
  refine l_nil (nrm_then ?_)
  refine c_seq ?_
  refine c_rseq ?_
  refine l_v (r_move (v := .pointer _) rfl) ?_
  refine l_v (by first | exact (r_eqlp_some Try.underlying46 rfl rfl) | exact (r_eqlp_none Try.underlying46 rfl rfl)) ?_
  refine l_v (by first | exact (r_move (v := bV _) rfl) | exact (r_move rfl)) ?_
  refine l_vg (by first | exact (r_move (v := .func _ _ _) rfl) | exact (r_move (v := .nilFunc) rfl) | exact (r_move rfl)) rfl (rfl) ?_
  refine l_vg (by first | exact (r_eqlf_some Try.underlying52 rfl rfl) | exact (r_eqlf_none Try.underlying52 rfl rfl)) rfl (rfl) ?_
  refine l_v (r_pick_f rfl rfl rfl) ?_
  refine l_nil (nrm_then ?_)
  refine c_false rfl (rfl) ?_
  refine c_skip (nrm_then ?_)
  refine c_rseq ?_
  refine l_v (r_move (v := .pointer _) rfl) ?_
  refine l_v (by first | exact (r_move (v := .slice _ _ _) rfl) | exact (r_move rfl)) ?_
  refine l_v (r_len_l Try.underlying22 rfl) ?_
  refine l_call (r_call Try.func23 rfl rfl) ?_
  refine Calls.mono (wcount_c (xs.length : Int) (by omega) [] (by decide) b u _ _ hs) ?_
  rintro e w_ ⟨rfl, hs⟩
  refine ⟨_, rfl, ?_⟩
  rw [if_neg (by omega), Int.toNat_natCast, List.nil_append] at hs
  refine l_nil (nrm_then ?_)
  refine c_seq ?_
  refine c_rseq ?_
  refine l_v (by first | exact (r_move (v := .slice _ _ _) rfl) | exact (r_move rfl)) ?_
  refine l_v (r_len_l Try.underlying22 rfl) ?_
  refine l_v (by first | exact (r_move (v := iV _) rfl) | exact (r_move rfl)) ?_
  refine l_nil (nrm_then ?_)
  refine c_block ?_
  refine c_loopn [0, 2, 6, 19, 20] (fun m f' w' => ∃ i, i + m = xs.length ∧ f' 21 = iV (i : Int) ∧ Eng.Sep u w' [wtr b (enc 64 xs.length ++ packL [] (xs.take i)), blk bl [sV (ofL (lastK (xs.take i)))] 9] ∧ (lastK (xs.take i)).length ≤ 65536) ?_ ?_
  · exact ⟨xs.length, 0, by omega, rfl, by simpa [packL, lastK] using hs, by simp [lastK]⟩
  · rintro m g w_ ⟨i, hi, h21, hs, hlk⟩
    have hpl := packL_len (xs := xs.take i) (fun x h => hx x (List.mem_of_mem_take h)) []
    have htl : (xs.take i).length ≤ xs.length := by rw [List.length_take]; omega
    refine OkC.env ?_ (fixH (L := [(21, _)]) ⟨h21, trivial⟩)
    clear h21
    refine c_rseq ?_
    refine l_v (r_lssi rfl rfl) ?_
    refine l_nil (nrm_then ?_)
    refine c_seq ?_
    refine c_cond rfl (fun h2 => ?_) (fun h2 => ?_)
    · have hil : i < xs.length := by have := of_decide_eq_true h2; omega
      obtain ⟨x, hxi⟩ : ∃ x, xs[i]? = some x := ⟨xs[i], List.getElem?_eq_getElem hil⟩
      have hr0 := hq.below hs.below
      obtain ⟨ad, rfl, _⟩ := hq.ad (by omega)
      have hX := rd_item hr0 (fun y _ => rfl) (by decide) hxi
      have hel : (entC x).length = 3 := rfl
      have hone := ent_one x
      have hxm := hx x (List.mem_of_getElem? hxi)
      have htn := take_nextE hxi
      replace h2 := of_decide_eq_true h2
      refine c_skip (nrm_then ?_)
      refine c_seq ?_
      refine c_block ?_
      refine c_rseq ?_
      refine l_v (r_indexAddr_l (k := i) Try.underlying22 I44 rfl rfl hil) ?_
      refine l_v (r_load_aggP Try.underlying44 I44 rfl hX rfl) ?_
      refine l_alloc hs I44 ?_
      intro b8 w8 hs hB8 hlt8
      first | refine l_store_whole (i := 0) hs rfl I44 rfl rfl (by first | assumption | (simp; done)) (by first | assumption | (simp; done)) (by first | assumption | simp [Value.oneCell']) ?_ | refine l_store_whole (i := 1) hs rfl I44 rfl rfl (by first | assumption | (simp; done)) (by first | assumption | (simp; done)) (by first | assumption | simp [Value.oneCell']) ?_ | refine l_store_whole (i := 2) hs rfl I44 rfl rfl (by first | assumption | (simp; done)) (by first | assumption | (simp; done)) (by first | assumption | simp [Value.oneCell']) ?_ | refine l_store_whole (i := 3) hs rfl I44 rfl rfl (by first | assumption | (simp; done)) (by first | assumption | (simp; done)) (by first | assumption | simp [Value.oneCell']) ?_ | refine l_store_whole (i := 4) hs rfl I44 rfl rfl (by first | assumption | (simp; done)) (by first | assumption | (simp; done)) (by first | assumption | simp [Value.oneCell']) ?_ | refine l_store_whole (i := 5) hs rfl I44 rfl rfl (by first | assumption | (simp; done)) (by first | assumption | (simp; done)) (by first | assumption | simp [Value.oneCell']) ?_ | refine l_store_whole (i := 6) hs rfl I44 rfl rfl (by first | assumption | (simp; done)) (by first | assumption | (simp; done)) (by first | assumption | simp [Value.oneCell']) ?_
      intro w_ hs
      refine l_nil (nrm_then ?_)
      refine c_region ?_
      refine l_v (by first | exact (r_move (v := .func _ _ _) rfl) | exact (r_move (v := .nilFunc) rfl) | exact (r_move rfl)) ?_
      refine l_v (r_move (v := .pointer _) rfl) ?_
      refine l_v (by first | exact (r_load_whole (i := 0) hs rfl Try.underlying44 I44 rfl (by first | assumption | (simp; done))) | exact (r_load_whole (i := 1) hs rfl Try.underlying44 I44 rfl (by first | assumption | (simp; done))) | exact (r_load_whole (i := 2) hs rfl Try.underlying44 I44 rfl (by first | assumption | (simp; done))) | exact (r_load_whole (i := 3) hs rfl Try.underlying44 I44 rfl (by first | assumption | (simp; done))) | exact (r_load_whole (i := 4) hs rfl Try.underlying44 I44 rfl (by first | assumption | (simp; done))) | exact (r_load_whole (i := 5) hs rfl Try.underlying44 I44 rfl (by first | assumption | (simp; done))) | exact (r_load_whole (i := 6) hs rfl Try.underlying44 I44 rfl (by first | assumption | (simp; done)))) ?_
      have hs := hs.drop
      refine l_call (r_call Try.func21 rfl rfl) ?_
      refine Calls.mono (put1_c x hxm.1 hxm.2 _ hlk _ (by rw [List.length_append]; omega) b bl u _ _ hs) ?_
      rintro e w_ ⟨⟨v, rfl⟩, hs⟩
      refine ⟨_, rfl, ?_⟩
      refine l_nil (nrm_block (nrm_then ?_))
      refine c_region ?_
      refine l_v (r_addi rfl rfl (by omega)) ?_
      refine l_v (by first | exact (r_move (v := iV _) rfl) | exact (r_move rfl)) ?_
      refine l_nil (nrm_then ?_)
      refine And.intro (by refine ⟨?_, ?_, ?_, ?_, ?_, trivial⟩ <;> ((conv => lhs; whnf); (try conv => rhs; whnf))) ?_
      exact ⟨xs.length - (i + 1), by omega, i + 1, by omega, rfl, by rw [htn, packL_next, lastK_next, ← List.append_assoc]; exact hs, by rw [htn, lastK_next]; exact hxm.1⟩
    · replace h2 := of_decide_eq_false h2
      refine c_exit (ex_then (ex_then (ex_hit (nrm_then ?_))))
      refine c_rseq ?_
      refine l_v (by first | exact (r_assign (v := iV _) rfl) | exact (r_assign rfl)) ?_
      refine l_nil (nrm_then ?_)
      obtain rfl : i = xs.length := by omega
      rw [List.take_length] at hs
      refine c_ret ?_
      show Fin _ _ _ _ _
      refine fin1 rfl ?_
      exact ⟨rfl, _, hs⟩
end Go.Proofs.Ytfjnjnkmkbbjoaa.Blk
