/- The walks of the lists, and of the law SixLists. -/
import Derived.Test.YtfbmgiflckdalaaSixUp
import Derived.Test.YtfbmgiflckdalaaSixRr
namespace Go.Proofs.Ytfbmgiflckdalaa.Six
open Go Go.RowKit Go.Proofs.Ytfbmgiflckdalaa.Eng
set_option linter.unusedVariables false
set_option maxRecDepth 100000
/-- So many texts, one behind the other: what was taken, how many bytes, the error. -/
def takeA : Nat → List (List UInt8) → Nat → List UInt8 → List (List UInt8) × Nat × Int
  | 0, ts, k, _ => (ts, k, 0)
  | m + 1, ts, k, l => if l = [] then ([], 0, 2) else if (text l).2.2 = 0 then takeA m (ts ++ [(text l).1]) (k + (text l).2.1) (l.drop (text l).2.1) else ([], 0, (text l).2.2)
def takeL (l : List UInt8) : List (List UInt8) × Nat × Int :=
  if (count l).2.2 = 0 then takeA (count l).1.toNat [] (count l).2.1 (l.drop (count l).2.1) else ([], 0, (count l).2.2)
theorem count_bound (l : List UInt8) : (count l).1 ≤ 9223372036854775807 := by
  have := num_bound l 0 0
  unfold count
  split
  · split <;> (dsimp only; omega)
  · dsimp only; omega
theorem count_pos {l : List UInt8} (h : (count l).2.2 = 0) : 1 ≤ (count l).2.1 := by
  unfold count at *
  split
  · rename_i h0
    rw [if_pos h0] at h
    have := num_size l 0 0 h0
    split
    · rename_i hb; rw [if_pos hb] at h; cases h
    · exact this.1
  · rename_i h0; rw [if_neg h0] at h; exact absurd h h0
theorem text_pos {l : List UInt8} (h : (text l).2.2 = 0) : 1 ≤ (text l).2.1 := by
  unfold text at *
  split
  · rename_i h0
    have := count_pos h0
    rw [if_pos h0] at h
    split
    · dsimp only; omega
    · rename_i h1; rw [if_neg h1] at h; exact absurd h h1
  · rename_i h0; rw [if_neg h0] at h; exact absurd h h0
theorem takeA_put (ts : List (List UInt8)) (r : List UInt8) (k : Nat) (acc : List (List UInt8)) (h : ∀ t ∈ ts, t.length ≤ 9223372036854775807) :
    takeA ts.length acc k (ts.flatMap encT ++ r) = (acc ++ ts, k + (ts.flatMap encT).length, 0) := by
  induction ts generalizing k acc with
  | nil => simp [takeA]
  | cons t ts ih =>
    have he := text_encT t (ts.flatMap encT ++ r) (h t (List.mem_cons_self ..))
    have hp := enc_pos 64 t.length
    rw [List.flatMap_cons, List.append_assoc, List.length_cons, takeA, if_neg, he]
    · dsimp only
      rw [if_pos rfl, List.drop_left, ih _ _ (fun t' ht => h t' (List.mem_cons_of_mem _ ht)), List.length_append]
      simp [Nat.add_assoc]
    · intro hn
      have := congrArg List.length hn
      rw [List.length_append] at this
      unfold encT at this
      rw [List.length_append] at this
      simp only [List.length_nil] at this
      omega
theorem put1_c (s : ByteArray) (l : List UInt8) (hl : l.length + 11 + s.size ≤ 140737488355328) (b : Nat) (w0 w : World) (R : List HP) (hs : Sep w0 w (wtr b l :: R)) :
    Calls Try.prog 25 #[at_ b, sV s] w fun e w' => (∃ v, e = .returned v) ∧ Sep w0 w' (wtr b (l ++ encT (toL s)) :: R) := by
  refine enter (P := Try.prog) Try.func25 rfl rfl ?_
  refine c_region ?_
  refine l_v (r_move (v := .pointer _) rfl) ?_
  refine l_v (by first | exact (r_move (v := sV _) rfl) | exact (r_move rfl)) ?_
  refine l_call (r_call Try.func16 rfl rfl) ?_
  refine Calls.mono (wtext_c s l hl b w0 _ _ hs) ?_
  rintro e w_ ⟨rfl, hs⟩
  refine ⟨_, rfl, ?_⟩
  refine l_nil ?_
  show Fin _ _ _ _ _
  refine fin0 rfl ?_
  exact ⟨⟨_, rfl⟩, hs⟩
theorem take2_c (s : ByteArray) (hz : s.size ≤ 9223372036854775807) (b : Nat) (w0 w : World) (R : List HP) (hs : Sep w0 w (rdr b s :: R)) :
    Calls Try.prog 26 #[at_ b] w fun e w' => e = .returned (.tuple #[sV (ofL (text (toL s)).1), iV (text (toL s)).2.2]) ∧ Sep w0 w' (rdr b (cut s (text (toL s)).2.1) :: R) := by
  refine enter (P := Try.prog) Try.func26 rfl rfl ?_
  refine c_rseq ?_
  refine l_v (by first | exact (r_assign (v := sV _) rfl) | exact (r_assign rfl)) ?_
  refine l_v (by first | exact (r_assign (v := iV _) rfl) | exact (r_assign rfl)) ?_
  refine l_nil (nrm_then ?_)
  refine c_rseq ?_
  refine l_v (r_move (v := .pointer _) rfl) ?_
  refine l_call (r_call Try.func19 rfl rfl) ?_
  refine Calls.mono (text_c s hz b w0 _ _ hs) ?_
  rintro e w_ ⟨rfl, hs⟩
  refine ⟨_, rfl, ?_⟩
  refine l_v (r_extract rfl rfl) ?_
  refine l_v (r_extract rfl rfl) ?_
  refine l_v (by first | exact (r_assign (v := sV _) rfl) | exact (r_assign rfl)) ?_
  refine l_v (by first | exact (r_assign (v := iV _) rfl) | exact (r_assign rfl)) ?_
  refine l_nil (nrm_then ?_)
  refine c_ret ?_
  show Fin _ _ _ _ _
  refine fin2 rfl ?_
  exact ⟨rfl, hs⟩
set_option maxHeartbeats 2000000 in
theorem putlist_c {u : World} (B : Option Addr) (d : Nat) (ts : List ByteArray) (hq : Rd u 1 B ts.length (ts.map sV)) (hbk : sumS ts ≤ 1048576) (b : Nat) (w : World) (hs : Sep u w [wtr b []]) :
    Calls Try.prog 24 #[at_ b, .slice B ts.length d, .func (.func 25) #[] #[]] w fun e w' => e = .returned (iV 0) ∧ Sep u w' [wtr b (enc 64 ts.length ++ ts.flatMap fun s => encT (toL s))] := by
  have hn2 := hq.2.1
  have hnl : ts.length ≤ sumS ts := by
    clear hq hbk hn2
    induction ts with
    | nil => simp
    | cons x l ih => unfold sumS at *; rw [List.map_cons, List.sum_cons, List.length_cons]; omega
  have hel := enc_len 64 ts.length (by omega)
  refine enter (P := Try.prog) Try.func24 rfl rfl ?_
  refine c_rseq ?_
  refine l_v (by first | exact (r_assign (v := iV _) rfl) | exact (r_assign rfl)) ?_
  refine l_nil (nrm_then ?_)
  refine c_seq ?_
  refine c_rseq ?_
  refine l_v (r_move (v := .pointer _) rfl) ?_
  refine l_v (by first | exact (r_eqlp_some Try.underlying33 rfl rfl) | exact (r_eqlp_none Try.underlying33 rfl rfl)) ?_
  refine l_v (by first | exact (r_move (v := bV _) rfl) | exact (r_move rfl)) ?_
  refine l_vg (by first | exact (r_move (v := .func _ _ _) rfl) | exact (r_move (v := .nilFunc) rfl) | exact (r_move rfl)) rfl (rfl) ?_
  refine l_vg (by first | exact (r_eqlf_some Try.underlying47 rfl rfl) | exact (r_eqlf_none Try.underlying47 rfl rfl)) rfl (rfl) ?_
  refine l_v (r_pick_f rfl rfl rfl) ?_
  refine l_nil (nrm_then ?_)
  refine c_false rfl (rfl) ?_
  refine c_skip (nrm_then ?_)
  refine c_rseq ?_
  refine l_v (r_move (v := .pointer _) rfl) ?_
  refine l_v (by first | exact (r_move (v := .slice _ _ _) rfl) | exact (r_move rfl)) ?_
  refine l_v (r_len_l Try.underlying32 rfl) ?_
  refine l_call (r_call Try.func20 rfl rfl) ?_
  refine Calls.mono (wcount_c (ts.length : Int) (by omega) [] (by decide) b u _ _ hs) ?_
  rintro e w_ ⟨rfl, hs⟩
  refine ⟨_, rfl, ?_⟩
  rw [if_neg (by omega), Int.toNat_natCast, List.nil_append] at hs
  refine l_nil (nrm_then ?_)
  refine c_seq ?_
  refine c_rseq ?_
  refine l_v (by first | exact (r_move (v := .slice _ _ _) rfl) | exact (r_move rfl)) ?_
  refine l_v (r_len_l Try.underlying32 rfl) ?_
  refine l_v (by first | exact (r_move (v := iV _) rfl) | exact (r_move rfl)) ?_
  refine l_nil (nrm_then ?_)
  refine c_block ?_
  refine c_loopn [0, 2, 6, 19, 20] (fun m f' w' => ∃ i, i + m = ts.length ∧ f' 21 = iV (i : Int) ∧ Sep u w' [wtr b (enc 64 ts.length ++ (ts.take i).flatMap fun s => encT (toL s))]) ?_ ?_
  · exact ⟨ts.length, 0, by omega, rfl, by simpa using hs⟩
  · rintro m g w_ ⟨i, hi, h21, hs⟩
    have hst := sumS_take ts i
    have hft := flatT_len (ts.take i) (by omega)
    refine OkC.env ?_ (fixH (L := [(21, _)]) ⟨h21, trivial⟩)
    clear h21
    refine c_rseq ?_
    refine l_v (r_lssi rfl rfl) ?_
    refine l_nil (nrm_then ?_)
    refine c_seq ?_
    refine c_cond rfl (fun h2 => ?_) (fun h2 => ?_)
    · have hil : i < ts.length := by have := of_decide_eq_true h2; omega
      have hftk := flatS_take (f := fun s => encT (toL s)) ts i hil
      have hx := sumS_mem (List.getElem_mem hil)
      have hu : (ts.map sV)[i]? = some (sV ts[i]) := by simp [hil]
      obtain ⟨ad, rfl, _⟩ := hq.ad (by omega)
      generalize ts[i] = x at *
      replace h2 := of_decide_eq_true h2
      refine c_skip (nrm_then ?_)
      refine c_seq ?_
      refine c_block ?_
      refine c_rseq ?_
      refine l_v (by first | exact (r_indexAddr_o1 Try.underlying32 I9 rfl rfl (by omega)) | exact (r_indexAddr_l1 Try.underlying32 I9 rfl rfl (by omega)) | exact (r_indexAddr_l Try.underlying32 I9 rfl rfl (by omega))) ?_
      refine l_v (r_load Try.underlying9 rfl (rd_get hq hs.below hu)) ?_
      refine l_v (by first | exact (r_assign (v := sV _) rfl) | exact (r_assign rfl)) ?_
      refine l_nil (nrm_then ?_)
      refine c_region ?_
      refine l_v (by first | exact (r_move (v := .func _ _ _) rfl) | exact (r_move (v := .nilFunc) rfl) | exact (r_move rfl)) ?_
      refine l_v (r_move (v := .pointer _) rfl) ?_
      refine l_v (by first | exact (r_move (v := sV _) rfl) | exact (r_move rfl)) ?_
      refine l_call (r_call Try.func25 rfl rfl) ?_
      refine Calls.mono (put1_c x _ (by rw [List.length_append]; omega) b u _ _ hs) ?_
      rintro e w_ ⟨⟨v, rfl⟩, hs⟩
      refine ⟨_, rfl, ?_⟩
      refine l_nil (nrm_block (nrm_then ?_))
      refine c_region ?_
      refine l_v (r_addi rfl rfl (by omega)) ?_
      refine l_v (by first | exact (r_move (v := iV _) rfl) | exact (r_move rfl)) ?_
      refine l_nil (nrm_then ?_)
      refine And.intro (by refine ⟨?_, ?_, ?_, ?_, ?_, trivial⟩ <;> ((conv => lhs; whnf); (try conv => rhs; whnf))) ?_
      exact ⟨ts.length - (i + 1), by omega, i + 1, by omega, rfl, by rw [hftk, ← List.append_assoc]; exact hs⟩
    · replace h2 := of_decide_eq_false h2
      refine c_exit (ex_then (ex_then (ex_hit (nrm_then ?_))))
      refine c_rseq ?_
      refine l_v (by first | exact (r_assign (v := iV _) rfl) | exact (r_assign rfl)) ?_
      refine l_nil (nrm_then ?_)
      obtain rfl : i = ts.length := by omega
      rw [List.take_length] at hs
      refine c_ret ?_
      show Fin _ _ _ _ _
      refine fin1 rfl ?_
      exact ⟨rfl, hs⟩
set_option maxHeartbeats 4000000 in
theorem takelist_c (s : ByteArray) (hz : s.size ≤ 16777216) (b : Nat) (w0 w : World) (R : List HP) (hs : Sep w0 w (rdr b s :: R)) :
    Calls Try.prog 27 #[at_ b, .func (.func 26) #[] #[]] w fun e w' => ∃ v, e = .returned (.tuple #[v, iV (takeL (toL s)).2.2]) ∧ Sep w0 w' (rowS v (takeL (toL s)).1 :: rdr b (cut s (takeL (toL s)).2.1) :: R) := by
  have hl := toL_size s
  have hcn := count_nonneg (toL s)
  have hcb := count_bound (toL s)
  have hcs := count_size (toL s)
  have hcf := @count_fail (toL s)
  unfold takeL
  refine enter (P := Try.prog) Try.func27 rfl rfl ?_
  refine c_rseq ?_
  refine l_v (by first | exact (r_assign (v := .slice _ _ _) rfl) | exact (r_assign rfl)) ?_
  refine l_v (by first | exact (r_assign (v := iV _) rfl) | exact (r_assign rfl)) ?_
  refine l_nil (nrm_then ?_)
  refine c_seq ?_
  refine c_rseq ?_
  refine l_v (r_move (v := .pointer _) rfl) ?_
  refine l_v (by first | exact (r_eqlp_some Try.underlying23 rfl rfl) | exact (r_eqlp_none Try.underlying23 rfl rfl)) ?_
  refine l_v (by first | exact (r_move (v := bV _) rfl) | exact (r_move rfl)) ?_
  refine l_vg (by first | exact (r_move (v := .func _ _ _) rfl) | exact (r_move (v := .nilFunc) rfl) | exact (r_move rfl)) rfl (rfl) ?_
  refine l_vg (by first | exact (r_eqlf_some Try.underlying48 rfl rfl) | exact (r_eqlf_none Try.underlying48 rfl rfl)) rfl (rfl) ?_
  refine l_v (r_pick_f rfl rfl rfl) ?_
  refine l_nil (nrm_then ?_)
  refine c_false rfl (rfl) ?_
  refine c_skip (nrm_then ?_)
  refine c_rseq ?_
  refine l_v (r_move (v := .pointer _) rfl) ?_
  refine l_v (by first | exact (r_nilCheck_p rfl) | exact (r_nilCheck_f rfl)) ?_
  refine l_v (by first | exact (r_fieldAddr0 (off := 0) (T := 9) (by kernel_rfl) rfl) | exact (r_fieldAddr (off := 0) (T := 9) (by kernel_rfl) rfl)) ?_
  refine l_v (by first | exact (r_load_at (i := 0) hs rfl Try.underlying9 rfl rfl) | exact (r_load_at (i := 1) hs rfl Try.underlying9 rfl rfl) | exact (r_load_at (i := 2) hs rfl Try.underlying9 rfl rfl) | exact (r_load_at (i := 3) hs rfl Try.underlying9 rfl rfl) | exact (r_load_at (i := 4) hs rfl Try.underlying9 rfl rfl) | exact (r_load_at (i := 5) hs rfl Try.underlying9 rfl rfl) | exact (r_load_at (i := 6) hs rfl Try.underlying9 rfl rfl)) ?_
  refine l_v (by first | exact (r_assign (v := sV _) rfl) | exact (r_assign rfl)) ?_
  refine l_nil (nrm_then ?_)
  refine c_rseq ?_
  refine l_v (r_move (v := .pointer _) rfl) ?_
  refine l_call (r_call Try.func30 rfl rfl) ?_
  refine Calls.mono (count_c s (by omega) b w0 _ _ hs) ?_
  rintro e w_ ⟨rfl, hs⟩
  refine ⟨_, rfl, ?_⟩
  generalize count (toL s) = C at *
  refine l_v (r_move rfl) ?_
  refine l_v (r_extract rfl rfl) ?_
  refine l_v (r_extract rfl rfl) ?_
  refine l_v (by first | exact (r_assign (v := iV _) rfl) | exact (r_assign rfl)) ?_
  refine l_v (by first | exact (r_assign (v := iV _) rfl) | exact (r_assign rfl)) ?_
  refine l_nil (nrm_then ?_)
  refine c_rseq ?_
  refine l_v (by first | exact (r_assign (v := .slice _ _ _) rfl) | exact (r_assign rfl)) ?_
  refine l_nil (nrm_then ?_)
  refine c_seq ?_
  refine c_rseq ?_
  refine l_v (by first | exact (r_assign (v := iV _) rfl) | exact (r_assign rfl)) ?_
  refine l_nil (nrm_then ?_)
  refine c_block ?_
  have hs := hs.rowNil 9 1
  refine c_loopn [0, 1, 4, 5, 6, 7] (fun m f' w' => ∃ (i : Nat) (v : Value) (er : Int) (ts : List (List UInt8)) (k : Nat), f' 10 = iV (i : Int) ∧ f' 9 = v ∧ f' 8 = iV er ∧ Sep w0 w' (rowS v ts :: rdr b (cut s k) :: R) ∧ k ≤ s.size ∧ ts.length + C.2.1 ≤ k ∧ ((er = 0 ∧ m = s.size - k + 1 ∧ C.2.2 = 0 ∧ i ≤ C.1.toNat ∧ takeA C.1.toNat [] C.2.1 ((toL s).drop C.2.1) = takeA (C.1.toNat - i) ts k ((toL s).drop k)) ∨ (er ≠ 0 ∧ m = 0 ∧ (if C.2.2 = 0 then takeA C.1.toNat [] C.2.1 ((toL s).drop C.2.1) else ([], 0, C.2.2)) = ([], 0, er)))) ?_ ?_
  · by_cases h0 : C.2.2 = 0
    · exact ⟨_, 0, .slice none 0 0, C.2.2, [], C.2.1, rfl, rfl, rfl, hs, by omega, by simp, .inl ⟨h0, rfl, h0, by omega, rfl⟩⟩
    · exact ⟨_, 0, .slice none 0 0, C.2.2, [], C.2.1, rfl, rfl, rfl, hs, by omega, by simp, .inr ⟨h0, rfl, by rw [if_neg h0]⟩⟩
  · rintro m g w_ ⟨i, v, er, ts, k, h10, h9, h8, hs, hk, htk, hor⟩
    have hcut := cut_size s k
    have hcl : (toL (cut s k)) = (toL s).drop k := rfl
    have hcz : (cut s k).size = s.size - k := by show ((toL s).drop k).length = _; rw [List.length_drop, hl]
    refine OkC.env ?_ (fixH (L := [(10, _), (9, _), (8, _)]) ⟨h10, h9, h8, trivial⟩)
    clear h10 h9 h8
    refine c_seq ?_
    refine c_rseq ?_
    refine l_v (by first | exact (r_move (v := iV _) rfl) | exact (r_move rfl)) ?_
    refine l_v (r_eqli rfl rfl) ?_
    rcases hor with ⟨he, hm, hC0, hi, hta⟩ | ⟨he, hm, hta⟩
    · have f0 : decide (er = 0) = true := decide_eq_true he
      refine l_v (by first | exact (r_move (v := bV _) rfl) | exact (r_move rfl)) ?_
      refine l_vg (by first | exact (r_move (v := iV _) rfl) | exact (r_move rfl)) rfl (f0) ?_
      refine l_vg (by first | exact (r_move (v := iV _) rfl) | exact (r_move rfl)) rfl (f0) ?_
      refine l_vg (r_lssi rfl rfl) rfl (f0) ?_
      refine l_v (r_pick_t rfl f0 rfl) ?_
      refine l_nil (nrm_then ?_)
      refine c_cond rfl (fun h3 => ?_) (fun h3 => ?_)
      · have hin : i < C.1.toNat := by have := of_decide_eq_true h3; omega
        rw [show C.1.toNat - i = C.1.toNat - (i + 1) + 1 by omega, takeA] at hta
        replace h3 := of_decide_eq_true h3
        refine c_skip (nrm_then ?_)
        refine c_seq ?_
        refine c_block ?_
        refine c_rseq ?_
        refine l_v (by first | exact (r_assign (v := sV _) rfl) | exact (r_assign rfl)) ?_
        refine l_nil (nrm_then ?_)
        refine c_rseq ?_
        refine l_v (r_move (v := .pointer _) rfl) ?_
        refine l_v (by first | exact (r_nilCheck_p rfl) | exact (r_nilCheck_f rfl)) ?_
        refine l_v (by first | exact (r_fieldAddr0 (off := 0) (T := 9) (by kernel_rfl) rfl) | exact (r_fieldAddr (off := 0) (T := 9) (by kernel_rfl) rfl)) ?_
        refine l_v (by first | exact (r_load_at (i := 0) hs rfl Try.underlying9 rfl rfl) | exact (r_load_at (i := 1) hs rfl Try.underlying9 rfl rfl) | exact (r_load_at (i := 2) hs rfl Try.underlying9 rfl rfl) | exact (r_load_at (i := 3) hs rfl Try.underlying9 rfl rfl) | exact (r_load_at (i := 4) hs rfl Try.underlying9 rfl rfl) | exact (r_load_at (i := 5) hs rfl Try.underlying9 rfl rfl) | exact (r_load_at (i := 6) hs rfl Try.underlying9 rfl rfl)) ?_
        refine l_v (r_eqls rfl rfl) ?_
        refine l_nil (nrm_then ?_)
        refine c_cond rfl (fun h4 => ?_) (fun h4 => ?_)
        · replace h4 := of_decide_eq_true h4
          refine c_region ?_
          refine l_v (by first | exact (r_assign (v := iV _) rfl) | exact (r_assign rfl)) ?_
          refine l_nil (nrm_block (nrm_then ?_))
          refine c_region ?_
          refine l_v (by first | exact (r_move (v := iV _) rfl) | exact (r_move rfl)) ?_
          refine l_v (r_addi rfl rfl (by omega)) ?_
          refine l_v (by first | exact (r_assign (v := iV _) rfl) | exact (r_assign rfl)) ?_
          refine l_nil (nrm_then ?_)
          have hnil : (toL s).drop k = [] := by rw [← hcl, h4]
          rw [if_pos hnil] at hta
          refine And.intro (by refine ⟨?_, ?_, ?_, ?_, ?_, ?_, trivial⟩ <;> ((conv => lhs; whnf); (try conv => rhs; whnf))) ?_
          exact ⟨0, by omega, i + 1, v, 2, ts, k, rfl, rfl, rfl, hs, hk, htk, .inr ⟨by decide, rfl, by rw [if_pos hC0]; exact hta⟩⟩
        · have hnn : ¬ (toL s).drop k = [] := fun h => (of_decide_eq_false h4) (toL_inj (by rw [hcl, h]))
          rw [if_neg hnn] at hta
          have htx := text_size ((toL s).drop k)
          have htf := @text_fail ((toL s).drop k)
          have htp := @text_pos ((toL s).drop k)
          rw [List.length_drop] at htx
          replace h4 := of_decide_eq_false h4
          refine c_rseq ?_
          refine l_v (by first | exact (r_move (v := .func _ _ _) rfl) | exact (r_move (v := .nilFunc) rfl) | exact (r_move rfl)) ?_
          refine l_v (r_move (v := .pointer _) rfl) ?_
          refine l_call (r_call Try.func26 rfl rfl) ?_
          refine Calls.mono (take2_c (cut s k) (by omega) b w0 _ _ (hs.pull 1)) ?_
          rintro e w_ ⟨rfl, hs⟩
          refine ⟨_, rfl, ?_⟩
          rw [hcl] at *
          have hcc : cut (cut s k) (text ((toL s).drop k)).2.1 = cut s (k + (text ((toL s).drop k)).2.1) := by unfold cut; rw [toL_ofL, List.drop_drop]
          rw [hcc] at hs
          rw [List.drop_drop] at hta
          generalize text ((toL s).drop k) = T at *
          refine l_v (r_move rfl) ?_
          refine l_v (r_extract rfl rfl) ?_
          refine l_v (r_extract rfl rfl) ?_
          refine l_v (by first | exact (r_assign (v := sV _) rfl) | exact (r_assign rfl)) ?_
          refine l_v (by first | exact (r_assign (v := iV _) rfl) | exact (r_assign rfl)) ?_
          refine l_nil (nrm_then ?_)
          refine c_rseq ?_
          refine l_v (by first | exact (r_move (v := iV _) rfl) | exact (r_move rfl)) ?_
          refine l_v (r_eqli rfl rfl) ?_
          refine l_nil (nrm_then ?_)
          refine c_cond rfl (fun h5 => ?_) (fun h5 => ?_)
          · have h5' : T.2.2 = 0 := of_decide_eq_true h5
            have htp := htp h5'
            rw [if_pos h5'] at hta
            have hs := hs.pull 1
            replace h5 := of_decide_eq_true h5
            refine c_region ?_
            refine l_v (by first | exact (r_move (v := .slice _ _ _) rfl) | exact (r_move rfl)) ?_
            refine l_v (by first | exact (r_move (v := sV _) rfl) | exact (r_move rfl)) ?_
            refine l_lit1 [sV _] hs Try.underlying32 I9 rfl (by simp [Value.oneCell']) rfl (by decide) (by decide) ?_
            intro b51 w51 hs hB51 hlt51
            refine l_append_lit Try.underlying32 I9 rfl (by decide) rfl rfl hs rfl (by simp [Value.oneCell']) (by omega) (by omega) ?_
            intro v52 w52 hs
            have hs := rowS_app hs
            refine l_v (by first | exact (r_assign (v := .slice _ _ _) rfl) | exact (r_assign rfl)) ?_
            refine l_nil (nrm_block (nrm_then ?_))
            refine c_region ?_
            refine l_v (by first | exact (r_move (v := iV _) rfl) | exact (r_move rfl)) ?_
            refine l_v (r_addi rfl rfl (by omega)) ?_
            refine l_v (by first | exact (r_assign (v := iV _) rfl) | exact (r_assign rfl)) ?_
            refine l_nil (nrm_then ?_)
            refine And.intro (by refine ⟨?_, ?_, ?_, ?_, ?_, ?_, trivial⟩ <;> ((conv => lhs; whnf); (try conv => rhs; whnf))) ?_
            exact ⟨s.size - (k + T.2.1) + 1, by omega, i + 1, v52, T.2.2, ts ++ [T.1], k + T.2.1, rfl, rfl, rfl, hs, by omega, by rw [List.length_append]; simp only [List.length_cons, List.length_nil]; omega, .inl ⟨h5', rfl, hC0, by omega, hta⟩⟩
          · have h5' : ¬ T.2.2 = 0 := of_decide_eq_false h5
            rw [if_neg h5'] at hta
            have htf := htf h5'
            replace h5 := of_decide_eq_false h5
            refine c_skip (nrm_block (nrm_then ?_))
            refine c_region ?_
            refine l_v (by first | exact (r_move (v := iV _) rfl) | exact (r_move rfl)) ?_
            refine l_v (r_addi rfl rfl (by omega)) ?_
            refine l_v (by first | exact (r_assign (v := iV _) rfl) | exact (r_assign rfl)) ?_
            refine l_nil (nrm_then ?_)
            refine And.intro (by refine ⟨?_, ?_, ?_, ?_, ?_, ?_, trivial⟩ <;> ((conv => lhs; whnf); (try conv => rhs; whnf))) ?_
            exact ⟨0, by omega, i + 1, v, T.2.2, ts, k + T.2.1, rfl, rfl, rfl, hs.pull 1, by omega, by omega, .inr ⟨h5', rfl, by rw [if_pos hC0]; exact hta⟩⟩
      · have hin : i = C.1.toNat := by have := of_decide_eq_false h3; omega
        rw [hin, Nat.sub_self] at hta
        replace h3 := of_decide_eq_false h3
        refine c_exit (ex_then (ex_then (ex_hit (nrm_then ?_))))
        refine c_seq ?_
        refine c_rseq ?_
        refine l_v (by first | exact (r_move (v := iV _) rfl) | exact (r_move rfl)) ?_
        refine l_v (r_neqi rfl rfl) ?_
        refine l_nil (nrm_then ?_)
        refine c_false rfl (decide_eq_false (fun h => h he)) ?_
        refine c_skip (nrm_then ?_)
        refine c_rseq ?_
        refine l_v (by first | exact (r_move (v := .slice _ _ _) rfl) | exact (r_move rfl)) ?_
        refine l_v (by first | exact (r_assign (v := .slice _ _ _) rfl) | exact (r_assign rfl)) ?_
        refine l_v (by first | exact (r_assign (v := iV _) rfl) | exact (r_assign rfl)) ?_
        refine l_nil (nrm_then ?_)
        refine c_ret ?_
        show Fin _ _ _ _ _
        refine fin2 rfl ?_
        rw [if_pos hC0, hta]
        exact ⟨_, rfl, hs⟩
    · have f0 : decide (er = 0) = false := decide_eq_false he
      have f1 : decide (er ≠ 0) = true := decide_eq_true he
      refine l_v (by first | exact (r_move (v := bV _) rfl) | exact (r_move rfl)) ?_
      refine l_no rfl (f0) ?_
      refine l_no rfl (f0) ?_
      refine l_no rfl (f0) ?_
      refine l_v (r_pick_f rfl f0 rfl) ?_
      refine l_nil (nrm_then ?_)
      refine c_false rfl (rfl) ?_
      refine c_exit (ex_then (ex_then (ex_hit (nrm_then ?_))))
      refine c_seq ?_
      refine c_rseq ?_
      refine l_v (by first | exact (r_move (v := iV _) rfl) | exact (r_move rfl)) ?_
      refine l_v (r_neqi rfl rfl) ?_
      refine l_nil (nrm_then ?_)
      refine c_true rfl (f1) ?_
      have hs := hs.drop
      refine c_rseq ?_
      refine l_v (r_move (v := .pointer _) rfl) ?_
      refine l_v (by first | exact (r_move (v := sV _) rfl) | exact (r_move rfl)) ?_
      refine l_v (by first | exact (r_nilCheck_p rfl) | exact (r_nilCheck_f rfl)) ?_
      refine l_v (by first | exact (r_fieldAddr0 (off := 0) (T := 9) (by kernel_rfl) rfl) | exact (r_fieldAddr (off := 0) (T := 9) (by kernel_rfl) rfl)) ?_
      first | refine l_store (i := 0) (v := sV _) hs rfl I9 rfl rfl (by first | (simp; done) | (simp; omega) | omega) ?_ | refine l_store (i := 1) (v := sV _) hs rfl I9 rfl rfl (by first | (simp; done) | (simp; omega) | omega) ?_ | refine l_store (i := 2) (v := sV _) hs rfl I9 rfl rfl (by first | (simp; done) | (simp; omega) | omega) ?_ | refine l_store (i := 3) (v := sV _) hs rfl I9 rfl rfl (by first | (simp; done) | (simp; omega) | omega) ?_ | refine l_store (i := 4) (v := sV _) hs rfl I9 rfl rfl (by first | (simp; done) | (simp; omega) | omega) ?_ | refine l_store (i := 5) (v := sV _) hs rfl I9 rfl rfl (by first | (simp; done) | (simp; omega) | omega) ?_ | refine l_store (i := 6) (v := sV _) hs rfl I9 rfl rfl (by first | (simp; done) | (simp; omega) | omega) ?_
      intro w_ hs
      refine l_nil (nrm_then ?_)
      refine c_rseq ?_
      refine l_v (by first | exact (r_move (v := iV _) rfl) | exact (r_move rfl)) ?_
      refine l_v (by first | exact (r_assign (v := .slice _ _ _) rfl) | exact (r_assign rfl)) ?_
      refine l_v (by first | exact (r_assign (v := iV _) rfl) | exact (r_assign rfl)) ?_
      refine l_nil (nrm_then ?_)
      refine c_ret (ret_then ?_)
      show Fin _ _ _ _ _
      refine fin2 rfl ?_
      rw [hta]
      exact ⟨_, rfl, hs.rowNil 9 1⟩
set_option maxHeartbeats 4000000 in
theorem readtexts_c (s : ByteArray) (hz : s.size ≤ 16777216) (w0 w : World) (R : List HP) (hs : Sep w0 w R) :
    Calls Try.prog 29 #[sV s] w fun e w' => ∃ v, e = .returned (.tuple #[v, iV ((takeL (toL s)).2.1 : Int), iV (takeL (toL s)).2.2]) ∧ Sep w0 w' (rowS v (takeL (toL s)).1 :: R) := by
  have hl := toL_size s
  have hcn := count_nonneg (toL s)
  have hcb := count_bound (toL s)
  have hcs := count_size (toL s)
  unfold takeL
  refine enter (P := Try.prog) Try.func29 rfl rfl ?_
  refine c_rseq ?_
  refine l_v (by first | exact (r_assign (v := .slice _ _ _) rfl) | exact (r_assign rfl)) ?_
  refine l_v (by first | exact (r_assign (v := iV _) rfl) | exact (r_assign rfl)) ?_
  refine l_v (by first | exact (r_assign (v := iV _) rfl) | exact (r_assign rfl)) ?_
  refine l_nil (nrm_then ?_)
  refine c_rseq ?_
  refine l_v (by first | exact (r_move (v := sV _) rfl) | exact (r_move rfl)) ?_
  refine l_call (r_call Try.func35 rfl rfl) ?_
  refine Calls.mono (readcount_c s (by omega) _) ?_
  rintro e w_ ⟨rfl, rfl⟩
  refine ⟨_, rfl, ?_⟩
  generalize count (toL s) = C at *
  refine l_v (r_move rfl) ?_
  refine l_v (r_extract rfl rfl) ?_
  refine l_v (r_extract rfl rfl) ?_
  refine l_v (r_extract rfl rfl) ?_
  refine l_v (by first | exact (r_assign (v := iV _) rfl) | exact (r_assign rfl)) ?_
  refine l_v (by first | exact (r_assign (v := iV _) rfl) | exact (r_assign rfl)) ?_
  refine l_v (by first | exact (r_assign (v := iV _) rfl) | exact (r_assign rfl)) ?_
  refine l_nil (nrm_then ?_)
  refine c_rseq ?_
  refine l_v (by first | exact (r_assign (v := .slice _ _ _) rfl) | exact (r_assign rfl)) ?_
  refine l_nil (nrm_then ?_)
  refine c_seq ?_
  refine c_rseq ?_
  refine l_v (by first | exact (r_assign (v := iV _) rfl) | exact (r_assign rfl)) ?_
  refine l_nil (nrm_then ?_)
  refine c_block ?_
  have hs := hs.rowNil 9 1
  refine c_loopn [0, 5] (fun m f' w' => ∃ (i : Nat) (v : Value) (er : Int) (ts : List (List UInt8)) (k : Nat), f' 9 = iV (i : Int) ∧ f' 8 = v ∧ f' 7 = iV er ∧ f' 6 = iV ((k : Nat) : Int) ∧ Sep w0 w' (rowS v ts :: R) ∧ k ≤ s.size ∧ ((er = 0 ∧ m = s.size - k + 1 ∧ C.2.2 = 0 ∧ i ≤ C.1.toNat ∧ ts.length + C.2.1 ≤ k ∧ takeA C.1.toNat [] C.2.1 ((toL s).drop C.2.1) = takeA (C.1.toNat - i) ts k ((toL s).drop k)) ∨ (er ≠ 0 ∧ m = 0 ∧ (if C.2.2 = 0 then takeA C.1.toNat [] C.2.1 ((toL s).drop C.2.1) else ([], 0, C.2.2)) = ([], 0, er)))) ?_ ?_
  · by_cases h0 : C.2.2 = 0
    · exact ⟨_, 0, .slice none 0 0, C.2.2, [], C.2.1, rfl, rfl, rfl, rfl, hs, by omega, .inl ⟨h0, rfl, h0, by omega, by simp, rfl⟩⟩
    · exact ⟨_, 0, .slice none 0 0, C.2.2, [], C.2.1, rfl, rfl, rfl, rfl, hs, by omega, .inr ⟨h0, rfl, by rw [if_neg h0]⟩⟩
  · rintro m g w_ ⟨i, v, er, ts, k, h9, h8, h7, h6, hs, hk, hor⟩
    have hcl : (toL (cut s k)) = (toL s).drop k := rfl
    have hcut := cut_size s k
    refine OkC.env ?_ (fixH (L := [(9, _), (8, _), (7, _), (6, _)]) ⟨h9, h8, h7, h6, trivial⟩)
    clear h9 h8 h7 h6
    refine c_seq ?_
    refine c_rseq ?_
    refine l_v (by first | exact (r_move (v := iV _) rfl) | exact (r_move rfl)) ?_
    refine l_v (by first | exact (r_move (v := iV _) rfl) | exact (r_move rfl)) ?_
    refine l_v (r_lssi rfl rfl) ?_
    by_cases h3 : (i : Int) < C.1
    · have f3 : decide ((i : Int) < C.1) = true := decide_eq_true h3
      refine l_v (by first | exact (r_move (v := bV _) rfl) | exact (r_move rfl)) ?_
      refine l_vg (by first | exact (r_move (v := iV _) rfl) | exact (r_move rfl)) rfl (f3) ?_
      refine l_vg (r_eqli rfl rfl) rfl (f3) ?_
      refine l_v (r_pick_t rfl f3 rfl) ?_
      refine l_nil (nrm_then ?_)
      rcases hor with ⟨he, hm, hC0, hi, htk, hta⟩ | ⟨he, hm, hta⟩
      · rw [show C.1.toNat - i = C.1.toNat - (i + 1) + 1 by omega, takeA] at hta
        refine c_true rfl (decide_eq_true he) ?_
        refine c_skip (nrm_then ?_)
        refine c_seq ?_
        refine c_block ?_
        refine c_seq ?_
        refine c_rseq ?_
        refine l_v (by first | exact (r_move (v := iV _) rfl) | exact (r_move rfl)) ?_
        refine l_v (by first | exact (r_move (v := sV _) rfl) | exact (r_move rfl)) ?_
        refine l_v (r_len_s Try.underlying9 rfl) ?_
        refine l_v (r_eqli rfl rfl) ?_
        refine l_nil (nrm_then ?_)
        refine c_cond rfl (fun h4 => ?_) (fun h4 => ?_)
        · replace h4 := of_decide_eq_true h4
          refine c_rseq ?_
          refine l_v (by first | exact (r_assign (v := .slice _ _ _) rfl) | exact (r_assign rfl)) ?_
          refine l_v (by first | exact (r_assign (v := iV _) rfl) | exact (r_assign rfl)) ?_
          refine l_v (by first | exact (r_assign (v := iV _) rfl) | exact (r_assign rfl)) ?_
          refine l_nil (nrm_then ?_)
          have hnil : (toL s).drop k = [] := List.drop_of_length_le (by omega)
          rw [if_pos hnil] at hta
          refine c_ret (ret_then (ret_block (ret_then (ret_then (ret_block (ret_then ?_))))))
          show Fin _ _ _ _ _
          refine fin3 rfl ?_
          rw [if_pos hC0, hta]
          exact ⟨_, rfl, hs.drop.rowNil 9 1⟩
        · have hnn : ¬ (toL s).drop k = [] := fun h => by
            have := congrArg List.length h
            rw [List.length_drop] at this
            simp only [List.length_nil] at this
            exact (of_decide_eq_false h4) (by omega)
          rw [if_neg hnn] at hta
          have htx := text_size ((toL s).drop k)
          have htf := @text_fail ((toL s).drop k)
          have htp := @text_pos ((toL s).drop k)
          rw [List.length_drop] at htx
          replace h4 := of_decide_eq_false h4
          refine c_skip (nrm_then ?_)
          refine c_rseq ?_
          refine l_v (by first | exact (r_assign (v := sV _) rfl) | exact (r_assign rfl)) ?_
          refine l_nil (nrm_then ?_)
          refine c_rseq ?_
          refine l_v (by first | exact (r_assign (v := iV _) rfl) | exact (r_assign rfl)) ?_
          refine l_nil (nrm_then ?_)
          refine c_rseq ?_
          refine l_v (by first | exact (r_move (v := sV _) rfl) | exact (r_move rfl)) ?_
          refine l_v (by first | exact (r_move (v := iV _) rfl) | exact (r_move rfl)) ?_
          refine l_v (r_slice_sl (k : Int) Try.underlying9 rfl rfl (by omega)) ?_
          rw [Int.toNat_natCast, extract_cut]
          refine l_call (r_call Try.func37 rfl rfl) ?_
          refine Calls.mono (readtext_c (cut s k) (by omega) _) ?_
          rintro e w_ ⟨rfl, rfl⟩
          refine ⟨_, rfl, ?_⟩
          rw [hcl] at *
          rw [List.drop_drop] at hta
          generalize text ((toL s).drop k) = T at *
          refine l_v (r_move rfl) ?_
          refine l_v (r_extract rfl rfl) ?_
          refine l_v (r_extract rfl rfl) ?_
          refine l_v (r_extract rfl rfl) ?_
          refine l_v (by first | exact (r_assign (v := sV _) rfl) | exact (r_assign rfl)) ?_
          refine l_v (by first | exact (r_assign (v := iV _) rfl) | exact (r_assign rfl)) ?_
          refine l_v (by first | exact (r_assign (v := iV _) rfl) | exact (r_assign rfl)) ?_
          refine l_nil (nrm_then ?_)
          refine c_rseq ?_
          refine l_v (by first | exact (r_move (v := .slice _ _ _) rfl) | exact (r_move rfl)) ?_
          refine l_v (by first | exact (r_move (v := sV _) rfl) | exact (r_move rfl)) ?_
          refine l_lit1 [sV _] hs Try.underlying32 I9 rfl (by simp [Value.oneCell']) rfl (by decide) (by decide) ?_
          intro b41 w41 hs hB41 hlt41
          refine l_append_lit Try.underlying32 I9 rfl (by decide) rfl rfl hs rfl (by simp [Value.oneCell']) (by omega) (by omega) ?_
          intro v42 w42 hs
          have hs := rowS_app hs
          refine l_v (by first | exact (r_assign (v := .slice _ _ _) rfl) | exact (r_assign rfl)) ?_
          refine l_nil (nrm_then ?_)
          refine c_region ?_
          refine l_v (by first | exact (r_move (v := iV _) rfl) | exact (r_move rfl)) ?_
          refine l_v (by first | exact (r_move (v := iV _) rfl) | exact (r_move rfl)) ?_
          refine l_v (r_addi rfl rfl (by omega)) ?_
          refine l_v (by first | exact (r_assign (v := iV _) rfl) | exact (r_assign rfl)) ?_
          refine l_nil (nrm_block (nrm_then ?_))
          refine c_region ?_
          refine l_v (by first | exact (r_move (v := iV _) rfl) | exact (r_move rfl)) ?_
          refine l_v (r_addi rfl rfl (by omega)) ?_
          refine l_v (by first | exact (r_assign (v := iV _) rfl) | exact (r_assign rfl)) ?_
          refine l_nil (nrm_then ?_)
          refine And.intro (by refine ⟨?_, ?_, trivial⟩ <;> ((conv => lhs; whnf); (try conv => rhs; whnf))) ?_
          by_cases h5 : T.2.2 = 0
          · have htp := htp h5
            rw [if_pos h5] at hta
            exact ⟨s.size - (k + T.2.1) + 1, by omega, i + 1, _, T.2.2, ts ++ [T.1], k + T.2.1, rfl, rfl, rfl, congrArg iV (by omega), hs, by omega, .inl ⟨h5, rfl, hC0, by omega, by rw [List.length_append]; simp only [List.length_cons, List.length_nil]; omega, hta⟩⟩
          · rw [if_neg h5] at hta
            exact ⟨0, by omega, i + 1, _, T.2.2, ts ++ [T.1], k + T.2.1, rfl, rfl, rfl, congrArg iV (by omega), hs, by omega, .inr ⟨h5, rfl, by rw [if_pos hC0]; exact hta⟩⟩
      · skip
        refine c_false rfl (decide_eq_false he) ?_
        refine c_exit (ex_then (ex_then (ex_hit (nrm_then ?_))))
        refine c_seq ?_
        refine c_rseq ?_
        refine l_v (by first | exact (r_move (v := iV _) rfl) | exact (r_move rfl)) ?_
        refine l_v (r_neqi rfl rfl) ?_
        refine l_nil (nrm_then ?_)
        refine c_true rfl (decide_eq_true he) ?_
        refine c_rseq ?_
        refine l_v (by first | exact (r_move (v := iV _) rfl) | exact (r_move rfl)) ?_
        refine l_v (by first | exact (r_assign (v := .slice _ _ _) rfl) | exact (r_assign rfl)) ?_
        refine l_v (by first | exact (r_assign (v := iV _) rfl) | exact (r_assign rfl)) ?_
        refine l_v (by first | exact (r_assign (v := iV _) rfl) | exact (r_assign rfl)) ?_
        refine l_nil (nrm_then ?_)
        refine c_ret (ret_then ?_)
        show Fin _ _ _ _ _
        refine fin3 rfl ?_
        rw [hta]
        exact ⟨_, rfl, hs.drop.rowNil 9 1⟩
    · have f3 : decide ((i : Int) < C.1) = false := decide_eq_false h3
      refine l_v (by first | exact (r_move (v := bV _) rfl) | exact (r_move rfl)) ?_
      refine l_no rfl (f3) ?_
      refine l_no rfl (f3) ?_
      refine l_v (r_pick_f rfl f3 rfl) ?_
      refine l_nil (nrm_then ?_)
      refine c_false rfl (rfl) ?_
      refine c_exit (ex_then (ex_then (ex_hit (nrm_then ?_))))
      refine c_seq ?_
      refine c_rseq ?_
      refine l_v (by first | exact (r_move (v := iV _) rfl) | exact (r_move rfl)) ?_
      refine l_v (r_neqi rfl rfl) ?_
      refine l_nil (nrm_then ?_)
      rcases hor with ⟨he, hm, hC0, hi, htk, hta⟩ | ⟨he, hm, hta⟩
      · rw [show C.1.toNat - i = 0 by omega, takeA] at hta
        refine c_false rfl (decide_eq_false (fun h => h he)) ?_
        refine c_skip (nrm_then ?_)
        refine c_rseq ?_
        refine l_v (by first | exact (r_move (v := .slice _ _ _) rfl) | exact (r_move rfl)) ?_
        refine l_v (by first | exact (r_move (v := iV _) rfl) | exact (r_move rfl)) ?_
        refine l_v (by first | exact (r_assign (v := .slice _ _ _) rfl) | exact (r_assign rfl)) ?_
        refine l_v (by first | exact (r_assign (v := iV _) rfl) | exact (r_assign rfl)) ?_
        refine l_v (by first | exact (r_assign (v := iV _) rfl) | exact (r_assign rfl)) ?_
        refine l_nil (nrm_then ?_)
        refine c_ret ?_
        show Fin _ _ _ _ _
        refine fin3 rfl ?_
        rw [if_pos hC0, hta]
        exact ⟨_, rfl, hs⟩
      · skip
        refine c_true rfl (decide_eq_true he) ?_
        refine c_rseq ?_
        refine l_v (by first | exact (r_move (v := iV _) rfl) | exact (r_move rfl)) ?_
        refine l_v (by first | exact (r_assign (v := .slice _ _ _) rfl) | exact (r_assign rfl)) ?_
        refine l_v (by first | exact (r_assign (v := iV _) rfl) | exact (r_assign rfl)) ?_
        refine l_v (by first | exact (r_assign (v := iV _) rfl) | exact (r_assign rfl)) ?_
        refine l_nil (nrm_then ?_)
        refine c_ret (ret_then ?_)
        show Fin _ _ _ _ _
        refine fin3 rfl ?_
        rw [hta]
        exact ⟨_, rfl, hs.drop.rowNil 9 1⟩
end Go.Proofs.Ytfbmgiflckdalaa.Six
