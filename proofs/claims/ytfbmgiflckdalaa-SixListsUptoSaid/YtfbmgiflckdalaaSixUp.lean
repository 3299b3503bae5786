/- The walks of the laws SixWrites and SixBack. -/
import Derived.Test.YtfbmgiflckdalaaSixOne
import Derived.Test.YtfbmgiflckdalaaSixSame
import Derived.Test.YtfbmgiflckdalaaSixRef
import Derived.OpenShut
namespace Go.Proofs.Ytfbmgiflckdalaa.Six
open Go Go.RowKit Go.Proofs.Ytfbmgiflckdalaa.Eng
set_option linter.unusedVariables false
set_option maxRecDepth 100000
def encA (x : Int) : List UInt8 := if x < 0 then encW x else enc 64 x.toNat ++ encW x
def i64 (x : Int) : Prop := -9223372036854775808 ≤ x ∧ x ≤ 9223372036854775807
theorem encA_len (x : Int) (h : i64 x) : (encA x).length ≤ 22 := by
  have h1 := encW_len x h
  unfold encA
  split
  · omega
  · have := enc_len 64 x.toNat (by have := h.2; omega)
    rw [List.length_append]; omega
theorem flat_len {f : Int → List UInt8} {k : Nat} (hf : ∀ x, i64 x → (f x).length ≤ k) : ∀ (l : List Int), (∀ x ∈ l, i64 x) → (l.flatMap f).length ≤ k * l.length
  | [], _ => by simp
  | x :: l, h => by
    have h1 := hf x (h x (List.mem_cons_self ..))
    have h2 := flat_len hf l fun y hy => h y (List.mem_cons_of_mem _ hy)
    rw [List.flatMap_cons, List.length_append, List.length_cons, Nat.mul_succ]; omega
theorem flat_take {f : Int → List UInt8} (l : List Int) (i : Nat) (h : i < l.length) : (l.take (i + 1)).flatMap f = (l.take i).flatMap f ++ f l[i] := by
  rw [List.take_succ_eq_append_getElem h, List.flatMap_append]; simp
theorem flatS_take {f : ByteArray → List UInt8} (l : List ByteArray) (i : Nat) (h : i < l.length) : (l.take (i + 1)).flatMap f = (l.take i).flatMap f ++ f l[i] := by
  rw [List.take_succ_eq_append_getElem h, List.flatMap_append]; simp
set_option maxHeartbeats 4000000 in
theorem sixWrites_walk {w : World} (A : Option Addr) (c : Nat) (l : List Int) (hr : Rd w 1 A l.length (l.map iV)) (hc : l.length ≤ c) (hw : ∀ x ∈ l, i64 x) (s : ByteArray) (hbk : l.length + s.size ≤ 1048576) :
    Calls Try.prog 6 #[.slice A l.length c, sV s] w fun e w' => e = .returned (bV true) ∧ Below w.heap.size w w' := by
  have hl := toL_size s
  refine enter (P := Try.prog) Try.func6 rfl rfl ?_
  have hs := Sep.init w
  refine c_rseq ?_
  refine l_v (by first | exact (r_assign (v := bV _) rfl) | exact (r_assign rfl)) ?_
  refine l_nil (nrm_then ?_)
  refine c_rseq ?_
  refine l_call (r_call Try.func14 rfl rfl) ?_
  refine Calls.mono (new_c w _ _ hs) ?_
  rintro e w_ ⟨b5, rfl, hs⟩
  refine ⟨_, rfl, ?_⟩
  refine l_v (r_assign (v := .pointer _) rfl) ?_
  refine l_nil (nrm_then ?_)
  refine c_rseq ?_
  refine l_v (by first | exact (r_assign (v := sV _) rfl) | exact (r_assign rfl)) ?_
  refine l_nil (nrm_then ?_)
  refine c_seq ?_
  refine c_rseq ?_
  refine l_v (by first | exact (r_assign (v := iV _) rfl) | exact (r_assign rfl)) ?_
  refine l_nil (nrm_then ?_)
  refine c_block ?_
  refine c_loopn [0, 1, 5] (fun m f' w' => ∃ i, i + m = l.length ∧ f' 7 = iV (i : Int) ∧ f' 6 = sV (ofL ((l.take i).flatMap encA)) ∧ Sep w w' [wtr b5 ((l.take i).flatMap encA)]) ?_ ?_
  · exact ⟨l.length, 0, by omega, rfl, rfl, hs⟩
  · rintro m g w_ ⟨i, hi, h7, h6, hs⟩
    have hfl := flat_len encA_len (l.take i) (fun x hx => hw x (List.mem_of_mem_take hx))
    rw [List.length_take] at hfl
    refine OkC.env ?_ (fixH (L := [(7, _), (6, _)]) ⟨h7, h6, trivial⟩)
    clear h7 h6
    refine c_seq ?_
    refine c_rseq ?_
    refine l_v (by first | exact (r_move (v := iV _) rfl) | exact (r_move rfl)) ?_
    refine l_v (by first | exact (r_move (v := .slice _ _ _) rfl) | exact (r_move rfl)) ?_
    refine l_v (r_len_l Try.underlying31 rfl) ?_
    refine l_v (r_lssi rfl rfl) ?_
    refine l_nil (nrm_then ?_)
    refine c_cond rfl (fun h => ?_) (fun h => ?_)
    · have hil : i < l.length := by have := of_decide_eq_true h; omega
      have hft := flat_take (f := encA) l i hil
      have hx := hw l[i] (List.getElem_mem hil)
      have hu : (l.map iV)[i]? = some (iV l[i]) := by simp [hil]
      obtain ⟨ad, rfl, _⟩ := hr.ad (by omega)
      generalize l[i] = x at *
      generalize (l.take i).flatMap encA = F at *
      replace h := of_decide_eq_true h
      refine c_skip (nrm_then ?_)
      refine c_seq ?_
      refine c_block ?_
      refine c_rseq ?_
      refine l_v (r_move (v := .pointer _) rfl) ?_
      refine l_v (by first | exact (r_move (v := .slice _ _ _) rfl) | exact (r_move rfl)) ?_
      refine l_v (by first | exact (r_move (v := iV _) rfl) | exact (r_move rfl)) ?_
      refine l_v (by first | exact (r_indexAddr_o1 Try.underlying31 I3 rfl rfl (by omega)) | exact (r_indexAddr_l1 Try.underlying31 I3 rfl rfl (by omega)) | exact (r_indexAddr_l Try.underlying31 I3 rfl rfl (by omega))) ?_
      refine l_v (r_load Try.underlying3 rfl (rd_get hr hs.below hu)) ?_
      refine l_call (r_call Try.func20 rfl rfl) ?_
      refine Calls.mono (wcount_c x hx F (by omega) b5 w _ _ hs) ?_
      rintro e w_ ⟨rfl, hs⟩
      refine ⟨_, rfl, ?_⟩
      have hxe := encA_len x hx
      have hxw := encW_len x hx
      by_cases h0 : x < 0
      · rw [if_pos h0] at *
        have ea : encA x = encW x := by unfold encA; rw [if_pos h0]
        have g1 : decide (x ≥ 0) = false := decide_eq_false (by omega)
        refine l_v (by first | exact (r_assign (v := iV _) rfl) | exact (r_assign rfl)) ?_
        refine l_nil (nrm_then ?_)
        refine c_seq ?_
        refine c_rseq ?_
        refine l_v (by first | exact (r_move (v := iV _) rfl) | exact (r_move rfl)) ?_
        refine l_v (r_eqli rfl rfl) ?_
        refine l_v (by first | exact (r_move (v := .slice _ _ _) rfl) | exact (r_move rfl)) ?_
        refine l_v (by first | exact (r_move (v := iV _) rfl) | exact (r_move rfl)) ?_
        refine l_v (by first | exact (r_indexAddr_o1 Try.underlying31 I3 rfl rfl (by omega)) | exact (r_indexAddr_l1 Try.underlying31 I3 rfl rfl (by omega)) | exact (r_indexAddr_l Try.underlying31 I3 rfl rfl (by omega))) ?_
        refine l_v (r_load Try.underlying3 rfl (rd_get hr hs.below hu)) ?_
        refine l_v (r_geqi rfl rfl) ?_
        refine l_v (r_neqb Try.underlying4 rfl rfl) ?_
        rw [g1]
        refine l_v (by first | exact (r_move (v := bV _) rfl) | exact (r_move rfl)) ?_
        refine l_vg (by first | exact (r_move (v := iV _) rfl) | exact (r_move rfl)) rfl (rfl) ?_
        refine l_vg (r_neqi rfl rfl) rfl (rfl) ?_
        refine l_vg (by first | exact (r_move (v := bV _) rfl) | exact (r_move rfl)) rfl (rfl) ?_
        refine l_vg (by first | exact (r_move (v := iV _) rfl) | exact (r_move rfl)) rfl (rfl) ?_
        refine l_vg (r_neqi rfl rfl) rfl (rfl) ?_
        refine l_vg (r_pick_t rfl rfl rfl) rfl (rfl) ?_
        refine l_v (r_pick_f rfl rfl rfl) ?_
        refine l_nil (nrm_then ?_)
        refine c_false rfl (rfl) ?_
        refine c_skip (nrm_then ?_)
        refine c_seq ?_
        refine c_rseq ?_
        refine l_v (by first | exact (r_move (v := .slice _ _ _) rfl) | exact (r_move rfl)) ?_
        refine l_v (by first | exact (r_move (v := iV _) rfl) | exact (r_move rfl)) ?_
        refine l_v (by first | exact (r_indexAddr_o1 Try.underlying31 I3 rfl rfl (by omega)) | exact (r_indexAddr_l1 Try.underlying31 I3 rfl rfl (by omega)) | exact (r_indexAddr_l Try.underlying31 I3 rfl rfl (by omega))) ?_
        refine l_v (r_load Try.underlying3 rfl (rd_get hr hs.below hu)) ?_
        refine l_v (r_geqi rfl rfl) ?_
        refine l_nil (nrm_then ?_)
        refine c_false rfl (g1) ?_
        refine c_skip (nrm_then ?_)
        refine c_seq ?_
        refine c_rseq ?_
        refine l_v (r_move (v := .pointer _) rfl) ?_
        refine l_v (by first | exact (r_move (v := .slice _ _ _) rfl) | exact (r_move rfl)) ?_
        refine l_v (by first | exact (r_move (v := iV _) rfl) | exact (r_move rfl)) ?_
        refine l_v (by first | exact (r_indexAddr_o1 Try.underlying31 I3 rfl rfl (by omega)) | exact (r_indexAddr_l1 Try.underlying31 I3 rfl rfl (by omega)) | exact (r_indexAddr_l Try.underlying31 I3 rfl rfl (by omega))) ?_
        refine l_v (r_load Try.underlying3 rfl (rd_get hr hs.below hu)) ?_
        refine l_call (r_call Try.func15 rfl rfl) ?_
        refine Calls.mono (wwhole_c x hx F (by omega) b5 w _ _ hs) ?_
        rintro e w_ ⟨rfl, hs⟩
        refine ⟨_, rfl, ?_⟩
        refine l_v (r_neqi rfl rfl) ?_
        refine l_nil (nrm_then ?_)
        refine c_false rfl (rfl) ?_
        refine c_skip (nrm_then ?_)
        refine c_region ?_
        refine l_v (by first | exact (r_move (v := sV _) rfl) | exact (r_move rfl)) ?_
        refine l_v (by first | exact (r_move (v := .slice _ _ _) rfl) | exact (r_move rfl)) ?_
        refine l_v (by first | exact (r_move (v := iV _) rfl) | exact (r_move rfl)) ?_
        refine l_v (by first | exact (r_indexAddr_o1 Try.underlying31 I3 rfl rfl (by omega)) | exact (r_indexAddr_l1 Try.underlying31 I3 rfl rfl (by omega)) | exact (r_indexAddr_l Try.underlying31 I3 rfl rfl (by omega))) ?_
        refine l_v (r_load Try.underlying3 rfl (rd_get hr hs.below hu)) ?_
        refine l_call (r_call Try.func21 rfl rfl) ?_
        refine Calls.mono (refwhole_c x hx w _ _ hs) ?_
        rintro e w_ ⟨rfl, hs⟩
        refine ⟨_, rfl, ?_⟩
        refine l_v (r_adds rfl rfl (by show F.length + (encW x).length ≤ _; omega)) ?_
        refine l_v (by first | exact (r_assign (v := sV _) rfl) | exact (r_assign rfl)) ?_
        refine l_nil (nrm_block (nrm_then ?_))
        refine c_region ?_
        refine l_v (by first | exact (r_move (v := iV _) rfl) | exact (r_move rfl)) ?_
        refine l_v (r_addi rfl rfl (by omega)) ?_
        refine l_v (by first | exact (r_assign (v := iV _) rfl) | exact (r_assign rfl)) ?_
        refine l_nil (nrm_then ?_)
        refine And.intro (by refine ⟨?_, ?_, ?_, trivial⟩ <;> ((conv => lhs; whnf); (try conv => rhs; whnf))) ?_
        refine ⟨l.length - (i + 1), by omega, i + 1, by omega, rfl, ?_, ?_⟩
        · show sV _ = sV _
          rw [hft, ea]
          exact congrArg Value.string (toL_inj (by rw [toL_append]))
        · rw [hft, ea]; exact hs
      · rw [if_neg h0] at *
        have ea : encA x = enc 64 x.toNat ++ encW x := by unfold encA; rw [if_neg h0]
        have hxc := enc_len 64 x.toNat (by have := hx.2; omega)
        have g1 : decide (x ≥ 0) = true := decide_eq_true (by omega)
        have ew : encW x = enc 64 x.toNat := by unfold encW; rw [if_neg h0]
        refine l_v (by first | exact (r_assign (v := iV _) rfl) | exact (r_assign rfl)) ?_
        refine l_nil (nrm_then ?_)
        refine c_seq ?_
        refine c_rseq ?_
        refine l_v (by first | exact (r_move (v := iV _) rfl) | exact (r_move rfl)) ?_
        refine l_v (r_eqli rfl rfl) ?_
        refine l_v (by first | exact (r_move (v := .slice _ _ _) rfl) | exact (r_move rfl)) ?_
        refine l_v (by first | exact (r_move (v := iV _) rfl) | exact (r_move rfl)) ?_
        refine l_v (by first | exact (r_indexAddr_o1 Try.underlying31 I3 rfl rfl (by omega)) | exact (r_indexAddr_l1 Try.underlying31 I3 rfl rfl (by omega)) | exact (r_indexAddr_l Try.underlying31 I3 rfl rfl (by omega))) ?_
        refine l_v (r_load Try.underlying3 rfl (rd_get hr hs.below hu)) ?_
        refine l_v (r_geqi rfl rfl) ?_
        refine l_v (r_neqb Try.underlying4 rfl rfl) ?_
        rw [g1]
        refine l_v (by first | exact (r_move (v := bV _) rfl) | exact (r_move rfl)) ?_
        refine l_vg (by first | exact (r_move (v := iV _) rfl) | exact (r_move rfl)) rfl (rfl) ?_
        refine l_vg (r_neqi rfl rfl) rfl (rfl) ?_
        refine l_vg (by first | exact (r_move (v := bV _) rfl) | exact (r_move rfl)) rfl (rfl) ?_
        refine l_no rfl (rfl) ?_
        refine l_no rfl (rfl) ?_
        refine l_vg (r_pick_f rfl rfl rfl) rfl (rfl) ?_
        refine l_v (r_pick_f rfl rfl rfl) ?_
        refine l_nil (nrm_then ?_)
        refine c_false rfl (rfl) ?_
        refine c_skip (nrm_then ?_)
        refine c_seq ?_
        refine c_rseq ?_
        refine l_v (by first | exact (r_move (v := .slice _ _ _) rfl) | exact (r_move rfl)) ?_
        refine l_v (by first | exact (r_move (v := iV _) rfl) | exact (r_move rfl)) ?_
        refine l_v (by first | exact (r_indexAddr_o1 Try.underlying31 I3 rfl rfl (by omega)) | exact (r_indexAddr_l1 Try.underlying31 I3 rfl rfl (by omega)) | exact (r_indexAddr_l Try.underlying31 I3 rfl rfl (by omega))) ?_
        refine l_v (r_load Try.underlying3 rfl (rd_get hr hs.below hu)) ?_
        refine l_v (r_geqi rfl rfl) ?_
        refine l_nil (nrm_then ?_)
        refine c_true rfl (g1) ?_
        refine c_region ?_
        refine l_v (by first | exact (r_move (v := sV _) rfl) | exact (r_move rfl)) ?_
        refine l_v (by first | exact (r_move (v := .slice _ _ _) rfl) | exact (r_move rfl)) ?_
        refine l_v (by first | exact (r_move (v := iV _) rfl) | exact (r_move rfl)) ?_
        refine l_v (by first | exact (r_indexAddr_o1 Try.underlying31 I3 rfl rfl (by omega)) | exact (r_indexAddr_l1 Try.underlying31 I3 rfl rfl (by omega)) | exact (r_indexAddr_l Try.underlying31 I3 rfl rfl (by omega))) ?_
        refine l_v (r_load Try.underlying3 rfl (rd_get hr hs.below hu)) ?_
        refine l_call (r_call Try.func21 rfl rfl) ?_
        refine Calls.mono (refwhole_c x hx w _ _ hs) ?_
        rintro e w_ ⟨rfl, hs⟩
        refine ⟨_, rfl, ?_⟩
        refine l_v (r_adds rfl rfl (by show F.length + (encW x).length ≤ _; omega)) ?_
        refine l_v (by first | exact (r_assign (v := sV _) rfl) | exact (r_assign rfl)) ?_
        refine l_nil (nrm_then ?_)
        refine c_seq ?_
        refine c_rseq ?_
        refine l_v (r_move (v := .pointer _) rfl) ?_
        refine l_v (by first | exact (r_move (v := .slice _ _ _) rfl) | exact (r_move rfl)) ?_
        refine l_v (by first | exact (r_move (v := iV _) rfl) | exact (r_move rfl)) ?_
        refine l_v (by first | exact (r_indexAddr_o1 Try.underlying31 I3 rfl rfl (by omega)) | exact (r_indexAddr_l1 Try.underlying31 I3 rfl rfl (by omega)) | exact (r_indexAddr_l Try.underlying31 I3 rfl rfl (by omega))) ?_
        refine l_v (r_load Try.underlying3 rfl (rd_get hr hs.below hu)) ?_
        refine l_call (r_call Try.func15 rfl rfl) ?_
        refine Calls.mono (wwhole_c x hx (F ++ enc 64 x.toNat) (by rw [List.length_append]; omega) b5 w _ _ hs) ?_
        rintro e w_ ⟨rfl, hs⟩
        refine ⟨_, rfl, ?_⟩
        refine l_v (r_neqi rfl rfl) ?_
        refine l_nil (nrm_then ?_)
        refine c_false rfl (rfl) ?_
        refine c_skip (nrm_then ?_)
        refine c_region ?_
        refine l_v (by first | exact (r_move (v := sV _) rfl) | exact (r_move rfl)) ?_
        refine l_v (by first | exact (r_move (v := .slice _ _ _) rfl) | exact (r_move rfl)) ?_
        refine l_v (by first | exact (r_move (v := iV _) rfl) | exact (r_move rfl)) ?_
        refine l_v (by first | exact (r_indexAddr_o1 Try.underlying31 I3 rfl rfl (by omega)) | exact (r_indexAddr_l1 Try.underlying31 I3 rfl rfl (by omega)) | exact (r_indexAddr_l Try.underlying31 I3 rfl rfl (by omega))) ?_
        refine l_v (r_load Try.underlying3 rfl (rd_get hr hs.below hu)) ?_
        refine l_call (r_call Try.func21 rfl rfl) ?_
        refine Calls.mono (refwhole_c x hx w _ _ hs) ?_
        rintro e w_ ⟨rfl, hs⟩
        refine ⟨_, rfl, ?_⟩
        refine l_v (r_adds rfl rfl (by rw [ByteArray.size_append]; show F.length + (encW x).length + (encW x).length ≤ _; omega)) ?_
        refine l_v (by first | exact (r_assign (v := sV _) rfl) | exact (r_assign rfl)) ?_
        refine l_nil (nrm_block (nrm_then ?_))
        refine c_region ?_
        refine l_v (by first | exact (r_move (v := iV _) rfl) | exact (r_move rfl)) ?_
        refine l_v (r_addi rfl rfl (by omega)) ?_
        refine l_v (by first | exact (r_assign (v := iV _) rfl) | exact (r_assign rfl)) ?_
        refine l_nil (nrm_then ?_)
        refine And.intro (by refine ⟨?_, ?_, ?_, trivial⟩ <;> ((conv => lhs; whnf); (try conv => rhs; whnf))) ?_
        refine ⟨l.length - (i + 1), by omega, i + 1, by omega, rfl, ?_, ?_⟩
        · show sV _ = sV _
          rw [hft, ea]
          refine congrArg Value.string (toL_inj ?_)
          rw [toL_append, toL_append, toL_ofL, toL_ofL, toL_ofL, ← ew, List.append_assoc]
        · rw [hft, ea, ← List.append_assoc]; exact hs
    · replace h := of_decide_eq_false h
      refine c_exit (ex_then (ex_then (ex_hit (nrm_then ?_))))
      refine c_rseq ?_
      obtain rfl : i = l.length := by omega
      rw [List.take_length] at *
      generalize l.flatMap encA = F at *
      have hel := enc_len 64 s.size (by omega)
      have het : (encT (toL s)).length ≤ 11 + s.size := by unfold encT; rw [List.length_append, hl]; omega
      refine l_call (r_call Try.func10 rfl rfl) ?_
      refine Calls.mono (awake_c _) ?_
      rintro e w_ ⟨rfl, hb⟩
      refine ⟨_, rfl, ?_⟩
      have hs := hs.below_ hb
      refine l_v (by first | exact (r_move (v := bV _) rfl) | exact (r_move rfl)) ?_
      refine l_vg (r_move (v := .pointer _) rfl) rfl (rfl) ?_
      refine l_vg (by first | exact (r_move (v := sV _) rfl) | exact (r_move rfl)) rfl (rfl) ?_
      refine l_callg (r_call Try.func16 rfl rfl) rfl (rfl) ?_
      refine Calls.mono (wtext_c s F (by omega) b5 w _ _ hs) ?_
      rintro e w_ ⟨rfl, hs⟩
      refine ⟨_, rfl, ?_⟩
      refine l_vg (r_eqli rfl rfl) rfl (rfl) ?_
      refine l_v (r_pick_t rfl (rfl) rfl) ?_
      refine l_v (by first | exact (r_move (v := bV _) rfl) | exact (r_move rfl)) ?_
      refine l_vg (r_move (v := .pointer _) rfl) rfl (rfl) ?_
      refine l_vg (by first | exact (r_move (v := sV _) rfl) | exact (r_move rfl)) rfl (rfl) ?_
      refine l_callg (r_call Try.func22 rfl rfl) rfl (rfl) ?_
      refine Calls.mono (wraw_c s (F ++ encT (toL s)) (by rw [List.length_append]; omega) b5 w _ _ hs) ?_
      rintro e w_ ⟨rfl, hs⟩
      refine ⟨_, rfl, ?_⟩
      refine l_vg (r_eqli rfl rfl) rfl (rfl) ?_
      refine l_v (r_pick_t rfl (rfl) rfl) ?_
      refine l_v (by first | exact (r_move (v := bV _) rfl) | exact (r_move rfl)) ?_
      refine l_vg (r_move (v := .pointer _) rfl) rfl (rfl) ?_
      refine l_callg (r_call Try.func17 rfl rfl) rfl (rfl) ?_
      refine Calls.mono (bytes_c (F ++ encT (toL s) ++ toL s) b5 w _ _ hs) ?_
      rintro e w_ ⟨rfl, rfl⟩
      refine ⟨_, rfl, ?_⟩
      refine l_vg (by first | exact (r_move (v := sV _) rfl) | exact (r_move rfl)) rfl (rfl) ?_
      refine l_vg (by first | exact (r_move (v := sV _) rfl) | exact (r_move rfl)) rfl (rfl) ?_
      refine l_callg (r_call Try.func23 rfl rfl) rfl (rfl) ?_
      refine Calls.mono (reftext_c s (by omega) w _ _ hs) ?_
      rintro e w_ ⟨rfl, hs⟩
      refine ⟨_, rfl, ?_⟩
      refine l_vg (r_adds rfl rfl (by show F.length + (encT (toL s)).length ≤ _; omega)) rfl (rfl) ?_
      refine l_vg (by first | exact (r_move (v := sV _) rfl) | exact (r_move rfl)) rfl (rfl) ?_
      refine l_vg (r_adds rfl rfl (by rw [ByteArray.size_append]; show F.length + (encT (toL s)).length + _ ≤ _; omega)) rfl (rfl) ?_
      refine l_vg (r_eqls rfl rfl) rfl (rfl) ?_
      refine l_v (r_pick_t rfl (rfl) rfl) ?_
      refine l_v (by first | exact (r_assign (v := bV _) rfl) | exact (r_assign rfl)) ?_
      refine l_nil (nrm_then ?_)
      refine c_ret ?_
      show Fin _ _ _ _ _
      refine fin1 rfl ?_
      refine ⟨congrArg Ending.returned (congrArg Value.bool (decide_eq_true ?_)), hs.below⟩
      refine toL_inj ?_
      rw [toL_append, toL_append, toL_ofL, toL_ofL, toL_ofL]
def sumS (l : List ByteArray) : Nat := (l.map fun s => s.size + 1).sum
theorem sumS_take (l : List ByteArray) (i : Nat) : sumS (l.take i) ≤ sumS l := by
  unfold sumS
  have h : (l.map fun s => s.size + 1).sum = ((l.take i).map fun s => s.size + 1).sum + ((l.drop i).map fun s => s.size + 1).sum := by
    rw [← List.sum_append, ← List.map_append, List.take_append_drop]
  omega
theorem sumS_mem {l : List ByteArray} {s : ByteArray} (h : s ∈ l) : s.size + 1 ≤ sumS l := by
  induction l with
  | nil => cases h
  | cons x l ih =>
    unfold sumS at *
    rw [List.map_cons, List.sum_cons]
    rcases List.mem_cons.1 h with rfl | h
    · omega
    · have := ih h; omega
theorem flatT_len : ∀ (l : List ByteArray), sumS l ≤ 1048576 → (l.flatMap fun s => encT (toL s)).length ≤ 12 * sumS l
  | [], _ => by simp
  | s :: l, h => by
    have e : sumS (s :: l) = s.size + 1 + sumS l := by unfold sumS; rw [List.map_cons, List.sum_cons]
    have h2 := flatT_len l (by omega)
    have h3 := enc_len 64 s.size (by omega)
    have h4 : (encT (toL s)).length ≤ 11 + s.size := by unfold encT; rw [List.length_append, toL_size]; omega
    rw [List.flatMap_cons, List.length_append, e]
    omega
theorem cut_app (a r : List UInt8) : cut (ofL (a ++ r)) a.length = ofL r := by
  unfold cut; rw [toL_ofL, List.drop_left]
set_option maxHeartbeats 4000000 in
theorem sixBack_walk {w : World} (A : Option Addr) (c : Nat) (l : List Int) (hr : Rd w 1 A l.length (l.map iV)) (hc : l.length ≤ c) (hw : ∀ x ∈ l, i64 x)
    (B : Option Addr) (d : Nat) (ts : List ByteArray) (hq : Rd w 1 B ts.length (ts.map sV)) (hd : ts.length ≤ d) (M : ByteArray) (hbk : l.length + (sumS ts + M.size) ≤ 1048576) :
    Calls Try.prog 4 #[.slice A l.length c, .slice B ts.length d, sV M] w fun e w' => e = .returned (bV true) ∧ Below w.heap.size w w' := by
  have hn2 := hq.2.1
  have hts := flatT_len ts (by omega)
  refine enter (P := Try.prog) Try.func4 rfl rfl ?_
  have hs := Sep.init w
  refine c_rseq ?_
  refine l_v (by first | exact (r_assign (v := bV _) rfl) | exact (r_assign rfl)) ?_
  refine l_nil (nrm_then ?_)
  refine c_rseq ?_
  refine l_call (r_call Try.func14 rfl rfl) ?_
  refine Calls.mono (new_c w _ _ hs) ?_
  rintro e w_ ⟨b7, rfl, hs⟩
  refine ⟨_, rfl, ?_⟩
  refine l_v (r_assign (v := .pointer _) rfl) ?_
  refine l_nil (nrm_then ?_)
  refine c_seq ?_
  refine c_rseq ?_
  refine l_v (by first | exact (r_assign (v := iV _) rfl) | exact (r_assign rfl)) ?_
  refine l_nil (nrm_then ?_)
  refine c_block ?_
  refine c_loopn [0, 1, 2, 6, 7] (fun m f' w' => ∃ i, i + m = l.length ∧ f' 8 = iV (i : Int) ∧ Sep w w' [wtr b7 ((l.take i).flatMap encW)]) ?_ ?_
  · exact ⟨l.length, 0, by omega, rfl, hs⟩
  · rintro m g w_ ⟨i, hi, h8, hs⟩
    have hfl := flat_len encW_len (l.take i) (fun x hx => hw x (List.mem_of_mem_take hx))
    rw [List.length_take] at hfl
    refine OkC.env ?_ (fixH (L := [(8, _)]) ⟨h8, trivial⟩)
    clear h8
    refine c_seq ?_
    refine c_rseq ?_
    refine l_v (by first | exact (r_move (v := iV _) rfl) | exact (r_move rfl)) ?_
    refine l_v (by first | exact (r_move (v := .slice _ _ _) rfl) | exact (r_move rfl)) ?_
    refine l_v (r_len_l Try.underlying31 rfl) ?_
    refine l_v (r_lssi rfl rfl) ?_
    refine l_nil (nrm_then ?_)
    refine c_cond rfl (fun h => ?_) (fun h => ?_)
    · have hil : i < l.length := by have := of_decide_eq_true h; omega
      have hft := flat_take (f := encW) l i hil
      have hx := hw l[i] (List.getElem_mem hil)
      have hu : (l.map iV)[i]? = some (iV l[i]) := by simp [hil]
      obtain ⟨ad, rfl, _⟩ := hr.ad (by omega)
      generalize l[i] = x at *
      replace h := of_decide_eq_true h
      refine c_skip (nrm_then ?_)
      refine c_seq ?_
      refine c_block ?_
      refine c_region ?_
      refine l_v (r_move (v := .pointer _) rfl) ?_
      refine l_v (by first | exact (r_move (v := .slice _ _ _) rfl) | exact (r_move rfl)) ?_
      refine l_v (by first | exact (r_move (v := iV _) rfl) | exact (r_move rfl)) ?_
      refine l_v (by first | exact (r_indexAddr_o1 Try.underlying31 I3 rfl rfl (by omega)) | exact (r_indexAddr_l1 Try.underlying31 I3 rfl rfl (by omega)) | exact (r_indexAddr_l Try.underlying31 I3 rfl rfl (by omega))) ?_
      refine l_v (r_load Try.underlying3 rfl (rd_get hr hs.below hu)) ?_
      refine l_call (r_call Try.func15 rfl rfl) ?_
      refine Calls.mono (wwhole_c x hx _ (by omega) b7 w _ _ hs) ?_
      rintro e w_ ⟨rfl, hs⟩
      refine ⟨_, rfl, ?_⟩
      refine l_nil (nrm_block (nrm_then ?_))
      refine c_region ?_
      refine l_v (by first | exact (r_move (v := iV _) rfl) | exact (r_move rfl)) ?_
      refine l_v (r_addi rfl rfl (by omega)) ?_
      refine l_v (by first | exact (r_assign (v := iV _) rfl) | exact (r_assign rfl)) ?_
      refine l_nil (nrm_then ?_)
      refine And.intro (by refine ⟨?_, ?_, ?_, ?_, ?_, trivial⟩ <;> ((conv => lhs; whnf); (try conv => rhs; whnf))) ?_
      exact ⟨l.length - (i + 1), by omega, i + 1, by omega, rfl, by rw [hft]; exact hs⟩
    · replace h := of_decide_eq_false h
      refine c_exit (ex_then (ex_then (ex_hit (nrm_then ?_))))
      refine c_seq ?_
      refine c_rseq ?_
      refine l_v (by first | exact (r_assign (v := iV _) rfl) | exact (r_assign rfl)) ?_
      refine l_nil (nrm_then ?_)
      refine c_block ?_
      obtain rfl : i = l.length := by omega
      rw [List.take_length] at *
      refine c_loopn [0, 1, 2, 6, 7] (fun m f' w' => ∃ i, i + m = ts.length ∧ f' 9 = iV (i : Int) ∧ Sep w w' [wtr b7 (l.flatMap encW ++ (ts.take i).flatMap fun s => encT (toL s))]) ?_ ?_
      · exact ⟨ts.length, 0, by omega, rfl, by simpa using hs⟩
      · rintro m g w_ ⟨i, hi, h9, hs⟩
        have hst := sumS_take ts i
        have hft := flatT_len (ts.take i) (by omega)
        refine OkC.env ?_ (fixH (L := [(9, _)]) ⟨h9, trivial⟩)
        clear h9
        refine c_seq ?_
        refine c_rseq ?_
        refine l_v (by first | exact (r_move (v := iV _) rfl) | exact (r_move rfl)) ?_
        refine l_v (by first | exact (r_move (v := .slice _ _ _) rfl) | exact (r_move rfl)) ?_
        refine l_v (r_len_l Try.underlying32 rfl) ?_
        refine l_v (r_lssi rfl rfl) ?_
        refine l_nil (nrm_then ?_)
        refine c_cond rfl (fun h2 => ?_) (fun h2 => ?_)
        · have hil : i < ts.length := by have := of_decide_eq_true h2; omega
          have hftk := flatS_take (f := fun s => encT (toL s)) ts i hil
          have hx := sumS_mem (List.getElem_mem hil)
          have hu : (ts.map sV)[i]? = some (sV ts[i]) := by simp [hil]
          obtain ⟨ad, rfl, _⟩ := hq.ad (by omega)
          generalize ts[i] = x at *
          replace h2 := of_decide_eq_true h2
          refine c_skip (nrm_then ?_)
          refine c_seq ?_
          refine c_block ?_
          refine c_region ?_
          refine l_v (r_move (v := .pointer _) rfl) ?_
          refine l_v (by first | exact (r_move (v := .slice _ _ _) rfl) | exact (r_move rfl)) ?_
          refine l_v (by first | exact (r_move (v := iV _) rfl) | exact (r_move rfl)) ?_
          refine l_v (by first | exact (r_indexAddr_o1 Try.underlying32 I9 rfl rfl (by omega)) | exact (r_indexAddr_l1 Try.underlying32 I9 rfl rfl (by omega)) | exact (r_indexAddr_l Try.underlying32 I9 rfl rfl (by omega))) ?_
          refine l_v (r_load Try.underlying9 rfl (rd_get hq hs.below hu)) ?_
          refine l_call (r_call Try.func16 rfl rfl) ?_
          refine Calls.mono (wtext_c x _ (by rw [List.length_append]; omega) b7 w _ _ hs) ?_
          rintro e w_ ⟨rfl, hs⟩
          refine ⟨_, rfl, ?_⟩
          refine l_nil (nrm_block (nrm_then ?_))
          refine c_region ?_
          refine l_v (by first | exact (r_move (v := iV _) rfl) | exact (r_move rfl)) ?_
          refine l_v (r_addi rfl rfl (by omega)) ?_
          refine l_v (by first | exact (r_assign (v := iV _) rfl) | exact (r_assign rfl)) ?_
          refine l_nil (nrm_then ?_)
          refine And.intro (by refine ⟨?_, ?_, ?_, ?_, ?_, trivial⟩ <;> ((conv => lhs; whnf); (try conv => rhs; whnf))) ?_
          exact ⟨ts.length - (i + 1), by omega, i + 1, by omega, rfl, by rw [hftk, ← List.append_assoc]; exact hs⟩
        · replace h2 := of_decide_eq_false h2
          refine c_exit (ex_then (ex_then (ex_hit (nrm_then ?_))))
          refine c_rseq ?_
          refine l_v (r_move (v := .pointer _) rfl) ?_
          obtain rfl : i = ts.length := by omega
          rw [List.take_length] at *
          refine l_call (r_call Try.func17 rfl rfl) ?_
          refine Calls.mono (bytes_c _ b7 w _ _ hs) ?_
          rintro e w_ ⟨rfl, rfl⟩
          refine ⟨_, rfl, ?_⟩
          refine l_v (by first | exact (r_move (v := sV _) rfl) | exact (r_move rfl)) ?_
          refine l_v (r_adds rfl rfl (by show (l.flatMap encW ++ _).length + _ ≤ _; rw [List.length_append]; omega)) ?_
          refine l_call (r_call Try.func9 rfl rfl) ?_
          refine Calls.mono (over_c _ w _ _ hs) ?_
          rintro e w_ ⟨b10, rfl, hs⟩
          refine ⟨_, rfl, ?_⟩
          have hs := (hs.pull 1).drop
          have e0 : ofL (l.flatMap encW ++ ts.flatMap fun s => encT (toL s)) ++ M = ofL ((l.drop 0).flatMap encW ++ ((ts.flatMap fun s => encT (toL s)) ++ toL M)) := toL_inj (by
            rw [toL_append, toL_ofL, toL_ofL, List.drop_zero, List.append_assoc])
          rw [e0] at hs
          refine l_v (r_assign (v := .pointer _) rfl) ?_
          refine l_nil (nrm_then ?_)
          refine c_seq ?_
          refine c_rseq ?_
          refine l_v (by first | exact (r_assign (v := iV _) rfl) | exact (r_assign rfl)) ?_
          refine l_nil (nrm_then ?_)
          refine c_block ?_
          refine c_loopn [0, 1, 2, 10] (fun m f' w' => ∃ i, i + m = l.length ∧ f' 11 = iV (i : Int) ∧ Sep w w' [rdr b10 (ofL ((l.drop i).flatMap encW ++ ((ts.flatMap fun s => encT (toL s)) ++ toL M)))]) ?_ ?_
          · exact ⟨l.length, 0, by omega, rfl, hs⟩
          · rintro m g w_ ⟨i, hi, h11, hs⟩
            refine OkC.env ?_ (fixH (L := [(11, _)]) ⟨h11, trivial⟩)
            clear h11
            refine c_seq ?_
            refine c_rseq ?_
            refine l_v (by first | exact (r_move (v := iV _) rfl) | exact (r_move rfl)) ?_
            refine l_v (by first | exact (r_move (v := .slice _ _ _) rfl) | exact (r_move rfl)) ?_
            refine l_v (r_len_l Try.underlying31 rfl) ?_
            refine l_v (r_lssi rfl rfl) ?_
            refine l_nil (nrm_then ?_)
            refine c_cond rfl (fun h3 => ?_) (fun h3 => ?_)
            · have hil : i < l.length := by have := of_decide_eq_true h3; omega
              have hx := hw l[i] (List.getElem_mem hil)
              have hu : (l.map iV)[i]? = some (iV l[i]) := by simp [hil]
              have hdr : l.drop i = l[i] :: l.drop (i + 1) := List.drop_eq_getElem_cons hil
              have hfl2 := flat_len encW_len (l.drop (i + 1)) (fun x hx => hw x (List.mem_of_mem_drop hx))
              rw [List.length_drop] at hfl2
              rw [hdr, List.flatMap_cons, List.append_assoc] at hs
              obtain ⟨ad, rfl, _⟩ := hr.ad (by omega)
              generalize l[i] = x at *
              have hMl := toL_size M
              have hwe := whole_encW x hx ((l.drop (i + 1)).flatMap encW ++ ((ts.flatMap fun s => encT (toL s)) ++ toL M))
              have hel := encW_len x hx
              replace h3 := of_decide_eq_true h3
              refine c_skip (nrm_then ?_)
              refine c_seq ?_
              refine c_block ?_
              refine c_rseq ?_
              refine l_v (r_move (v := .pointer _) rfl) ?_
              refine l_call (r_call Try.func18 rfl rfl) ?_
              refine Calls.mono (whole_c _ (by show (encW x ++ _).length ≤ _; rw [List.length_append, List.length_append, List.length_append]; omega) b10 w _ _ hs) ?_
              rintro e w_ ⟨rfl, hs⟩
              refine ⟨_, rfl, ?_⟩
              rw [toL_ofL, hwe] at *
              rw [cut_app] at hs
              have hne : decide (x ≠ x) = false := decide_eq_false (fun h => h rfl)
              refine l_v (r_move rfl) ?_
              refine l_v (r_extract rfl rfl) ?_
              refine l_v (r_extract rfl rfl) ?_
              refine l_v (by first | exact (r_assign (v := iV _) rfl) | exact (r_assign rfl)) ?_
              refine l_v (by first | exact (r_assign (v := iV _) rfl) | exact (r_assign rfl)) ?_
              refine l_nil (nrm_then ?_)
              refine c_rseq ?_
              refine l_v (by first | exact (r_move (v := iV _) rfl) | exact (r_move rfl)) ?_
              refine l_v (r_neqi rfl rfl) ?_
              refine l_v (by first | exact (r_move (v := bV _) rfl) | exact (r_move rfl)) ?_
              refine l_vg (by first | exact (r_move (v := iV _) rfl) | exact (r_move rfl)) rfl (rfl) ?_
              refine l_vg (by first | exact (r_move (v := .slice _ _ _) rfl) | exact (r_move rfl)) rfl (rfl) ?_
              refine l_vg (by first | exact (r_move (v := iV _) rfl) | exact (r_move rfl)) rfl (rfl) ?_
              refine l_vg (by first | exact (r_indexAddr_o1 Try.underlying31 I3 rfl rfl (by omega)) | exact (r_indexAddr_l1 Try.underlying31 I3 rfl rfl (by omega)) | exact (r_indexAddr_l Try.underlying31 I3 rfl rfl (by omega))) rfl (rfl) ?_
              refine l_vg (r_load Try.underlying3 rfl (rd_get hr hs.below hu)) rfl (rfl) ?_
              refine l_vg (r_neqi rfl rfl) rfl (rfl) ?_
              refine l_v (r_pick_f rfl rfl rfl) ?_
              refine l_nil (nrm_then ?_)
              refine c_false rfl (hne) ?_
              refine c_skip (nrm_block (nrm_then ?_))
              refine c_region ?_
              refine l_v (by first | exact (r_move (v := iV _) rfl) | exact (r_move rfl)) ?_
              refine l_v (r_addi rfl rfl (by omega)) ?_
              refine l_v (by first | exact (r_assign (v := iV _) rfl) | exact (r_assign rfl)) ?_
              refine l_nil (nrm_then ?_)
              refine And.intro (by refine ⟨?_, ?_, ?_, ?_, trivial⟩ <;> ((conv => lhs; whnf); (try conv => rhs; whnf))) ?_
              exact ⟨l.length - (i + 1), by omega, i + 1, by omega, rfl, hs⟩
            · replace h3 := of_decide_eq_false h3
              refine c_exit (ex_then (ex_then (ex_hit (nrm_then ?_))))
              refine c_seq ?_
              refine c_rseq ?_
              refine l_v (by first | exact (r_assign (v := iV _) rfl) | exact (r_assign rfl)) ?_
              refine l_nil (nrm_then ?_)
              refine c_block ?_
              obtain rfl : i = l.length := by omega
              rw [List.drop_length, List.flatMap_nil, List.nil_append] at hs
              refine c_loopn [1, 2, 10] (fun m f' w' => ∃ i, i + m = ts.length ∧ f' 14 = iV (i : Int) ∧ Sep w w' [rdr b10 (ofL (((ts.drop i).flatMap fun s => encT (toL s)) ++ toL M))]) ?_ ?_
              · exact ⟨ts.length, 0, by omega, rfl, hs⟩
              · rintro m g w_ ⟨i, hi, h14, hs⟩
                refine OkC.env ?_ (fixH (L := [(14, _)]) ⟨h14, trivial⟩)
                clear h14
                refine c_seq ?_
                refine c_rseq ?_
                refine l_v (by first | exact (r_move (v := iV _) rfl) | exact (r_move rfl)) ?_
                refine l_v (by first | exact (r_move (v := .slice _ _ _) rfl) | exact (r_move rfl)) ?_
                refine l_v (r_len_l Try.underlying32 rfl) ?_
                refine l_v (r_lssi rfl rfl) ?_
                refine l_nil (nrm_then ?_)
                refine c_cond rfl (fun h4 => ?_) (fun h4 => ?_)
                · have hil : i < ts.length := by have := of_decide_eq_true h4; omega
                  have hu : (ts.map sV)[i]? = some (sV ts[i]) := by simp [hil]
                  have hdr : ts.drop i = ts[i] :: ts.drop (i + 1) := List.drop_eq_getElem_cons hil
                  have hx := sumS_mem (List.getElem_mem hil)
                  have hdl : ((ts.drop (i + 1)).flatMap fun s => encT (toL s)).length + (encT (toL ts[i])).length ≤ (ts.flatMap fun s => encT (toL s)).length := by
                    have h : (ts.flatMap fun s => encT (toL s)).length = ((ts.take i ++ ts.drop i).flatMap fun s => encT (toL s)).length := by rw [List.take_append_drop]
                    rw [h, List.flatMap_append, hdr, List.flatMap_cons, List.length_append, List.length_append]; omega
                  rw [hdr, List.flatMap_cons, List.append_assoc] at hs
                  obtain ⟨ad, rfl, _⟩ := hq.ad (by omega)
                  generalize ts[i] = x at *
                  have hMl := toL_size M
                  have hxl := toL_size x
                  have hte := text_encT (toL x) (((ts.drop (i + 1)).flatMap fun s => encT (toL s)) ++ toL M) (by omega)
                  replace h4 := of_decide_eq_true h4
                  refine c_skip (nrm_then ?_)
                  refine c_seq ?_
                  refine c_block ?_
                  refine c_rseq ?_
                  refine l_v (r_move (v := .pointer _) rfl) ?_
                  refine l_call (r_call Try.func19 rfl rfl) ?_
                  refine Calls.mono (text_c _ (by show (encT (toL x) ++ _).length ≤ _; rw [List.length_append, List.length_append]; omega) b10 w _ _ hs) ?_
                  rintro e w_ ⟨rfl, hs⟩
                  refine ⟨_, rfl, ?_⟩
                  rw [toL_ofL, hte] at *
                  rw [cut_app] at hs
                  have hne : decide (ofL (toL x) ≠ x) = false := decide_eq_false (fun h => h rfl)
                  refine l_v (r_move rfl) ?_
                  refine l_v (r_extract rfl rfl) ?_
                  refine l_v (r_extract rfl rfl) ?_
                  refine l_v (by first | exact (r_assign (v := sV _) rfl) | exact (r_assign rfl)) ?_
                  refine l_v (by first | exact (r_assign (v := iV _) rfl) | exact (r_assign rfl)) ?_
                  refine l_nil (nrm_then ?_)
                  refine c_rseq ?_
                  refine l_v (by first | exact (r_move (v := iV _) rfl) | exact (r_move rfl)) ?_
                  refine l_v (r_neqi rfl rfl) ?_
                  refine l_v (by first | exact (r_move (v := bV _) rfl) | exact (r_move rfl)) ?_
                  refine l_vg (by first | exact (r_move (v := sV _) rfl) | exact (r_move rfl)) rfl (rfl) ?_
                  refine l_vg (by first | exact (r_move (v := .slice _ _ _) rfl) | exact (r_move rfl)) rfl (rfl) ?_
                  refine l_vg (by first | exact (r_move (v := iV _) rfl) | exact (r_move rfl)) rfl (rfl) ?_
                  refine l_vg (by first | exact (r_indexAddr_o1 Try.underlying32 I9 rfl rfl (by omega)) | exact (r_indexAddr_l1 Try.underlying32 I9 rfl rfl (by omega)) | exact (r_indexAddr_l Try.underlying32 I9 rfl rfl (by omega))) rfl (rfl) ?_
                  refine l_vg (r_load Try.underlying9 rfl (rd_get hq hs.below hu)) rfl (rfl) ?_
                  refine l_vg (r_neqs rfl rfl) rfl (rfl) ?_
                  refine l_v (r_pick_f rfl rfl rfl) ?_
                  refine l_nil (nrm_then ?_)
                  refine c_false rfl (hne) ?_
                  refine c_skip (nrm_block (nrm_then ?_))
                  refine c_region ?_
                  refine l_v (by first | exact (r_move (v := iV _) rfl) | exact (r_move rfl)) ?_
                  refine l_v (r_addi rfl rfl (by omega)) ?_
                  refine l_v (by first | exact (r_assign (v := iV _) rfl) | exact (r_assign rfl)) ?_
                  refine l_nil (nrm_then ?_)
                  refine And.intro (by refine ⟨?_, ?_, ?_, trivial⟩ <;> ((conv => lhs; whnf); (try conv => rhs; whnf))) ?_
                  exact ⟨ts.length - (i + 1), by omega, i + 1, by omega, rfl, hs⟩
                · replace h4 := of_decide_eq_false h4
                  refine c_exit (ex_then (ex_then (ex_hit (nrm_then ?_))))
                  refine c_rseq ?_
                  obtain rfl : i = ts.length := by omega
                  rw [List.drop_length, List.flatMap_nil, List.nil_append] at hs
                  refine l_call (r_call Try.func10 rfl rfl) ?_
                  refine Calls.mono (awake_c _) ?_
                  rintro e w_ ⟨rfl, hb⟩
                  refine ⟨_, rfl, ?_⟩
                  have hs := hs.below_ hb
                  refine l_v (by first | exact (r_move (v := bV _) rfl) | exact (r_move rfl)) ?_
                  refine l_vg (r_move (v := .pointer _) rfl) rfl (rfl) ?_
                  refine l_callg (r_call Try.func11 rfl rfl) rfl (rfl) ?_
                  refine Calls.mono (rest_c _ b10 w _ _ hs) ?_
                  rintro e w_ ⟨rfl, rfl⟩
                  refine ⟨_, rfl, ?_⟩
                  have heq : decide (ofL (toL M) = M) = true := decide_eq_true rfl
                  refine l_vg (by first | exact (r_move (v := sV _) rfl) | exact (r_move rfl)) rfl (rfl) ?_
                  refine l_vg (r_eqls rfl rfl) rfl (rfl) ?_
                  refine l_v (r_pick_t rfl (rfl) rfl) ?_
                  refine l_v (by first | exact (r_assign (v := bV _) rfl) | exact (r_assign rfl)) ?_
                  refine l_nil (nrm_then ?_)
                  refine c_ret ?_
                  show Fin _ _ _ _ _
                  refine fin1 rfl ?_
                  exact ⟨congrArg Ending.returned (congrArg Value.bool heq), hs.below⟩
theorem sixWrites_row {w : World} (A : Option Addr) (c : Nat) (l : List Int) (hr : Rd w 1 A l.length (l.map iV)) (hc : l.length ≤ c) (hw : ∀ x ∈ l, (Lit.int .i64 x).wf = true) (s : ByteArray) (hz : s.size ≤ 140737488351232) (hbk : l.length + s.size ≤ 1048576) :
    Calls Try.prog 6 #[.slice A l.length c, sV s] w fun e w' => e = .returned (bV true) ∧ Below w.heap.size w w' :=
  sixWrites_walk A c l hr hc (fun x hx => bounds_i64 (hw x hx)) s hbk
theorem sixBack_row {w : World} (A : Option Addr) (c : Nat) (l : List Int) (hr : Rd w 1 A l.length (l.map iV)) (hc : l.length ≤ c) (hw : ∀ x ∈ l, (Lit.int .i64 x).wf = true)
    (B : Option Addr) (d : Nat) (ts : List ByteArray) (hq : Rd w 1 B ts.length (ts.map sV)) (hd : ts.length ≤ d) (hts : ∀ s ∈ ts, s.size ≤ 9223372036854775807) (M : ByteArray) (hz : M.size ≤ 140737488351232) (hbk : l.length + ((ts.map fun s => s.size + 1).sum + M.size) ≤ 1048576) :
    Calls Try.prog 4 #[.slice A l.length c, .slice B ts.length d, sV M] w fun e w' => e = .returned (bV true) ∧ Below w.heap.size w w' :=
  sixBack_walk A c l hr hc (fun x hx => bounds_i64 (hw x hx)) B d ts hq hd M hbk
end Go.Proofs.Ytfbmgiflckdalaa.Six
