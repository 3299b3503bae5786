/- The walk of BloomMore; the laws of one byte and keys in the shape that the row asks for. -/
import Derived.Test.YtbimboibllboeaaDoorBlmNever
import Derived.Test.YtbimboibllboeaaDoorRowArr
import Derived.Test.YtbimboibllboeaaDoorCutMid
import Derived.OpenShut
namespace Go.Proofs.YtbimboibllboeaaDoor.Blm
open Go Go.RowKit Go.ChangeShapes Go.WideShapes Go.Proofs.YtbimboibllboeaaDoor.Eng Go.Proofs.YtbimboibllboeaaDoor.Sha Go.Proofs.YtbimboibllboeaaDoor.Six
set_option linter.unusedVariables false
set_option maxRecDepth 100000
theorem rev_next {keys : List ByteArray} {i : Nat} {s : ByteArray} (h : keys[i]? = some s) : (keys.drop (i + 1)).reverse ++ [s] = (keys.drop i).reverse := by
  have hi := (List.getElem?_eq_some_iff.1 h).1
  rw [List.drop_eq_getElem_cons hi, List.reverse_cons, (List.getElem?_eq_some_iff.1 h).2]
abbrev rowB (v : Value) (l : List ByteArray) : HP := RowC 9 1 v l.length (l.map sV)
theorem rowB_app {w0 w : World} {v : Value} {l : List ByteArray} {s : ByteArray} {L : List HP} (hs : Eng.Sep w0 w (RowC 9 1 v (l.length + 1) (l.map sV ++ [sV s]) :: L)) : Eng.Sep w0 w (rowB v (l ++ [s]) :: L) := by
  unfold rowB; rw [List.length_append, List.map_append]; exact hs
set_option maxHeartbeats 8000000 in
theorem more_walk {w : World} (x8 : UInt8) (A : Option Addr) (c : Nat) (keys : List ByteArray) (hr : Rd w 1 A keys.length (keys.map sV)) (hcap : keys.length ≤ c) (hsz : ∀ s ∈ keys, s.size ≤ 9223372036854775807) (h0 : Ok0 w) :
    Calls Tryd.prog 4 #[u8V x8, .slice A keys.length c] w fun e w' => e = .returned (bV true) ∧ Below w.heap.size w w' := by
  obtain ⟨p, hpe, hp⟩ := per_of x8
  have hn63 := hr.2.1
  refine enter (P := Tryd.prog) Tryd.func4 rfl rfl ?_
  have hs := Eng.Sep.init w
  refine c_rseq ?_
  refine l_v (by first | exact (r_assign (v := bV _) rfl) | exact (r_assign rfl)) ?_
  refine l_nil (nrm_then ?_)
  refine c_seq ?_
  refine c_rseq ?_
  refine l_call (r_call Tryd.func8 rfl rfl) ?_
  refine Calls.mono (awake_c _ h0) ?_
  rintro e w_ ⟨rfl, hb⟩
  refine ⟨_, rfl, ?_⟩
  have hs := hs.below_ hb
  refine l_v (r_not rfl) ?_
  refine l_v (by first | exact (r_move (v := bV _) rfl) | exact (r_move rfl)) ?_
  refine l_vg (by first | exact (r_move (v := .slice _ _ _) rfl) | exact (r_move rfl)) rfl (rfl) ?_
  refine l_callg (r_call Tryd.func9 rfl rfl) rfl (rfl) ?_
  refine Calls.mono (few_c A c keys _ (hr.below hs.below)) ?_
  rintro e w_ ⟨bf, rfl, hfew, hb⟩
  refine ⟨_, rfl, ?_⟩
  have hs := hs.below_ hb
  refine l_vg (r_not rfl) rfl (rfl) ?_
  refine l_v (r_pick_f rfl rfl rfl) ?_
  refine l_v (by first | exact (r_move (v := bV _) rfl) | exact (r_move rfl)) ?_
  rcases Bool.eq_false_or_eq_true bf with hbf | hbf
  · obtain ⟨hn, hz⟩ := hfew hbf
    have fb : (!bf) = false := by rw [hbf]; rfl
    refine l_vg (by first | exact (r_move (v := .slice _ _ _) rfl) | exact (r_move rfl)) rfl (fb) ?_
    refine l_vg (r_len_l Tryd.underlying22 rfl) rfl (fb) ?_
    refine l_vg (r_eqli rfl rfl) rfl (fb) ?_
    refine l_v (r_pick_f rfl fb rfl) ?_
    refine l_nil (nrm_then ?_)
    refine c_cond rfl (fun h1 => ?_) (fun h1 => ?_)
    · replace h1 := of_decide_eq_true h1
      refine c_rseq ?_
      refine l_call (r_call Tryd.func8 rfl rfl) ?_
      refine Calls.mono (awake_c _ (h0.sep hs)) ?_
      rintro e w_ ⟨rfl, hb⟩
      refine ⟨_, rfl, ?_⟩
      have hs := hs.below_ hb
      refine l_v (by first | exact (r_assign (v := bV _) rfl) | exact (r_assign rfl)) ?_
      refine l_nil (nrm_then ?_)
      refine c_ret (ret_then ?_)
      show Fin _ _ _ _ _
      refine fin1 rfl ?_
      exact ⟨rfl, hs.below⟩
    · have hk0 : 0 < keys.length := by have h := of_decide_eq_false h1; omega
      replace h1 := of_decide_eq_false h1
      refine c_skip (nrm_then ?_)
      refine c_rseq ?_
      refine l_v (by first | exact (r_move (v := u8V _) rfl) | exact (r_move rfl)) ?_
      refine l_v (r_rem8 (b := 32) rfl rfl (by first | decide | omega)) ?_
      refine l_v (r_cv_8i Tryd.underlying5 Tryd.underlying3 rfl) ?_
      refine l_v (r_addi rfl rfl (by omega)) ?_
      rw [hpe]
      refine l_v (by first | exact (r_assign (v := iV _) rfl) | exact (r_assign rfl)) ?_
      refine l_nil (nrm_then ?_)
      refine c_rseq ?_
      refine l_v (by first | exact (r_move (v := iV _) rfl) | exact (r_move rfl)) ?_
      refine l_v (by first | exact (r_move (v := .slice _ _ _) rfl) | exact (r_move rfl)) ?_
      refine l_call (r_call Tryd.func10 rfl rfl) ?_
      refine Calls.mono (make_ok p hp A c keys hn hz w _ _ h0 hs (fun w' h => hr.below h.below)) ?_
      rintro e w_ ⟨bf1, rfl, hs⟩
      refine ⟨_, rfl, ?_⟩
      refine l_v (r_move rfl) ?_
      refine l_v (r_extract rfl rfl) ?_
      refine l_v (r_extract rfl rfl) ?_
      refine l_v (r_assign (v := .pointer _) rfl) ?_
      refine l_v (by first | exact (r_assign (v := iV _) rfl) | exact (r_assign rfl)) ?_
      refine l_nil (nrm_then ?_)
      refine c_rseq ?_
      refine l_v (by first | exact (r_assign (v := .slice _ _ _) rfl) | exact (r_assign rfl)) ?_
      refine l_nil (nrm_then ?_)
      refine c_seq ?_
      refine c_rseq ?_
      refine l_v (by first | exact (r_move (v := .slice _ _ _) rfl) | exact (r_move rfl)) ?_
      refine l_v (r_len_l Tryd.underlying22 rfl) ?_
      refine l_v (r_subi rfl rfl (by omega)) ?_
      refine l_v (by first | exact (r_assign (v := iV _) rfl) | exact (r_assign rfl)) ?_
      refine l_nil (nrm_then ?_)
      refine c_block ?_
      have hs := hs.rowNil 9 1
      refine c_loopn [1, 4, 5, 6, 7] (fun m f' w' => ∃ (i : Nat) (v : Value), i = m ∧ i ≤ keys.length ∧ f' 9 = iV ((i : Int) - 1) ∧ f' 8 = v ∧ Eng.Sep w w' (rowB v (keys.drop i).reverse :: filH bf1 (hashN p) (makeB (hashN p) (8 * wordsN p keys.length) (keys.map toL)) :: [])) ?_ ?_
      · refine ⟨keys.length, keys.length, .slice none 0 0, rfl, Nat.le_refl _, rfl, rfl, ?_⟩
        rw [List.drop_length]; exact hs
      · rintro m g w_ ⟨i, v, hi, hik, h9, h8, hs⟩
        subst hi
        refine OkC.env ?_ (fixH (L := [(9, _), (8, _)]) ⟨h9, h8, trivial⟩)
        clear h9 h8
        refine c_seq ?_
        refine c_rseq ?_
        refine l_v (by first | exact (r_move (v := iV _) rfl) | exact (r_move rfl)) ?_
        refine l_v (r_geqi rfl rfl) ?_
        refine l_nil (nrm_then ?_)
        refine c_cond rfl (fun h2 => ?_) (fun h2 => ?_)
        · have hi0 : 0 < i := by have h := of_decide_eq_true h2; omega
          obtain ⟨s, hsi⟩ : ∃ s, keys[i - 1]? = some s := ⟨keys[i - 1], List.getElem?_eq_getElem (by omega)⟩
          have hrv := rev_next hsi
          rw [show i - 1 + 1 = i by omega] at hrv
          obtain ⟨ad, rfl, hcell⟩ := (hr.below hs.below).ad (by omega)
          have hX := hcell (i - 1) (sV s) (by rw [List.getElem?_map, hsi]; rfl)
          have hdl : (keys.drop i).reverse.length = keys.length - i := by rw [List.length_reverse, List.length_drop]
          replace h2 := of_decide_eq_true h2
          refine c_skip (nrm_then ?_)
          refine c_seq ?_
          refine c_block ?_
          refine c_region ?_
          refine l_v (by first | exact (r_move (v := .slice _ _ _) rfl) | exact (r_move rfl)) ?_
          refine l_v (by first | exact (r_move (v := .slice _ _ _) rfl) | exact (r_move rfl)) ?_
          refine l_v (by first | exact (r_move (v := iV _) rfl) | exact (r_move rfl)) ?_
          refine l_v (r_indexAddr_l1 (k := i - 1) Tryd.underlying22 I9 rfl (congrArg iV (by omega)) (by omega)) ?_
          refine l_v (r_load Tryd.underlying9 rfl hX) ?_
          refine l_lit1 [sV _] hs Tryd.underlying22 I9 rfl (by simp [Value.oneCell']) rfl (by decide) (by decide) ?_
          intro b55 w55 hs hB55 hlt55
          refine l_append_lit Tryd.underlying22 I9 rfl (by decide) rfl rfl hs rfl (by simp [Value.oneCell']) (by omega) (by omega) ?_
          intro v56 w56 hs
          have hs := rowB_app hs
          rw [hrv] at hs
          refine l_v (by first | exact (r_assign (v := .slice _ _ _) rfl) | exact (r_assign rfl)) ?_
          refine l_nil (nrm_block (nrm_then ?_))
          refine c_region ?_
          refine l_v (by first | exact (r_move (v := iV _) rfl) | exact (r_move rfl)) ?_
          refine l_v (r_subi rfl rfl (by omega)) ?_
          refine l_v (by first | exact (r_assign (v := iV _) rfl) | exact (r_assign rfl)) ?_
          refine l_nil (nrm_then ?_)
          refine And.intro (by refine ⟨?_, ?_, ?_, ?_, ?_, trivial⟩ <;> ((conv => lhs; whnf); (try conv => rhs; whnf))) ?_
          exact ⟨i - 1, by omega, i - 1, _, rfl, by omega, congrArg iV (by omega), rfl, hs⟩
        · obtain rfl : i = 0 := by have h := of_decide_eq_false h2; omega
          rw [List.drop_zero] at hs
          have hrl : keys.reverse.length = keys.length := List.length_reverse
          obtain ⟨A2, c2, rfl, hc2⟩ := hs.rowForm
          replace h2 := of_decide_eq_false h2
          refine c_exit (ex_then (ex_then (ex_hit (nrm_then ?_))))
          refine c_rseq ?_
          refine l_v (by first | exact (r_move (v := iV _) rfl) | exact (r_move rfl)) ?_
          refine l_v (by first | exact (r_move (v := .slice _ _ _) rfl) | exact (r_move rfl)) ?_
          refine l_call (r_call Tryd.func10 rfl rfl) ?_
          refine Calls.mono (make_ok p hp A2 c2 keys.reverse (by omega) (fun s h => hz s (List.mem_reverse.1 h)) w _ _ h0 hs (fun w' h => h.rd)) ?_
          rintro e w_ ⟨bf2, rfl, hs⟩
          refine ⟨_, rfl, ?_⟩
          have eB : makeB (hashN p) (8 * wordsN p keys.reverse.length) (keys.reverse.map toL) = makeB (hashN p) (8 * wordsN p keys.length) (keys.map toL) := by
            rw [hrl]
            exact make_same (by have := words_pos p keys.length; omega) fun x => by simp
          rw [eB] at hs
          have hdl : (keys.drop 1).length = keys.length - 1 := List.length_drop
          have hrd3 : ∀ W, Below w.heap.size w W → Rd W 1 (if c = 1 then A else A.map (·.add 1)) (keys.drop 1).length ((keys.drop 1).map sV) := fun W hb => by
            have h1 := rd_sub (hr.below hb) (l := 1) (h := keys.length) (by omega) (Nat.le_refl _) hcap
            rw [← List.map_drop, List.take_of_length_le (by rw [List.length_map]; omega), ← hdl] at h1
            exact h1
          refine l_v (r_move rfl) ?_
          refine l_v (r_extract rfl rfl) ?_
          refine l_v (r_extract rfl rfl) ?_
          refine l_v (r_assign (v := .pointer _) rfl) ?_
          refine l_v (by first | exact (r_assign (v := iV _) rfl) | exact (r_assign rfl)) ?_
          refine l_nil (nrm_then ?_)
          refine c_rseq ?_
          refine l_v (by first | exact (r_move (v := iV _) rfl) | exact (r_move rfl)) ?_
          refine l_v (by first | exact (r_move (v := .slice _ _ _) rfl) | exact (r_move rfl)) ?_
          refine l_v (r_slice_pl 1 Tryd.underlying22 I9 rfl rfl (by omega)) ?_
          rw [← hdl]
          refine l_call (r_call Tryd.func10 rfl rfl) ?_
          refine Calls.mono (make_ok p hp (if c = 1 then A else A.map (·.add 1)) (c - 1) (keys.drop 1) (by omega) (fun s h => hz s (List.mem_of_mem_drop h)) w _ _ h0 hs (fun w' h => hrd3 w' h.below)) ?_
          rintro e w_ ⟨bf3, rfl, hs⟩
          refine ⟨_, rfl, ?_⟩
          have hH := hash_pos p
          have hW := words_pos p keys.length
          have hW2 := words_le hp.2 hn
          have hW3 := words_pos p (keys.drop 1).length
          have hWu := words_up (per := p) (show (keys.drop 1).length ≤ keys.length by omega)
          have hBl := makeB_len (hashN p) (8 * wordsN p keys.length) (keys.map toL)
          have hDl := makeB_len (hashN p) (8 * wordsN p (keys.drop 1).length) ((keys.drop 1).map toL)
          have hone : wordsN p keys.length = wordsN p (keys.drop 1).length → onesB (makeB (hashN p) (8 * wordsN p (keys.drop 1).length) ((keys.drop 1).map toL)) ≤ onesB (makeB (hashN p) (8 * wordsN p keys.length) (keys.map toL)) := fun e => by
            rw [← e]
            have ek : keys.map toL = toL keys[0] :: (keys.drop 1).map toL := by
              conv => lhs; rw [← List.drop_zero (l := keys), List.drop_eq_getElem_cons hk0]
              rfl
            rw [ek]
            exact ones_more (by omega) _ _
          generalize makeB (hashN p) (8 * wordsN p keys.length) (keys.map toL) = B at *
          generalize makeB (hashN p) (8 * wordsN p (keys.drop 1).length) ((keys.drop 1).map toL) = D at *
          generalize hashN p = H at *
          generalize wordsN p keys.length = Z at *
          generalize wordsN p (keys.drop 1).length = Y at *
          have hs : Eng.Sep w w_ (filH bf3 H D :: filH bf2 H B :: rowB (.slice A2 keys.reverse.length c2) keys.reverse :: filH bf1 H B :: []) := hs
          obtain ⟨A1, c1, hf1⟩ := fil_at (hs.pull 3)
          obtain ⟨A2', c2', hf2⟩ := fil_at (hs.pull 1)
          obtain ⟨A3, c3, hf3⟩ := fil_at hs
          refine l_v (r_move rfl) ?_
          refine l_v (r_extract rfl rfl) ?_
          refine l_v (r_extract rfl rfl) ?_
          refine l_v (r_assign (v := .pointer _) rfl) ?_
          refine l_v (by first | exact (r_assign (v := iV _) rfl) | exact (r_assign rfl)) ?_
          refine l_nil (nrm_then ?_)
          refine c_seq ?_
          refine c_rseq ?_
          refine l_v (by first | exact (r_move (v := iV _) rfl) | exact (r_move rfl)) ?_
          refine l_v (r_neqi rfl rfl) ?_
          refine l_v (by first | exact (r_move (v := bV _) rfl) | exact (r_move rfl)) ?_
          refine l_vg (by first | exact (r_move (v := iV _) rfl) | exact (r_move rfl)) rfl (rfl) ?_
          refine l_vg (r_neqi rfl rfl) rfl (rfl) ?_
          refine l_v (r_pick_f rfl rfl rfl) ?_
          refine l_v (by first | exact (r_move (v := bV _) rfl) | exact (r_move rfl)) ?_
          refine l_vg (by first | exact (r_move (v := iV _) rfl) | exact (r_move rfl)) rfl (rfl) ?_
          refine l_vg (r_neqi rfl rfl) rfl (rfl) ?_
          refine l_v (r_pick_f rfl rfl rfl) ?_
          refine l_v (by first | exact (r_move (v := bV _) rfl) | exact (r_move rfl)) ?_
          refine l_vg (r_move (v := .pointer _) rfl) rfl (rfl) ?_
          refine l_callg (r_call Tryd.func13 rfl rfl) rfl (rfl) ?_
          refine Calls.mono (pack_c bf1 H c1 A1 B _ hH.2 (by omega) hf1) ?_
          rintro e w_ ⟨rfl, hb⟩
          refine ⟨_, rfl, ?_⟩
          have hs := hs.below_ hb
          have hf1 := hf1.below hb
          have hf2 := hf2.below hb
          have hf3 := hf3.below hb
          refine l_vg (r_move (v := .pointer _) rfl) rfl (rfl) ?_
          refine l_callg (r_call Tryd.func13 rfl rfl) rfl (rfl) ?_
          refine Calls.mono (pack_c bf2 H c2' A2' B _ hH.2 (by omega) hf2) ?_
          rintro e w_ ⟨rfl, hb⟩
          refine ⟨_, rfl, ?_⟩
          have hs := hs.below_ hb
          have hf1 := hf1.below hb
          have hf3 := hf3.below hb
          have f85 : decide (ofL (packF H B) ≠ ofL (packF H B)) = false := by simp
          refine l_vg (r_neqs rfl rfl) rfl (rfl) ?_
          refine l_v (r_pick_f rfl rfl rfl) ?_
          refine l_nil (nrm_then ?_)
          refine c_false rfl (f85) ?_
          refine c_skip (nrm_then ?_)
          refine c_rseq ?_
          refine l_v (r_move (v := .pointer _) rfl) ?_
          refine l_call (r_call Tryd.func14 rfl rfl) ?_
          refine Calls.mono (shape_c bf1 H c1 A1 B _ (by omega) hf1) ?_
          rintro e w_ ⟨rfl, hb⟩
          refine ⟨_, rfl, ?_⟩
          have hs := hs.below_ hb
          have hf3 := hf3.below hb
          refine l_v (r_move rfl) ?_
          refine l_v (r_extract rfl rfl) ?_
          refine l_v (r_extract rfl rfl) ?_
          refine l_v (r_extract rfl rfl) ?_
          refine l_v (by first | exact (r_assign (v := iV _) rfl) | exact (r_assign rfl)) ?_
          refine l_v (by first | exact (r_assign (v := iV _) rfl) | exact (r_assign rfl)) ?_
          refine l_v (by first | exact (r_assign (v := iV _) rfl) | exact (r_assign rfl)) ?_
          refine l_nil (nrm_then ?_)
          refine c_rseq ?_
          refine l_v (r_move (v := .pointer _) rfl) ?_
          refine l_call (r_call Tryd.func14 rfl rfl) ?_
          refine Calls.mono (shape_c bf3 H c3 A3 D _ (by omega) hf3) ?_
          rintro e w_ ⟨rfl, hb⟩
          refine ⟨_, rfl, ?_⟩
          have hs := hs.below_ hb
          have f101 : decide (((8 * B.length : Nat) : Int) ≥ ((8 * D.length : Nat) : Int)) = true := decide_eq_true (by omega)
          refine l_v (r_move rfl) ?_
          refine l_v (r_extract rfl rfl) ?_
          refine l_v (r_extract rfl rfl) ?_
          refine l_v (r_extract rfl rfl) ?_
          refine l_v (by first | exact (r_assign (v := iV _) rfl) | exact (r_assign rfl)) ?_
          refine l_v (by first | exact (r_assign (v := iV _) rfl) | exact (r_assign rfl)) ?_
          refine l_v (by first | exact (r_assign (v := iV _) rfl) | exact (r_assign rfl)) ?_
          refine l_nil (nrm_then ?_)
          refine c_rseq ?_
          refine l_v (by first | exact (r_move (v := iV _) rfl) | exact (r_move rfl)) ?_
          refine l_v (by first | exact (r_move (v := iV _) rfl) | exact (r_move rfl)) ?_
          refine l_v (r_geqi rfl rfl) ?_
          refine l_v (by first | exact (r_move (v := bV _) rfl) | exact (r_move rfl)) ?_
          by_cases hZ : Z = Y
          · have f105 : decide (((8 * B.length : Nat) : Int) ≠ ((8 * D.length : Nat) : Int)) = false := decide_eq_false (by omega)
            have hon := hone hZ
            refine l_vg (by first | exact (r_move (v := iV _) rfl) | exact (r_move rfl)) rfl (f101) ?_
            refine l_vg (by first | exact (r_move (v := iV _) rfl) | exact (r_move rfl)) rfl (f101) ?_
            refine l_vg (r_neqi rfl rfl) rfl (f101) ?_
            refine l_vg (by first | exact (r_move (v := bV _) rfl) | exact (r_move rfl)) rfl (f101) ?_
            refine l_vg (by first | exact (r_move (v := iV _) rfl) | exact (r_move rfl)) rfl (f105) ?_
            refine l_vg (by first | exact (r_move (v := iV _) rfl) | exact (r_move rfl)) rfl (f105) ?_
            refine l_vg (r_geqi rfl rfl) rfl (f105) ?_
            refine l_vg (r_pick_f rfl f105 rfl) rfl (f101) ?_
            refine l_v (r_pick_t rfl f101 rfl) ?_
            refine l_v (by first | exact (r_assign (v := bV _) rfl) | exact (r_assign rfl)) ?_
            refine l_nil (nrm_then ?_)
            refine c_ret ?_
            show Fin _ _ _ _ _
            refine fin1 rfl ?_
            exact ⟨congrArg Ending.returned (congrArg Value.bool (decide_eq_true (by omega))), hs.below⟩
          · have f105 : decide (((8 * B.length : Nat) : Int) ≠ ((8 * D.length : Nat) : Int)) = true := decide_eq_true (by omega)
            refine l_vg (by first | exact (r_move (v := iV _) rfl) | exact (r_move rfl)) rfl (f101) ?_
            refine l_vg (by first | exact (r_move (v := iV _) rfl) | exact (r_move rfl)) rfl (f101) ?_
            refine l_vg (r_neqi rfl rfl) rfl (f101) ?_
            refine l_vg (by first | exact (r_move (v := bV _) rfl) | exact (r_move rfl)) rfl (f101) ?_
            refine l_no rfl (f105) ?_
            refine l_no rfl (f105) ?_
            refine l_no rfl (f105) ?_
            refine l_vg (r_pick_t rfl f105 rfl) rfl (f101) ?_
            refine l_v (r_pick_t rfl f101 rfl) ?_
            refine l_v (by first | exact (r_assign (v := bV _) rfl) | exact (r_assign rfl)) ?_
            refine l_nil (nrm_then ?_)
            refine c_ret ?_
            show Fin _ _ _ _ _
            refine fin1 rfl ?_
            exact ⟨rfl, hs.below⟩
  · skip
    have fb : (!bf) = true := by rw [hbf]; rfl
    refine l_no rfl (fb) ?_
    refine l_no rfl (fb) ?_
    refine l_no rfl (fb) ?_
    refine l_v (r_pick_t rfl fb rfl) ?_
    refine l_nil (nrm_then ?_)
    refine c_true rfl (rfl) ?_
    refine c_rseq ?_
    refine l_call (r_call Tryd.func8 rfl rfl) ?_
    refine Calls.mono (awake_c _ (h0.sep hs)) ?_
    rintro e w_ ⟨rfl, hb⟩
    refine ⟨_, rfl, ?_⟩
    have hs := hs.below_ hb
    refine l_v (by first | exact (r_assign (v := bV _) rfl) | exact (r_assign rfl)) ?_
    refine l_nil (nrm_then ?_)
    refine c_ret (ret_then ?_)
    show Fin _ _ _ _ _
    refine fin1 rfl ?_
    exact ⟨rfl, hs.below⟩
end Go.Proofs.YtbimboibllboeaaDoor.Blm
