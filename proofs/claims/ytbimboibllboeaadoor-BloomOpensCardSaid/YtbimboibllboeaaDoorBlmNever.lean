/- The walk of BloomNever. -/
import Derived.Test.YtbimboibllboeaaDoorBlmLaws
import Derived.Test.YtbimboibllboeaaDoorBlmFacts
namespace Go.Proofs.YtbimboibllboeaaDoor.Blm
open Go Go.RowKit Go.Proofs.YtbimboibllboeaaDoor.Eng Go.Proofs.YtbimboibllboeaaDoor.Sha Go.Proofs.YtbimboibllboeaaDoor.Six
set_option linter.unusedVariables false
set_option maxRecDepth 100000
theorem per_of (x8 : UInt8) : ∃ p : Nat, (1 : Int) + ((x8 % 32).toNat : Int) = (p : Int) ∧ 1 ≤ p ∧ p ≤ 32 := by
  have h : ∀ n < 256, ((UInt8.ofNat n) % 32).toNat < 32 := by decide +kernel
  have := h x8.toNat x8.toNat_lt
  rw [UInt8.ofNat_toNat] at this
  exact ⟨1 + (x8 % 32).toNat, by omega, by omega, by omega⟩
theorem hash_pos (p : Nat) : 1 ≤ hashN p ∧ hashN p ≤ 8 := by unfold hashN; omega
theorem words_pos (p n : Nat) : 1 ≤ wordsN p n := by unfold wordsN; omega
theorem words_le {p n : Nat} (hp : p ≤ 32) (hn : n ≤ 2000) : wordsN p n ≤ 65536 := by
  have := Nat.mul_le_mul hn hp
  unfold wordsN; omega
/-- Make, where the number of bits may be. -/
theorem make_ok (p : Nat) (hp : 1 ≤ p ∧ p ≤ 32) (A : Option Addr) (c : Nat) (keys : List ByteArray) (hn : keys.length ≤ 2000) (hz : ∀ s ∈ keys, s.size ≤ 100000) (w0 w : World) (R : List HP) (h0 : Ok0 w0) (hs : Eng.Sep w0 w R) (hr0 : ∀ w', Eng.Sep w0 w' R → Rd w' 1 A keys.length (keys.map sV)) :
    Calls Tryd.prog 10 #[iV (p : Int), .slice A keys.length c] w fun e w' => ∃ bf, e = .returned (.tuple #[.pointer (some ⟨bf, 0, none⟩), iV 0]) ∧ Eng.Sep w0 w' (filH bf (hashN p) (makeB (hashN p) (8 * wordsN p keys.length) (keys.map toL)) :: R) := by
  have hE : makeE (p : Int) keys.length = 0 := by unfold makeE; rw [if_neg (by omega), if_neg (by omega)]
  have hw := words_le hp.2 hn
  refine (make_c (p : Int) A c keys (fun s h => Nat.le_trans (hz s h) (by decide)) w0 w R h0 (by omega) hs hr0).mono ?_
  rintro e w' ⟨q, rfl, hq, h⟩
  rw [hE] at hq ⊢
  cases q with
  | none => exact absurd (hq.1 rfl) (fun h => h rfl)
  | some bf =>
    obtain ⟨bb, h⟩ := h
    rw [Int.toNat_natCast] at h
    exact ⟨bf, rfl, fil_made (makeB_len _ _ _) (by omega) h⟩
theorem openp_c (h : Nat) (b : List UInt8) (h1 : 1 ≤ h) (h2 : h ≤ 8) (hb : b.length ≤ 1099511627) (hb8 : b.length % 8 = 0) (hb0 : b.length ≠ 0) (w0 w : World) (R : List HP) (hs : Eng.Sep w0 w R) :
    Calls Tryd.prog 16 #[sV (ofL (packF h b))] w fun e w' => ∃ bf, e = .returned (.tuple #[.pointer (some ⟨bf, 0, none⟩), iV 0]) ∧ Eng.Sep w0 w' (filH bf h b :: R) := by
  obtain ⟨o1, o2, o3⟩ := open_pack h1 h2 (by omega) hb8 hb0
  have hpz : (ofL (packF h b)).size = (packF h b).length := rfl
  have hel := enc_len 64 h (by omega)
  have hel2 := enc_len 64 b.length (by omega)
  have hpl : (packF h b).length ≤ 1099511627776 := by unfold packF encT; rw [List.length_append, List.length_append]; omega
  refine (open_c (ofL (packF h b)) (by omega) w0 w R hs).mono ?_
  rintro e w' ⟨q, rfl, hq, h⟩
  rw [Eng.toL_ofL, o1] at hq
  rw [Eng.toL_ofL, o1]
  cases q with
  | none => exact absurd (hq.1 rfl) (fun h => h rfl)
  | some bf =>
    rw [Eng.toL_ofL, o2, o3] at h
    exact ⟨bf, rfl, h⟩
set_option maxHeartbeats 8000000 in
theorem never_walk {w : World} (x8 : UInt8) (A : Option Addr) (c : Nat) (keys : List ByteArray) (hr : Rd w 1 A keys.length (keys.map sV)) (hcap : keys.length ≤ c) (hsz : ∀ s ∈ keys, s.size ≤ 9223372036854775807) (h0 : Ok0 w) :
    Calls Tryd.prog 6 #[u8V x8, .slice A keys.length c] w fun e w' => e = .returned (bV true) ∧ Below w.heap.size w w' := by
  obtain ⟨p, hpe, hp⟩ := per_of x8
  refine enter (P := Tryd.prog) Tryd.func6 rfl rfl ?_
  have hs := Eng.Sep.init w
  refine c_rseq ?_
  refine l_v (by first | exact (r_assign (v := bV _) rfl) | exact (r_assign rfl)) ?_
  refine l_nil (nrm_then ?_)
  refine c_seq ?_
  refine c_rseq ?_
  refine l_call (r_call Tryd.func8 rfl rfl) ?_
  refine Calls.mono (awake_c _ h0) ?_
  rintro e w_ ⟨rfl, hb⟩
  refine ⟨_, rfl, ?_⟩
  have hs := hs.below_ hb
  refine l_v (r_not rfl) ?_
  refine l_v (by first | exact (r_move (v := bV _) rfl) | exact (r_move rfl)) ?_
  refine l_vg (by first | exact (r_move (v := .slice _ _ _) rfl) | exact (r_move rfl)) rfl (rfl) ?_
  refine l_callg (r_call Tryd.func9 rfl rfl) rfl (rfl) ?_
  refine Calls.mono (few_c A c keys _ (hr.below hs.below)) ?_
  rintro e w_ ⟨bf, rfl, hfew, hb⟩
  refine ⟨_, rfl, ?_⟩
  have hs := hs.below_ hb
  refine l_vg (r_not rfl) rfl (rfl) ?_
  refine l_v (r_pick_f rfl rfl rfl) ?_
  refine l_nil (nrm_then ?_)
  rcases Bool.eq_false_or_eq_true bf with hbf | hbf
  · obtain ⟨hn, hz⟩ := hfew hbf
    refine c_false rfl ((by rw [hbf]; rfl)) ?_
    refine c_skip (nrm_then ?_)
    refine c_rseq ?_
    refine l_v (by first | exact (r_move (v := u8V _) rfl) | exact (r_move rfl)) ?_
    refine l_v (r_rem8 (b := 32) rfl rfl (by first | decide | omega)) ?_
    refine l_v (r_cv_8i Tryd.underlying5 Tryd.underlying3 rfl) ?_
    refine l_v (r_addi rfl rfl (by omega)) ?_
    rw [hpe]
    refine l_v (by first | exact (r_move (v := .slice _ _ _) rfl) | exact (r_move rfl)) ?_
    refine l_call (r_call Tryd.func10 rfl rfl) ?_
    refine Calls.mono (make_ok p hp A c keys hn hz w _ _ h0 hs (fun w' h => hr.below h.below)) ?_
    rintro e w_ ⟨bf, rfl, hs⟩
    refine ⟨_, rfl, ?_⟩
    have hH := hash_pos p
    have hW := words_pos p keys.length
    have hW2 := words_le hp.2 hn
    have hBl := makeB_len (hashN p) (8 * wordsN p keys.length) (keys.map toL)
    have hnv : ∀ s ∈ keys, hasB (hashN p) (makeB (hashN p) (8 * wordsN p keys.length) (keys.map toL)) (toL s) = true := fun s hs => never (by omega) (List.mem_map_of_mem hs)
    have hon := ones_makeB (h := hashN p) (z := 8 * wordsN p keys.length) (by omega) (keys.map toL)
    rw [List.length_map] at hon
    have hon2 := ones_le (makeB (hashN p) (8 * wordsN p keys.length) (keys.map toL))
    generalize makeB (hashN p) (8 * wordsN p keys.length) (keys.map toL) = B at *
    generalize hashN p = H at *
    generalize wordsN p keys.length = Z at *
    refine l_v (r_move rfl) ?_
    refine l_v (r_extract rfl rfl) ?_
    refine l_v (r_extract rfl rfl) ?_
    refine l_v (r_assign (v := .pointer _) rfl) ?_
    refine l_v (by first | exact (r_assign (v := iV _) rfl) | exact (r_assign rfl)) ?_
    refine l_nil (nrm_then ?_)
    refine c_seq ?_
    refine c_rseq ?_
    refine l_v (by first | exact (r_move (v := iV _) rfl) | exact (r_move rfl)) ?_
    refine l_v (r_neqi rfl rfl) ?_
    refine l_nil (nrm_then ?_)
    refine c_false rfl (rfl) ?_
    refine c_skip (nrm_then ?_)
    refine c_rseq ?_
    refine l_v (r_move (v := .pointer _) rfl) ?_
    obtain ⟨A1, c1, hf1⟩ := fil_at hs
    refine l_call (r_call Tryd.func13 rfl rfl) ?_
    refine Calls.mono (pack_c bf H c1 A1 B _ hH.2 (by omega) hf1) ?_
    rintro e w_ ⟨rfl, hb⟩
    refine ⟨_, rfl, ?_⟩
    have hs := hs.below_ hb
    refine l_call (r_call Tryd.func16 rfl rfl) ?_
    refine Calls.mono (openp_c H B hH.1 hH.2 (by omega) (by omega) (by omega) w _ _ hs) ?_
    rintro e w_ ⟨bg, rfl, hs⟩
    refine ⟨_, rfl, ?_⟩
    obtain ⟨A1, c1, hf1⟩ := fil_at (hs.pull 1)
    obtain ⟨A2, c2, hf2⟩ := fil_at hs
    refine l_v (r_move rfl) ?_
    refine l_v (r_extract rfl rfl) ?_
    refine l_v (r_extract rfl rfl) ?_
    refine l_v (r_assign (v := .pointer _) rfl) ?_
    refine l_v (by first | exact (r_assign (v := iV _) rfl) | exact (r_assign rfl)) ?_
    refine l_nil (nrm_then ?_)
    refine c_seq ?_
    refine c_rseq ?_
    refine l_v (by first | exact (r_move (v := iV _) rfl) | exact (r_move rfl)) ?_
    refine l_v (r_neqi rfl rfl) ?_
    refine l_v (by first | exact (r_move (v := bV _) rfl) | exact (r_move rfl)) ?_
    refine l_vg (r_move (v := .pointer _) rfl) rfl (rfl) ?_
    refine l_callg (r_call Tryd.func13 rfl rfl) rfl (rfl) ?_
    refine Calls.mono (pack_c bg H c2 A2 B _ hH.2 (by omega) hf2) ?_
    rintro e w_ ⟨rfl, hb⟩
    refine ⟨_, rfl, ?_⟩
    have hs := hs.below_ hb
    have hf1 := hf1.below hb
    refine l_vg (r_move (v := .pointer _) rfl) rfl (rfl) ?_
    refine l_callg (r_call Tryd.func13 rfl rfl) rfl (rfl) ?_
    refine Calls.mono (pack_c bf H c1 A1 B _ hH.2 (by omega) hf1) ?_
    rintro e w_ ⟨rfl, hb⟩
    refine ⟨_, rfl, ?_⟩
    have hs := hs.below_ hb
    have f44 : decide (ofL (packF H B) ≠ ofL (packF H B)) = false := by simp
    refine l_vg (r_neqs rfl rfl) rfl (rfl) ?_
    refine l_v (r_pick_f rfl rfl rfl) ?_
    refine l_nil (nrm_then ?_)
    refine c_false rfl (f44) ?_
    refine c_skip (nrm_then ?_)
    refine c_seq ?_
    refine c_rseq ?_
    refine l_v (by first | exact (r_assign (v := iV _) rfl) | exact (r_assign rfl)) ?_
    refine l_nil (nrm_then ?_)
    refine c_block ?_
    refine c_loopn [1, 5, 7] (fun m f' w' => ∃ i : Nat, i + m = keys.length ∧ f' 8 = iV (i : Int) ∧ Eng.Sep w w' (filH bg H B :: filH bf H B :: [])) ?_ ?_
    · exact ⟨keys.length, 0, by omega, rfl, hs⟩
    · rintro m g w_ ⟨i, hi, h8, hs⟩
      refine OkC.env ?_ (fixH (L := [(8, _)]) ⟨h8, trivial⟩)
      clear h8
      refine c_seq ?_
      refine c_rseq ?_
      refine l_v (by first | exact (r_move (v := iV _) rfl) | exact (r_move rfl)) ?_
      refine l_v (by first | exact (r_move (v := .slice _ _ _) rfl) | exact (r_move rfl)) ?_
      refine l_v (r_len_l Tryd.underlying22 rfl) ?_
      refine l_v (r_lssi rfl rfl) ?_
      refine l_nil (nrm_then ?_)
      refine c_cond rfl (fun h1 => ?_) (fun h1 => ?_)
      · have hil : i < keys.length := by have := of_decide_eq_true h1; omega
        obtain ⟨s, hsi⟩ : ∃ s, keys[i]? = some s := ⟨keys[i], List.getElem?_eq_getElem hil⟩
        have hsm := List.mem_of_getElem? hsi
        have hX : ∀ W, Below w.heap.size w W → ∃ ad, A = some ad ∧ W.cell? (ad.add i) = some (sV s) := fun W hb => by
          obtain ⟨ad, e, hc⟩ := (hr.below hb).ad (by omega)
          exact ⟨ad, e, hc i (sV s) (by rw [List.getElem?_map, hsi]; rfl)⟩
        obtain ⟨ad, rfl, hX1⟩ := hX _ hs.below
        obtain ⟨A1, c1, hf1⟩ := fil_at (hs.pull 1)
        obtain ⟨A2, c2, hf2⟩ := fil_at hs
        replace h1 := of_decide_eq_true h1
        refine c_skip (nrm_then ?_)
        refine c_seq ?_
        refine c_block ?_
        refine c_rseq ?_
        refine l_v (r_move (v := .pointer _) rfl) ?_
        refine l_v (by first | exact (r_move (v := .slice _ _ _) rfl) | exact (r_move rfl)) ?_
        refine l_v (by first | exact (r_move (v := iV _) rfl) | exact (r_move rfl)) ?_
        refine l_v (r_indexAddr_l1 (k := i) Tryd.underlying22 I9 rfl rfl hil) ?_
        refine l_v (r_load Tryd.underlying9 rfl hX1) ?_
        refine l_call (r_call Tryd.func15 rfl rfl) ?_
        refine Calls.mono (has_c bf H c1 A1 B s (hsz s hsm) _ (h0.sep hs) (by omega) (by omega) hH.2 hf1.h0 hf1.h1 hf1.rd) ?_
        rintro e w_ ⟨rfl, hb⟩
        refine ⟨_, rfl, ?_⟩
        have hs := hs.below_ hb
        have hf2 := hf2.below hb
        rw [hnv s hsm]
        obtain ⟨ad', he, hX2⟩ := hX _ hs.below
        injection he with he
        subst he
        refine l_v (r_not rfl) ?_
        refine l_v (by first | exact (r_move (v := bV _) rfl) | exact (r_move rfl)) ?_
        refine l_vg (r_move (v := .pointer _) rfl) rfl (rfl) ?_
        refine l_vg (by first | exact (r_move (v := .slice _ _ _) rfl) | exact (r_move rfl)) rfl (rfl) ?_
        refine l_vg (by first | exact (r_move (v := iV _) rfl) | exact (r_move rfl)) rfl (rfl) ?_
        refine l_vg (r_indexAddr_l1 (k := i) Tryd.underlying22 I9 rfl rfl hil) rfl (rfl) ?_
        refine l_vg (r_load Tryd.underlying9 rfl hX2) rfl (rfl) ?_
        refine l_callg (r_call Tryd.func15 rfl rfl) rfl (rfl) ?_
        refine Calls.mono (has_c bg H c2 A2 B s (hsz s hsm) _ (h0.sep hs) (by omega) (by omega) hH.2 hf2.h0 hf2.h1 hf2.rd) ?_
        rintro e w_ ⟨rfl, hb⟩
        refine ⟨_, rfl, ?_⟩
        have hs := hs.below_ hb
        rw [hnv s hsm]
        refine l_vg (r_not rfl) rfl (rfl) ?_
        refine l_v (r_pick_f rfl rfl rfl) ?_
        refine l_nil (nrm_then ?_)
        refine c_false rfl (rfl) ?_
        refine c_skip (nrm_block (nrm_then ?_))
        refine c_region ?_
        refine l_v (by first | exact (r_move (v := iV _) rfl) | exact (r_move rfl)) ?_
        refine l_v (r_addi rfl rfl (by omega)) ?_
        refine l_v (by first | exact (r_assign (v := iV _) rfl) | exact (r_assign rfl)) ?_
        refine l_nil (nrm_then ?_)
        refine And.intro (by refine ⟨?_, ?_, ?_, trivial⟩ <;> ((conv => lhs; whnf); (try conv => rhs; whnf))) ?_
        exact ⟨keys.length - (i + 1), by omega, i + 1, by omega, rfl, hs⟩
      · obtain rfl : i = keys.length := by have := of_decide_eq_false h1; omega
        obtain ⟨A1, c1, hf1⟩ := fil_at (hs.pull 1)
        replace h1 := of_decide_eq_false h1
        refine c_exit (ex_then (ex_then (ex_hit (nrm_then ?_))))
        refine c_rseq ?_
        refine l_v (r_move (v := .pointer _) rfl) ?_
        refine l_call (r_call Tryd.func14 rfl rfl) ?_
        refine Calls.mono (shape_c bf H c1 A1 B _ (by omega) hf1) ?_
        rintro e w_ ⟨rfl, hb⟩
        refine ⟨_, rfl, ?_⟩
        have hs := hs.below_ hb
        have hHn : H * keys.length ≤ 8 * 2000 := Nat.mul_le_mul hH.2 hn
        have ehn : (H : Int) * ((keys.length : Nat) : Int) = ((H * keys.length : Nat) : Int) := by rw [Int.natCast_mul]
        have f79 : decide (((onesB B : Nat) : Int) ≤ (H : Int) * ((keys.length : Nat) : Int)) = true := decide_eq_true (by rw [ehn]; omega)
        refine l_v (r_move rfl) ?_
        refine l_v (r_extract rfl rfl) ?_
        refine l_v (r_extract rfl rfl) ?_
        refine l_v (r_extract rfl rfl) ?_
        refine l_v (by first | exact (r_assign (v := iV _) rfl) | exact (r_assign rfl)) ?_
        refine l_v (by first | exact (r_assign (v := iV _) rfl) | exact (r_assign rfl)) ?_
        refine l_v (by first | exact (r_assign (v := iV _) rfl) | exact (r_assign rfl)) ?_
        refine l_nil (nrm_then ?_)
        refine c_rseq ?_
        refine l_v (by first | exact (r_move (v := iV _) rfl) | exact (r_move rfl)) ?_
        refine l_v (by first | exact (r_move (v := iV _) rfl) | exact (r_move rfl)) ?_
        refine l_v (by first | exact (r_move (v := .slice _ _ _) rfl) | exact (r_move rfl)) ?_
        refine l_v (r_len_l Tryd.underlying22 rfl) ?_
        refine l_v (r_muli rfl rfl (by rw [ehn]; omega)) ?_
        refine l_v (r_leqi rfl rfl) ?_
        refine l_v (by first | exact (r_move (v := bV _) rfl) | exact (r_move rfl)) ?_
        refine l_vg (by first | exact (r_move (v := iV _) rfl) | exact (r_move rfl)) rfl (f79) ?_
        refine l_vg (by first | exact (r_move (v := iV _) rfl) | exact (r_move rfl)) rfl (f79) ?_
        refine l_vg (r_leqi rfl rfl) rfl (f79) ?_
        refine l_v (r_pick_t rfl f79 rfl) ?_
        refine l_v (by first | exact (r_assign (v := bV _) rfl) | exact (r_assign rfl)) ?_
        refine l_nil (nrm_then ?_)
        refine c_ret ?_
        show Fin _ _ _ _ _
        refine fin1 rfl ?_
        exact ⟨congrArg Ending.returned (congrArg Value.bool (decide_eq_true (by omega))), hs.below⟩
  · skip
    refine c_true rfl ((by rw [hbf]; rfl)) ?_
    refine c_rseq ?_
    refine l_call (r_call Tryd.func8 rfl rfl) ?_
    refine Calls.mono (awake_c _ (h0.sep hs)) ?_
    rintro e w_ ⟨rfl, hb⟩
    refine ⟨_, rfl, ?_⟩
    have hs := hs.below_ hb
    refine l_v (by first | exact (r_assign (v := bV _) rfl) | exact (r_assign rfl)) ?_
    refine l_nil (nrm_then ?_)
    refine c_ret (ret_then ?_)
    show Fin _ _ _ _ _
    refine fin1 rfl ?_
    exact ⟨rfl, hs.below⟩
end Go.Proofs.YtbimboibllboeaaDoor.Blm
