/- The walk of places: the iterator over a key's places. -/
import Derived.Test.YtbimboibllboeaaDoorBlmFn
import Derived.Test.YtbimboibllboeaaDoorRangeF
namespace Go.Proofs.YtbimboibllboeaaDoor.Blm
open Go Go.RowKit Go.Proofs.YtbimboibllboeaaDoor.Eng Go.Proofs.YtbimboibllboeaaDoor.Sha
set_option linter.unusedVariables false
set_option maxRecDepth 100000
abbrev plV (key : List UInt8) (z h : Nat) : List Value := (places key z h).map fun n : Nat => iV (n : Int)
theorem plV_get (key : List UInt8) (z : Nat) {h i : Nat} (hi : i < h) : (plV key z h)[i]? = some (iV (place key z i : Int)) := by
  unfold plV; rw [List.getElem?_map, place_get key z hi]; rfl
theorem plV_len (key : List UInt8) (z h : Nat) : (plV key z h).length = h := by unfold plV; rw [List.length_map, place_len]
theorem place_u {key : List UInt8} {z i : Nat} (hz : 0 < z) (hz2 : z ≤ 1099511627776) (hi : i < 8) : (BitVec.ofNat 64 (wordAt (digest key) ((i : Int) % 8).toNat).toNat % BitVec.ofInt 64 (8 * (z : Int))).toNat = place key z i := by
  have e1 : ((i : Int) % 8).toNat = i := by omega
  rw [e1]
  unfold place
  have h1 := (wordAt (digest key) i).isLt
  generalize wordAt (digest key) i = x at *
  rw [BitVec.toNat_umod, BitVec.toNat_ofNat, BitVec.toNat_ofInt]
  have h2 : ((8 * (z : Int)) % ((2 ^ 64 : Nat) : Int)).toNat = 8 * z := by omega
  rw [h2, Nat.mod_eq_of_lt (show x.toNat < 2 ^ 64 by omega)]
theorem pos64 {z : Nat} (hz : 0 < z) (hz2 : z ≤ 1099511627776) : 0 < (BitVec.ofInt 64 (8 * (z : Int))).toNat := by
  rw [BitVec.toNat_ofInt]
  have h2 : ((8 * (z : Int)) % ((2 ^ 64 : Nat) : Int)).toNat = 8 * z := by omega
  omega
set_option maxHeartbeats 8000000 in
theorem iter_c (key : ByteArray) (hk : key.size ≤ 9223372036854775807) (h z : Nat) (bf b2 b3 : Nat) (A : Option Addr) (c : Nat) (T : Nat → List HP) (Tx : List HP) (w0 W : World) (l : Nat) (h0 : Ok0 w0) (hz : 0 < z) (hz2 : z ≤ 1099511627776) (hh : h ≤ 8)
    (hcells : ∀ k W, k ≤ h → Eng.Sep w0 W (T k) → W.cell? ⟨b3, 0, none⟩ = some (sV key) ∧ W.cell? ⟨b2, 0, none⟩ = some (.pointer (some ⟨bf, 0, none⟩)) ∧ W.cell? ⟨bf, 0, none⟩ = some (iV (h : Int)) ∧ W.cell? ⟨bf, 1, none⟩ = some (.slice A z c))
    (hs : Eng.Sep w0 W (T 0)) : Iter Tryd.prog 33 #[.pointer (some ⟨b3, 0, none⟩), .pointer (some ⟨b2, 0, none⟩)] (plV (toL key) z h) w0 W l T Tx := by
  intro hY
  have hc0 := hcells 0 W (by omega) hs
  show Calls Tryd.prog 33 #[.func (.yield l) #[] #[], .pointer (some ⟨b3, 0, none⟩), .pointer (some ⟨b2, 0, none⟩)] W _
  refine enterI (P := Tryd.prog) Tryd.func33 rfl rfl ?_
  refine ci_rseq ?_
  refine l_v (r_load Tryd.underlying9 rfl hc0.1) ?_
  refine l_lit1 [sV _] hs Tryd.underlying22 I9 rfl (by simp [Value.oneCell']) rfl (by decide) (by decide) ?_
  intro b7 w7 hs hB7 hlt7
  refine l_call (r_call Tryd.func34 rfl rfl) ?_
  refine Calls.mono (sum_c [key] _ 1 _ (h0.sep hs) (rd_blk (hs.at_ 0).1 rfl (show (1 : Nat) ≤ 9223372036854775807 by decide)) (fun s hs => by rw [List.mem_singleton.1 hs]; exact hk)) ?_
  rintro e w_ ⟨rfl, hb⟩
  refine ⟨_, rfl, ?_⟩
  have hs := hs.below_ hb
  have efl : [key].flatMap toL = toL key := by simp
  rw [efl]
  have hdl := digest_length (toL key)
  have hone : ∀ v ∈ (digest (toL key)).map u8V, v.oneCell' = true := one_map (fun _ => rfl) _
  refine l_alloc hs I68 ?_
  intro b4 w4 hs hB4 hlt4
  first | refine l_store_whole (i := 0) hs rfl I68 rfl rfl (by first | assumption | (simp; done)) (by first | assumption | (simp; done)) (by first | assumption | simp [Value.oneCell']) ?_ | refine l_store_whole (i := 1) hs rfl I68 rfl rfl (by first | assumption | (simp; done)) (by first | assumption | (simp; done)) (by first | assumption | simp [Value.oneCell']) ?_ | refine l_store_whole (i := 2) hs rfl I68 rfl rfl (by first | assumption | (simp; done)) (by first | assumption | (simp; done)) (by first | assumption | simp [Value.oneCell']) ?_ | refine l_store_whole (i := 3) hs rfl I68 rfl rfl (by first | assumption | (simp; done)) (by first | assumption | (simp; done)) (by first | assumption | simp [Value.oneCell']) ?_ | refine l_store_whole (i := 4) hs rfl I68 rfl rfl (by first | assumption | (simp; done)) (by first | assumption | (simp; done)) (by first | assumption | simp [Value.oneCell']) ?_ | refine l_store_whole (i := 5) hs rfl I68 rfl rfl (by first | assumption | (simp; done)) (by first | assumption | (simp; done)) (by first | assumption | simp [Value.oneCell']) ?_ | refine l_store_whole (i := 6) hs rfl I68 rfl rfl (by first | assumption | (simp; done)) (by first | assumption | (simp; done)) (by first | assumption | simp [Value.oneCell']) ?_
  intro w_ hs
  refine l_nil (nrm_n ?_)
  refine ci_rseq ?_
  have hs : Eng.Sep w0 w_ (blk b4 ((digest (toL key)).map u8V) 68 :: blk b7 [sV key] 9 :: T 0) := hs
  have hc1 := hcells 0 _ (by omega) hs.drop.drop
  refine l_v (r_load Tryd.underlying25 rfl hc1.2.1) ?_
  refine l_v (by first | exact (r_nilCheck_p rfl) | exact (r_nilCheck_f rfl)) ?_
  refine l_v (by first | exact (r_fieldAddr0 (off := 0) (T := 3) (by kernel_rfl) rfl) | exact (r_fieldAddr (off := 0) (T := 3) (by kernel_rfl) rfl)) ?_
  refine l_v (r_load Tryd.underlying3 rfl hc1.2.2.1) ?_
  refine l_v (by first | exact (r_move (v := iV _) rfl) | exact (r_move rfl)) ?_
  refine l_nil (nrm_n ?_)
  refine ci_block ?_
  refine ci_loopn [0, 2, 4, 12] (fun m ds f' w' => ∃ i : Nat, i + m = h ∧ ds = [] ∧ f' 13 = iV (i : Int) ∧ Eng.Sep w0 w' (blk b4 ((digest (toL key)).map u8V) 68 :: blk b7 [sV key] 9 :: T i)) ?_ ?_
  · exact ⟨h, 0, by omega, rfl, rfl, hs⟩
  · rintro m ds g w_ ⟨i, hi, hds, h13, hs⟩
    subst hds
    refine OkI.env ?_ (fixH (L := [(13, _)]) ⟨h13, trivial⟩)
    clear h13
    refine ci_rseq ?_
    refine l_v (r_lssi rfl rfl) ?_
    refine l_nil (nrm_n ?_)
    refine ci_seq ?_
    refine ci_cond rfl (fun h1 => ?_) (fun h1 => ?_)
    · replace h1 := of_decide_eq_true h1
      refine ci_skip (nrm_thenI ?_)
      refine ci_seq ?_
      refine ci_block ?_
      refine ci_rseq ?_
      refine l_v (by first | exact (r_move (v := iV _) rfl) | exact (r_move rfl)) ?_
      refine l_v (by first | exact (r_assign (v := iV _) rfl) | exact (r_assign rfl)) ?_
      refine l_nil (nrm_n ?_)
      refine ci_seq ?_
      have hil : i < h := by omega
      have hc2 := fun w (hs : Eng.Sep w0 w (blk b4 ((digest (toL key)).map u8V) 68 :: blk b7 [sV key] 9 :: T i)) => hcells i w (by omega) hs.drop.drop
      have hpl := place_u (key := toL key) hz hz2 (show i < 8 by omega)
      have hplt := place_lt (toL key) hz i
      have hq64 := pos64 hz hz2
      have hs := hs.drew
      refine ci_floatG (fun w' => Eng.Sep w0 w' (blk b4 ((digest (toL key)).map u8V) 68 :: blk b7 [sV key] 9 :: T i)) [3] 14 (by kernel_rfl) (by kernel_rfl) (by kernel_rfl) (hs) ?_
      show OkG _ _ _ _ _ _ (_ :: _) 0 _ _
      refine g_v (fun wl hbl => by have hs := hbl; first | exact (r_move (v := .func _ _ _) rfl) | exact (r_move (v := .nilFunc) rfl) | exact (r_move rfl)) ?_
      refine g_v (fun wl hbl => by have hs := hbl; exact (r_load_whole (i := 0) hs rfl Tryd.underlying68 I68 rfl (by rw [List.length_map]; exact hdl))) ?_
      refine g_v (fun wl hbl => by have hs := hbl; first | exact (r_move (v := iV _) rfl) | exact (r_move rfl)) ?_
      refine g_call (r_call Tryd.func35 rfl rfl) ?_
      refine Calls.mono (word_c (digest (toL key)) hdl (i : Int) (by omega) _) ?_
      rintro e w_ ⟨rfl, hb⟩
      refine ⟨_, rfl, hs.below_ hb, ?_⟩
      have hs := hs.below_ hb
      refine g_v (fun wl hbl => by have hs := hbl; exact (r_cv_3264 Tryd.underlying71 Tryd.underlying70 rfl)) ?_
      refine g_v (fun wl hbl => by have hs := hbl; exact (r_load Tryd.underlying25 rfl (hc2 _ hs).2.1)) ?_
      refine g_v (fun wl hbl => by have hs := hbl; first | exact (r_nilCheck_p rfl) | exact (r_nilCheck_f rfl)) ?_
      refine g_v (fun wl hbl => by have hs := hbl; first | exact (r_fieldAddr0 (off := 1) (T := 44) (by kernel_rfl) rfl) | exact (r_fieldAddr (off := 1) (T := 44) (by kernel_rfl) rfl)) ?_
      refine g_v (fun wl hbl => by have hs := hbl; exact (r_load Tryd.underlying44 rfl (hc2 _ hs).2.2.2)) ?_
      refine g_v (fun wl hbl => by have hs := hbl; exact (r_len_l Tryd.underlying44 rfl)) ?_
      refine g_v (fun wl hbl => by have hs := hbl; exact (r_muli rfl rfl (by omega))) ?_
      refine g_v (fun wl hbl => by have hs := hbl; exact (r_cv_i64 Tryd.underlying3 Tryd.underlying70 rfl)) ?_
      refine g_v (fun wl hbl => by have hs := hbl; exact (r_rem64 rfl rfl hq64)) ?_
      refine g_v (fun wl hbl => by have hs := hbl; exact (r_cv_64n hpl Tryd.underlying70 Tryd.underlying3 rfl (by omega))) ?_
      refine g_nil ?_
      show OkIL _ _ _ _ _ (_ :: _) _ _ _
      refine il_yield rfl rfl ((hY i _ (plV_get (toL key) z hil) _ [blk b4 ((digest (toL key)).map u8V) 68, blk b7 [sV key] 9] (hs.perm (List.perm_append_comm (l₁ := [_, _])))).mono ?_)
      rintro e w3 hh3
      obtain ⟨bb, rfl, hh4⟩ : ∃ bb, e = .returned (bV bb) ∧ ((bb = true ∧ Eng.Sep w0 w3 (T (i + 1) ++ [blk b4 ((digest (toL key)).map u8V) 68, blk b7 [sV key] 9])) ∨ (bb = false ∧ Eng.Sep w0 w3 (Tx ++ [blk b4 ((digest (toL key)).map u8V) 68, blk b7 [sV key] 9]))) := by
        rcases hh3 with ⟨h1, h2⟩ | ⟨h1, h2⟩
        · exact ⟨true, h1, .inl ⟨rfl, h2⟩⟩
        · exact ⟨false, h1, .inr ⟨rfl, h2⟩⟩
      refine ⟨_, rfl, ?_⟩
      refine il_v (r_not rfl) ?_ (fun c h => by cases h)
      refine il_nil (nrm_thenI ?_)
      rcases hh4 with ⟨hbb, hs⟩ | ⟨hbb, hs⟩
      · have hs := hs.perm (List.perm_append_comm (l₂ := [_, _]))
        refine ci_false rfl ((by rw [hbb]; rfl)) ?_
        refine ci_skip (nrm_blockI (nrm_thenI ?_))
        refine ci_region ?_
        refine l_v (r_addi rfl rfl (by omega)) ?_
        refine l_v (by first | exact (r_move (v := iV _) rfl) | exact (r_move rfl)) ?_
        refine l_nil (nrm_n (nrm_thenI ?_))
        refine And.intro (by refine ⟨?_, ?_, ?_, ?_, trivial⟩ <;> ((conv => lhs; whnf); (try conv => rhs; whnf))) ?_
        exact ⟨h - (i + 1), by omega, i + 1, by omega, rfl, rfl, hs⟩
      · have hs := hs.perm (List.perm_append_comm (l₂ := [_, _]))
        refine ci_true rfl ((by rw [hbb]; rfl)) ?_
        refine ci_ret (ret_blockI (ret_thenI (ret_thenI (ret_blockI ?_))))
        show FinI _ _ _ _ _ _
        refine finI0 ?_
        show Fin _ _ _ _ _
        refine fin0 rfl ?_
        exact ⟨⟨_, rfl⟩, .inr hs.drop.drop⟩
    · obtain rfl : i = h := by have := of_decide_eq_false h1; omega
      replace h1 := of_decide_eq_false h1
      refine ci_exit (ex_thenI (ex_thenI (ex_hitI ?_)))
      show FinI _ _ _ _ _ _
      refine finI0 ?_
      show Fin _ _ _ _ _
      refine fin0 rfl ?_
      refine ⟨⟨_, rfl⟩, .inl ?_⟩
      rw [plV_len]
      exact hs.drop.drop
end Go.Proofs.YtbimboibllboeaaDoor.Blm
