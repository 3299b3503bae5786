/- Proved here: the given statement BloomOpensSaid and its card: for every input that can be read the call returns true and leaves its arguments as they were. No condition of ours. -/
import Derived.Test.YtbimboibllboeaaDoorRows
import Derived.Test.YtbimboibllboeaaDoorBlmOpens
import Derived.Test.YtbimboibllboeaaDoorRowArr
import Derived.Test.YtbimboibllboeaaDoorTie
import Derived.Test.YtbimboibllboeaaDoorCards
import Derived.WalkKit
import Derived.ProofKit
import Derived.OpenShut
import Derived.ShutString
import Derived.ChangeOld
import Derived.Below
import Derived.SizedLaws
import Derived.SliceStrings
import Derived.LaidLaws
import Derived.Handed
import Derived.SevenTiedAt
namespace Go.Proofs.YtbimboibllboeaaDoor.bloomOpens
open Go.ChangeShapes Go.WideShapes Go.ChangeAt Go.RowKit Go.Proofs.YtbimboibllboeaaDoor Go.Proofs.YtbimboibllboeaaDoor.Eng
open Go.ChangeMaps (open_string shut_string)
set_option linter.unusedVariables false
set_option linter.unusedSimpArgs false
theorem own : ownKnob Tryd.prog.godebug = none := by kernel_rfl
theorem laidOut : laidOutB Tryd.prog = true := by kernel_rfl
noncomputable def laidWorld (os : Os) : World :=
  let w0 := World.holding Tryd.prog os ⟨#[], #[], []⟩
  { w0 with heap := w0.heap.modify 0 fun
      | .cells _ t frozen => .cells ((Sha.K.map u32V).toArray) t frozen
      | o => o }
theorem laid_met (os : Os) (args : Array Value) : laidMet Tryd.prog Rows.bloomOpensRow.laid ((laidWorld os).forCall (fun _ _ => 0) ⟨#[], args, []⟩).memory :=
  laidMet_of_run' 8 (by kernel_rfl) (by kernel_rfl)
theorem laid_of {W : World} (hL : laidMet Tryd.prog Rows.bloomOpensRow.laid W) : Sha.Ok0 W := by
  have hL' : laidMet Tryd.prog [("silo/sha.rounds", .agg ((Sha.K.map fun x : BitVec 32 => ((x.toNat : Nat) : Int)).map fun a => .lit (.int .u32 a)))] W := by
    rw [← (show Rows.laid_silo_sha_rounds = DataW.agg ((Sha.K.map fun x : BitVec 32 => ((x.toNat : Nat) : Int)).map fun a => DataW.lit (H := Unit) (.int .u32 a)) by kernel_rfl)]
    exact hL
  have h := RowArr.laid_array (show Tryd.prog.globalNamed "silo/sha.rounds" = some 0 by kernel_rfl) (show (Tryd.prog.globals[0]?).map (·.type) = some 94 by kernel_rfl) Tryd.underlying94 Tryd.underlying71 (by kernel_rfl) (by kernel_rfl) (by decide) hL'
  rw [List.map_map] at h
  exact h
set_option maxRecDepth 100000 in
theorem lifted (os : Os) (started : os.Started) (H : Type) (enc : TypeId × Value → H) :
    ReturnsInHanded {} Tryd.checked os 7 .any (fun w args => (Rows.bloomOpensSpec.pre enc Tryd.prog Tryd.f7 [] false w args ∧ laidMet Tryd.prog Rows.bloomOpensRow.laid w) ∧ sizedMet enc Tryd.prog Tryd.f7 (OpenSpec.ofChange Rows.bloomOpensSpec) false w args) (Rows.bloomOpensSpec.post enc Tryd.prog Tryd.f7 false true false false) := by
  refine returnsInHanded_of_change_and (C := Tryd.checked) (X := fun w _ => laidMet Tryd.prog Rows.bloomOpensRow.laid w) (fun _ _ _ hh h => h.of_heap hh) own started (by kernel_rfl) Tryd.func7
    (ChangeSpec.witness_at (enc := enc) (C := Tryd.checked) (os := os) (X := fun w _ => laidMet Tryd.prog Rows.bloomOpensRow.laid w) false (laidWorld os) #[.string ByteArray.empty, .slice none 0 0] 8 rfl (by kernel_rfl) (by kernel_rfl) (by kernel_rfl) (by kernel_rfl) (by kernel_rfl) (laid_met os _)) ?_
  intro W base args ds gs before hval0 hW hcnd hsz0 hL _
  have hsz : (DataW.weightsEach Tryd.prog (Tryd.f7.params.toList ++ Rows.bloomOpensSpec.plain.varTypes Tryd.prog) (ds ++ gs)).all (· ≤ reachBytes) = true := hsz0
  have hval : ∀ (j : Nat) t v, Tryd.f7.params[j]? = some t → args[j]? = some v → Value.okWide Tryd.prog W .any base t v := hval0
  have hW' := hW
  obtain ⟨p, q, hA0, hV, rfl, hfz, hnd⟩ := hW
  have hA : DataW.TrodAll enc Tryd.prog W 0 (fun _ => true) true Tryd.f7.params.toList args.toList ds p := hA0
  rw [Tryd.params7] at hA hval hsz
  obtain ⟨v0, vs0, d0, ds0, p0, q0, hargs, rfl, rfl, h0, r0⟩ := trodAll_cons hA
  obtain ⟨v1, vs1, d1, ds1, p1, q1, rfl, rfl, rfl, h1, r1⟩ := trodAll_cons r0
  obtain ⟨rfl, rfl, rfl⟩ := trodAll_nil r1
  obtain rfl : args = #[v0, v1] := by cases args; simp_all
  obtain ⟨rfl, rfl⟩ := trodVars_none hV
  obtain ⟨a0, rfl, rfl, rfl, y0⟩ := open_string Tryd.underlying9 (hval 0 9 v0 rfl rfl) h0
  have w0 : a0.size ≤ 140737488351232 := by
    have z := sized_string hsz (j := 0) (t := 9) rfl rfl
    rw [Array.length_toList] at z
    exact z
  obtain ⟨a1, len1, cap1, rfl⟩ := okWide_slice Tryd.underlying22 (hval 1 22 v1 rfl rfl)
  have k1 := h1
  have lt1 : ∀ x ∈ p1, x.block < W.heap.size := by obtain ⟨m, hm⟩ := k1; exact DataW.trod_lt m _ _ _ hm
  obtain ⟨l1, g1, hr1, hc1, hs1⟩ := RowArr.strs_open Tryd.underlying22 Tryd.underlying9 (by kernel_rfl) h1
  subst g1
  clear hA0 hval0 hsz0 hsz
  refine (Blm.opens_walk a0 w0 a1 cap1 l1 hr1 hc1 hs1 (laid_of hL)).mono fun e W' ⟨he, bel⟩ => ?_
  subst he
  exact ⟨_, rfl, _, _, _, [], _, [], hW', trodAll_mk1 (shut_bool Tryd.underlying4 _), (trodAll_cons_mk (shut_string Tryd.underlying9 y0) (trodAll_cons_mk (Below.trod laidOut (by kernel_rfl) (of_decide_eq_true (by kernel_rfl)) k1 bel lt1) trodAll_mk0)), rfl, bel.frame _, fun h => by cases h⟩
theorem over : Rows.bloomOpensRow.holds Tryd.pinned (OpenSpec.ofChange Rows.bloomOpensSpec) :=
  OpenClaim.holds_of_wide 7 Tryd.f7 rfl rfl rfl rfl rfl rfl rfl ⟨rfl, rfl, rfl, rfl, rfl⟩ rfl rfl rfl rfl rfl (by kernel_rfl) Tryd.func7 (by kernel_rfl)
    (of_decide_eq_true (by kernel_rfl)) (by unfold Func.isWrapper; first | (rw [if_pos (by decide +kernel)]; kernel_rfl) | (rw [if_neg (by decide +kernel)]; exact ⟨rfl, rfl⟩))
    (fun os started H enc _ => lifted os started H enc)
theorem proved : Rows.BloomOpensCardSaid :=
  Claim7.holds_tied_plain_at .later [] [.data] true (true, "7742c5b464da3c886da8891a6c449cde2a18999d51a6bae94b58ef87586f7616") false
    over (fun _ h => by cases h) (by kernel_rfl) (fun _ h => by cases h) bloomOpens_row_tie rfl ⟨rfl, rfl⟩ (by kernel_rfl) rfl
    (fun f fn hf hfn => by
      obtain rfl : f = 7 := Option.some.inj ((show Tryd.prog.funcNamed Rows.bloomOpensRow.func = some 7 by kernel_rfl).symm.trans hf) |>.symm
      obtain rfl : fn = Tryd.f7 := (Option.some.inj (Tryd.func7.symm.trans hfn)).symm
      exact ⟨by kernel_rfl, fun j t ht => by
        rw [Tryd.params7] at ht
        have hmem : t ∈ [9, 22] := by
          have := Array.mem_of_getElem? ht
          simpa using this
        simp only [List.mem_cons, List.not_mem_nil, or_false] at hmem
        rcases hmem with rfl | rfl
        · exact (show Tryd.prog.wantsStandIn 9 = false by kernel_rfl)
        · exact (show Tryd.prog.wantsStandIn 22 = false by kernel_rfl)
      ⟩)
    (by kernel_rfl)
#print axioms proved
end Go.Proofs.YtbimboibllboeaaDoor.bloomOpens
namespace Go.Proofs.YtbimboibllboeaaDoor
/-- The statement, under a short name, for the claim. -/
theorem bloomOpens_holds : Rows.BloomOpensCardSaid := bloomOpens.proved
end Go.Proofs.YtbimboibllboeaaDoor
