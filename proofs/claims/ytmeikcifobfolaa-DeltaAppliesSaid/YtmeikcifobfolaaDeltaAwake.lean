/- The walk of the delta laws' own example (awake): the document's answer comes out, and nothing that was there has changed. -/
import Derived.Test.YtmeikcifobfolaaPBasex
import Derived.Test.YtmeikcifobfolaaArr
import Derived.Lib.SlBytesConst
import Derived.WalkSpells
import Derived.WalkLawsBesides
namespace Go.Proofs.Ytmeikcifobfolaa.DeltaAwake
open Go Go.RowKit Go.Proofs.YtmeikcifobfolaaW.PrintWords Go.Proofs.YtmeikcifobfolaaW.PrintLast Go.Proofs.YtmeikcifobfolaaW.PrintMore Go.Proofs.Ytmeikcifobfolaa.PBase Go.Proofs.Ytmeikcifobfolaa.Base Go.Proofs.Ytmeikcifobfolaa.Arr
set_option linter.unusedVariables false
set_option linter.unusedSimpArgs false
set_option maxRecDepth 100000
theorem a1 : delta_Apply.f 20 [97, 98, 99] ⟨#[68, 69, 64, 68, 120, 121]⟩ = some ([97, 98, 120, 121], 0) := by decide +kernel
set_option maxHeartbeats 2000000 in
theorem awake_w (w : World) : Calls Try.prog 7 #[] w fun e w' => e = .returned (.bool true) ∧ Below w.heap.size w w' := by
  have kc := fun (w : World) (C : Array Value) (n c : Nat) => Lib.run_convert_bytes_const (P := Try.prog) w 22 5 C n c Try.underlying22 Try.underlying5
  go_enter Try.func7, Try.ntmps7
  go_wp2_with fail
  have hC : (Kd.int .u8).C (w.alloc (.cells #[.int .u8 97, .int .u8 98, .int .u8 99] 5 (3, 4))) (some ⟨w.heap.size, 0, none⟩) ([97, 98, 99] : List Int).length [97, 98, 99] :=
    C_of_block (enc := Value.int .u8) (l := ([97, 98, 99] : List Int)) 0 (heap_alloc_new w _) (by decide)
  have hB : Below w.heap.size w (w.alloc (.cells #[.int .u8 97, .int .u8 98, .int .u8 99] 5 (3, 4))) := (Below.refl _ _).alloc (Nat.le_refl _) _
  refine (delta_Apply.calls 20 _ 3 [97, 98, 99] _ _ _ _ hC (by decide) a1).mono ?_
  rintro e w1 ⟨v, rfl, hR, hB1⟩
  have hB2 := hB.trans (hB1.mono (by simp))
  have hcv := own_string (P := Try.prog) Try.underlying22 Try.underlying5 Try.underlying9 (Kd.own_of_R hR)
  obtain ⟨A, c, rfl⟩ := Kd.R_slice hR
  have es : strOfNums [97, 98, 120, 121] = ⟨#[97, 98, 120, 121]⟩ := by decide +kernel
  rw [es] at hcv
  have hcv2 : (convert 22 9 (.slice A 4 c)).run Try.prog w1 = .ok (.string ⟨#[97, 98, 120, 121]⟩) w1 := hcv
  clear hcv
  clear hC hB hB1 hR es kc
  go_wp2
  go_ret
  exact ⟨rfl, hB2⟩
end Go.Proofs.Ytmeikcifobfolaa.DeltaAwake
