/- The walk of the six laws' own example (awake): the document's answers come out, and nothing that was there has changed. -/
import Derived.Test.YtfbmgiflckdalaaWriter
import Derived.Test.YtfbmgiflckdalaaPSixx
namespace Go.Proofs.Ytfbmgiflckdalaa.SixAwake
open Go Go.RowKit Go.Proofs.YtfbmgiflckdalaaW.PrintWords Go.Proofs.YtfbmgiflckdalaaW.PrintLast Go.Proofs.YtfbmgiflckdalaaW.PrintMore Go.Proofs.Ytfbmgiflckdalaa.PSix Go.Proofs.Ytfbmgiflckdalaa.Base Go.Proofs.Ytfbmgiflckdalaa.Writer
set_option linter.unusedVariables false
set_option linter.unusedSimpArgs false
set_option maxRecDepth 100000
theorem g1 : six_groups.f 10 [] 64 64 = some [1, 64] := by decide +kernel
theorem g2 : six_groups.f 10 [1, 64] (-(-65 + 1)) 128 = some [1, 64, 1, 128] := by decide +kernel
theorem g3 : six_groups.f 10 [1, 64, 1, 128] (((⟨#[97, 98]⟩ : ByteArray).size : Int)) 64 = some [1, 64, 1, 128, 66] := by decide +kernel
theorem r1 : six_Reader_Count.f 10 ⟨#[1, 64, 1, 128, 66, 97, 98]⟩ = some (64, 0, ⟨#[1, 128, 66, 97, 98]⟩) := by decide +kernel
theorem r2 : six_Reader_Whole.f 10 ⟨#[1, 128, 66, 97, 98]⟩ = some (-65, 0, ⟨#[66, 97, 98]⟩) := by decide +kernel
theorem r3 : six_Reader_Text.f 10 ⟨#[66, 97, 98]⟩ = some (⟨#[97, 98]⟩, 0, ⟨#[]⟩) := by decide +kernel
theorem r4 : six_Reader_End.f ⟨#[]⟩ = some (0, ⟨#[]⟩) := by decide +kernel
set_option maxHeartbeats 4000000 in
theorem awake_w (w : World) : Calls Try.prog 10 #[] w fun e w' => e = .returned (.bool true) ∧ Below w.heap.size w w' := by
  go_enter Try.func10, Try.ntmps10
  go_wp2_with fail
  refine (new_w w _ (Below.refl _ _)).mono ?_
  rintro e w1 ⟨rfl, hI1, hB1⟩
  go_wp2_with fail
  refine (count_w 10 64 [] _ w.heap.size w _ hI1 hB1 (by omega) (by omega) g1).mono ?_
  rintro e w2 ⟨rfl, hI2, hB2⟩
  go_wp2_with fail
  refine (whole_neg 10 (-65) _ _ w.heap.size w _ hI2 hB2 (by omega) (by omega) g2).mono ?_
  rintro e w3 ⟨rfl, hI3, hB3⟩
  go_wp2_with fail
  refine (text_w 10 ⟨#[97, 98]⟩ _ _ w.heap.size w _ hI3 hB3 (by decide) g3 (by decide)).mono ?_
  rintro e w4 ⟨rfl, hI4, hB4⟩
  have e4 : ([1, 64, 1, 128, 66] ++ bytesOf ⟨#[97, 98]⟩ : List Int) = [1, 64, 1, 128, 66, 97, 98] := by decide
  rw [e4] at hI4
  clear e4
  go_wp2_with fail
  refine (bytes_is (s := ⟨#[1, 64, 1, 128, 66, 97, 98]⟩) (by decide +kernel) w.heap.size w.heap.size _ hI4).mono ?_
  rintro e w5 ⟨rfl, rfl⟩
  go_wp2_with fail
  refine (six_Over.calls _ ⟨#[1, 64, 1, 128, 66, 97, 98]⟩ w4 _ (Below.refl _ _) (by decide +kernel)).mono ?_
  rintro e w5 ⟨g, rfl, hR5, hB5, _⟩
  go_wp2_with fail
  refine (six_Reader_Count.calls 10 g _ 64 0 _ w4 _ hR5 hB5 r1).mono ?_
  rintro e w6 ⟨rfl, hR6, hB6, _⟩
  go_wp2_with fail
  refine (six_Reader_Whole.calls 10 g _ (-65) 0 _ w4 _ hR6 hB6 r2).mono ?_
  rintro e w7 ⟨rfl, hR7, hB7, _⟩
  go_wp2_with fail
  refine (six_Reader_Text.calls 10 g _ _ 0 _ w4 _ hR7 hB7 r3).mono ?_
  rintro e w8 ⟨rfl, hR8, hB8, _⟩
  have hI8 := hI4.below hB8
  go_wp2_with fail
  refine (bytes_is (s := ⟨#[1, 64, 1, 128, 66, 97, 98]⟩) (by decide +kernel) w.heap.size w.heap.size _ hI8).mono ?_
  rintro e w9 ⟨rfl, rfl⟩
  go_wp2_with fail
  refine (six_Reader_End.calls g _ 0 _ w4 _ hR8 hB8 r4).mono ?_
  rintro e w9 ⟨rfl, hR9, hB9, _⟩
  go_wp2
  go_ret
  exact ⟨rfl, hB4.trans (hB9.mono hB4.size)⟩
end Go.Proofs.Ytfbmgiflckdalaa.SixAwake
