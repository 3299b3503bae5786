/- The types' zero values, cells and bytes. Written by this session's program (wip/tools/tab.py) out of the translation. -/
import Derived.Test.YtfbmgiflckdalaaProg
import Derived.Test.YtfbmgiflckdalaaMem
namespace Go.Proofs.Ytfbmgiflckdalaa.Eng
open Go
theorem I1 : TI Try.prog 1 (.nilFunc) 1 8 := by unfold TI; kernel_rfl
theorem I2 : TI Try.prog 2 (.int .i64 0) 1 8 := by unfold TI; kernel_rfl
theorem I3 : TI Try.prog 3 (.int .i64 0) 1 8 := by unfold TI; kernel_rfl
theorem I4 : TI Try.prog 4 (.bool false) 1 1 := by unfold TI; kernel_rfl
theorem I5 : TI Try.prog 5 (.int .u8 0) 1 1 := by unfold TI; kernel_rfl
theorem I9 : TI Try.prog 9 (.string ⟨#[]⟩) 1 16 := by unfold TI; kernel_rfl
theorem I12 : TI Try.prog 12 (.int .u64 0) 1 8 := by unfold TI; kernel_rfl
theorem I20 : TI Try.prog 20 (.nilIface) 1 16 := by unfold TI; kernel_rfl
theorem I21 : TI Try.prog 21 (.int .i32 0) 1 4 := by unfold TI; kernel_rfl
theorem I22 : TI Try.prog 22 (.slice none 0 0) 1 24 := by unfold TI; kernel_rfl
theorem I23 : TI Try.prog 23 (.pointer none) 1 8 := by unfold TI; kernel_rfl
theorem I24 : TI Try.prog 24 (.nilFunc) 1 8 := by unfold TI; kernel_rfl
theorem I25 : TI Try.prog 25 (.nilFunc) 1 8 := by unfold TI; kernel_rfl
theorem I26 : TI Try.prog 26 (.nilFunc) 1 8 := by unfold TI; kernel_rfl
theorem I27 : TI Try.prog 27 (.nilFunc) 1 8 := by unfold TI; kernel_rfl
theorem I28 : TI Try.prog 28 (.int .i64 0) 1 8 := by unfold TI; kernel_rfl
theorem I29 : TI Try.prog 29 (.nilFunc) 1 8 := by unfold TI; kernel_rfl
theorem I30 : TI Try.prog 30 (.nilFunc) 1 8 := by unfold TI; kernel_rfl
theorem I31 : TI Try.prog 31 (.slice none 0 0) 1 24 := by unfold TI; kernel_rfl
theorem I32 : TI Try.prog 32 (.slice none 0 0) 1 24 := by unfold TI; kernel_rfl
theorem I33 : TI Try.prog 33 (.pointer none) 1 8 := by unfold TI; kernel_rfl
theorem I34 : TI Try.prog 34 (.nilFunc) 1 8 := by unfold TI; kernel_rfl
theorem I35 : TI Try.prog 35 (.nilFunc) 1 8 := by unfold TI; kernel_rfl
theorem I36 : TI Try.prog 36 (.nilFunc) 1 8 := by unfold TI; kernel_rfl
theorem I38 : TI Try.prog 38 (.nilFunc) 1 8 := by unfold TI; kernel_rfl
theorem I40 : TI Try.prog 40 (.nilFunc) 1 8 := by unfold TI; kernel_rfl
theorem I41 : TI Try.prog 41 (.nilFunc) 1 8 := by unfold TI; kernel_rfl
theorem I42 : TI Try.prog 42 (.nilFunc) 1 8 := by unfold TI; kernel_rfl
theorem I43 : TI Try.prog 43 (.nilFunc) 1 8 := by unfold TI; kernel_rfl
theorem I44 : TI Try.prog 44 (.nilFunc) 1 8 := by unfold TI; kernel_rfl
theorem I45 : TI Try.prog 45 (.nilFunc) 1 8 := by unfold TI; kernel_rfl
theorem I46 : TI Try.prog 46 (.nilFunc) 1 8 := by unfold TI; kernel_rfl
theorem I47 : TI Try.prog 47 (.nilFunc) 1 8 := by unfold TI; kernel_rfl
theorem I48 : TI Try.prog 48 (.nilFunc) 1 8 := by unfold TI; kernel_rfl
theorem I50 : TI Try.prog 50 (.nilFunc) 1 8 := by unfold TI; kernel_rfl
theorem I51 : TI Try.prog 51 (.nilFunc) 1 8 := by unfold TI; kernel_rfl
theorem I53 : TI Try.prog 53 (.nilFunc) 1 8 := by unfold TI; kernel_rfl
theorem I54 : TI Try.prog 54 (.nilFunc) 1 8 := by unfold TI; kernel_rfl
theorem I55 : TI Try.prog 55 (.nilFunc) 1 8 := by unfold TI; kernel_rfl
theorem I56 : TI Try.prog 56 (.nilFunc) 1 8 := by unfold TI; kernel_rfl
theorem I58 : TI Try.prog 58 (.nilFunc) 1 8 := by unfold TI; kernel_rfl
theorem I59 : TI Try.prog 59 (.nilFunc) 1 8 := by unfold TI; kernel_rfl
theorem I60 : TI Try.prog 60 (.nilFunc) 1 8 := by unfold TI; kernel_rfl
theorem I61 : TI Try.prog 61 (.agg ([.string ⟨#[]⟩]).toArray) 1 16 := by unfold TI; kernel_rfl
theorem I62 : TI Try.prog 62 (.agg ([.string ⟨#[]⟩]).toArray) 1 16 := by unfold TI; kernel_rfl
theorem I64 : TI Try.prog 64 (.nilFunc) 1 8 := by unfold TI; kernel_rfl
theorem I66 : TI Try.prog 66 (.nilFunc) 1 8 := by unfold TI; kernel_rfl
theorem I67 : TI Try.prog 67 (.nilFunc) 1 8 := by unfold TI; kernel_rfl
theorem I68 : TI Try.prog 68 (.agg ([.slice none 0 0]).toArray) 1 24 := by unfold TI; kernel_rfl
theorem I69 : TI Try.prog 69 (.agg ([.slice none 0 0]).toArray) 1 24 := by unfold TI; kernel_rfl
theorem I70 : TI Try.prog 70 (.nilFunc) 1 8 := by unfold TI; kernel_rfl
theorem I71 : TI Try.prog 71 (.int .u64 0) 1 8 := by unfold TI; kernel_rfl
theorem I73 : TI Try.prog 73 (.nilFunc) 1 8 := by unfold TI; kernel_rfl
theorem I74 : TI Try.prog 74 (.nilFunc) 1 8 := by unfold TI; kernel_rfl
theorem I75 : TI Try.prog 75 (.nilFunc) 1 8 := by unfold TI; kernel_rfl
theorem I76 : TI Try.prog 76 (.int .u64 0) 1 8 := by unfold TI; kernel_rfl
theorem I82 : TI Try.prog 82 (.nilFunc) 1 8 := by unfold TI; kernel_rfl
theorem I83 : TI Try.prog 83 (.int .u32 0) 1 4 := by unfold TI; kernel_rfl
theorem I86 : TI Try.prog 86 (.nilFunc) 1 8 := by unfold TI; kernel_rfl
theorem I87 : TI Try.prog 87 (.pointer none) 1 8 := by unfold TI; kernel_rfl
theorem I92 : TI Try.prog 92 (.pointer none) 1 8 := by unfold TI; kernel_rfl
end Go.Proofs.Ytfbmgiflckdalaa.Eng
