/- The types' zero values, cells and bytes. Written by this session's program (wip/tools/tab.py) out of the translation. -/
import Derived.Test.YtlgkmigdgjjoeaaProg
import Derived.Test.YtlgkmigdgjjoeaaMem
namespace Go.Proofs.Ytlgkmigdgjjoeaa.Eng
open Go
theorem I1 : TI Try.prog 1 (.nilFunc) 1 8 := by unfold TI; kernel_rfl
theorem I2 : TI Try.prog 2 (.int .i64 0) 1 8 := by unfold TI; kernel_rfl
theorem I3 : TI Try.prog 3 (.int .i64 0) 1 8 := by unfold TI; kernel_rfl
theorem I4 : TI Try.prog 4 (.bool false) 1 1 := by unfold TI; kernel_rfl
theorem I5 : TI Try.prog 5 (.int .u8 0) 1 1 := by unfold TI; kernel_rfl
theorem I9 : TI Try.prog 9 (.string ⟨#[]⟩) 1 16 := by unfold TI; kernel_rfl
theorem I12 : TI Try.prog 12 (.int .u64 0) 1 8 := by unfold TI; kernel_rfl
theorem I20 : TI Try.prog 20 (.nilIface) 1 16 := by unfold TI; kernel_rfl
theorem I21 : TI Try.prog 21 (.int .i32 0) 1 4 := by unfold TI; kernel_rfl
theorem I22 : TI Try.prog 22 (.slice none 0 0) 1 24 := by unfold TI; kernel_rfl
theorem I23 : TI Try.prog 23 (.nilFunc) 1 8 := by unfold TI; kernel_rfl
theorem I24 : TI Try.prog 24 (.int .u32 0) 1 4 := by unfold TI; kernel_rfl
theorem I25 : TI Try.prog 25 (.nilFunc) 1 8 := by unfold TI; kernel_rfl
theorem I26 : TI Try.prog 26 (.nilFunc) 1 8 := by unfold TI; kernel_rfl
theorem I27 : TI Try.prog 27 (.nilFunc) 1 8 := by unfold TI; kernel_rfl
theorem I28 : TI Try.prog 28 (.int .i64 0) 1 8 := by unfold TI; kernel_rfl
theorem I30 : TI Try.prog 30 (.nilFunc) 1 8 := by unfold TI; kernel_rfl
theorem I32 : TI Try.prog 32 (.nilFunc) 1 8 := by unfold TI; kernel_rfl
theorem I33 : TI Try.prog 33 (.nilFunc) 1 8 := by unfold TI; kernel_rfl
theorem I34 : TI Try.prog 34 (.nilFunc) 1 8 := by unfold TI; kernel_rfl
theorem I35 : TI Try.prog 35 (.nilFunc) 1 8 := by unfold TI; kernel_rfl
theorem I36 : TI Try.prog 36 (.slice none 0 0) 1 24 := by unfold TI; kernel_rfl
theorem I37 : TI Try.prog 37 (.int .u64 0) 1 8 := by unfold TI; kernel_rfl
theorem I38 : TI Try.prog 38 (.nilFunc) 1 8 := by unfold TI; kernel_rfl
theorem I39 : TI Try.prog 39 (.agg (List.replicate 32 (.bool false)).toArray) 32 32 := by unfold TI; kernel_rfl
theorem I40 : TI Try.prog 40 (.nilFunc) 1 8 := by unfold TI; kernel_rfl
theorem I41 : TI Try.prog 41 (.nilFunc) 1 8 := by unfold TI; kernel_rfl
theorem I47 : TI Try.prog 47 (.nilFunc) 1 8 := by unfold TI; kernel_rfl
theorem I50 : TI Try.prog 50 (.nilFunc) 1 8 := by unfold TI; kernel_rfl
theorem I51 : TI Try.prog 51 (.pointer none) 1 8 := by unfold TI; kernel_rfl
theorem I56 : TI Try.prog 56 (.pointer none) 1 8 := by unfold TI; kernel_rfl
end Go.Proofs.Ytlgkmigdgjjoeaa.Eng
