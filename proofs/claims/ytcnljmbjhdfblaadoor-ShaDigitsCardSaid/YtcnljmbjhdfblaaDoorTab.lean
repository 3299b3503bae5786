/- The types' zero values, cells and bytes. Written by this session's program (wip/tools/tab.py) out of the translation. -/
import Derived.Test.YtcnljmbjhdfblaaDoorProg
import Derived.Test.YtcnljmbjhdfblaaDoorMem
namespace Go.Proofs.YtcnljmbjhdfblaaDoor.Eng
open Go
theorem I1 : TI Tryd.prog 1 (.nilFunc) 1 8 := by unfold TI; kernel_rfl
theorem I2 : TI Tryd.prog 2 (.int .i64 0) 1 8 := by unfold TI; kernel_rfl
theorem I3 : TI Tryd.prog 3 (.int .i64 0) 1 8 := by unfold TI; kernel_rfl
theorem I4 : TI Tryd.prog 4 (.bool false) 1 1 := by unfold TI; kernel_rfl
theorem I5 : TI Tryd.prog 5 (.int .u8 0) 1 1 := by unfold TI; kernel_rfl
theorem I9 : TI Tryd.prog 9 (.string ⟨#[]⟩) 1 16 := by unfold TI; kernel_rfl
theorem I12 : TI Tryd.prog 12 (.int .u64 0) 1 8 := by unfold TI; kernel_rfl
theorem I20 : TI Tryd.prog 20 (.nilIface) 1 16 := by unfold TI; kernel_rfl
theorem I21 : TI Tryd.prog 21 (.int .i32 0) 1 4 := by unfold TI; kernel_rfl
theorem I22 : TI Tryd.prog 22 (.slice none 0 0) 1 24 := by unfold TI; kernel_rfl
theorem I23 : TI Tryd.prog 23 (.nilFunc) 1 8 := by unfold TI; kernel_rfl
theorem I24 : TI Tryd.prog 24 (.agg (List.replicate 32 (.int .u8 0)).toArray) 32 32 := by unfold TI; kernel_rfl
theorem I25 : TI Tryd.prog 25 (.agg (List.replicate 32 (.int .u8 0)).toArray) 32 32 := by unfold TI; kernel_rfl
theorem I26 : TI Tryd.prog 26 (.nilFunc) 1 8 := by unfold TI; kernel_rfl
theorem I27 : TI Tryd.prog 27 (.nilFunc) 1 8 := by unfold TI; kernel_rfl
theorem I28 : TI Tryd.prog 28 (.nilFunc) 1 8 := by unfold TI; kernel_rfl
theorem I29 : TI Tryd.prog 29 (.int .u32 0) 1 4 := by unfold TI; kernel_rfl
theorem I30 : TI Tryd.prog 30 (.nilFunc) 1 8 := by unfold TI; kernel_rfl
theorem I31 : TI Tryd.prog 31 (.nilFunc) 1 8 := by unfold TI; kernel_rfl
theorem I32 : TI Tryd.prog 32 (.nilFunc) 1 8 := by unfold TI; kernel_rfl
theorem I33 : TI Tryd.prog 33 (.int .i64 0) 1 8 := by unfold TI; kernel_rfl
theorem I35 : TI Tryd.prog 35 (.nilFunc) 1 8 := by unfold TI; kernel_rfl
theorem I37 : TI Tryd.prog 37 (.nilFunc) 1 8 := by unfold TI; kernel_rfl
theorem I38 : TI Tryd.prog 38 (.nilFunc) 1 8 := by unfold TI; kernel_rfl
theorem I39 : TI Tryd.prog 39 (.nilFunc) 1 8 := by unfold TI; kernel_rfl
theorem I40 : TI Tryd.prog 40 (.slice none 0 0) 1 24 := by unfold TI; kernel_rfl
theorem I41 : TI Tryd.prog 41 (.nilFunc) 1 8 := by unfold TI; kernel_rfl
theorem I42 : TI Tryd.prog 42 (.nilFunc) 1 8 := by unfold TI; kernel_rfl
theorem I43 : TI Tryd.prog 43 (.nilFunc) 1 8 := by unfold TI; kernel_rfl
theorem I44 : TI Tryd.prog 44 (.agg (List.replicate 8 (.int .u32 0)).toArray) 8 32 := by unfold TI; kernel_rfl
theorem I45 : TI Tryd.prog 45 (.agg (List.replicate 64 (.int .u8 0)).toArray) 64 64 := by unfold TI; kernel_rfl
theorem I46 : TI Tryd.prog 46 (.int .u64 0) 1 8 := by unfold TI; kernel_rfl
theorem I47 : TI Tryd.prog 47 (.nilFunc) 1 8 := by unfold TI; kernel_rfl
theorem I48 : TI Tryd.prog 48 (.nilFunc) 1 8 := by unfold TI; kernel_rfl
theorem I49 : TI Tryd.prog 49 (.int .u64 0) 1 8 := by unfold TI; kernel_rfl
theorem I50 : TI Tryd.prog 50 (.slice none 0 0) 1 24 := by unfold TI; kernel_rfl
theorem I51 : TI Tryd.prog 51 (.nilFunc) 1 8 := by unfold TI; kernel_rfl
theorem I52 : TI Tryd.prog 52 (.agg (List.replicate 64 (.int .u32 0)).toArray) 64 256 := by unfold TI; kernel_rfl
theorem I53 : TI Tryd.prog 53 (.nilFunc) 1 8 := by unfold TI; kernel_rfl
theorem I59 : TI Tryd.prog 59 (.nilFunc) 1 8 := by unfold TI; kernel_rfl
theorem I62 : TI Tryd.prog 62 (.nilFunc) 1 8 := by unfold TI; kernel_rfl
theorem I63 : TI Tryd.prog 63 (.pointer none) 1 8 := by unfold TI; kernel_rfl
theorem I68 : TI Tryd.prog 68 (.pointer none) 1 8 := by unfold TI; kernel_rfl
end Go.Proofs.YtcnljmbjhdfblaaDoor.Eng
