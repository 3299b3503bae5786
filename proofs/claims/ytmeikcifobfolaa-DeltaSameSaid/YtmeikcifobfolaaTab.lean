/- The types' zero values, cells and bytes. Written by this session's program (wip/tools/tab.py) out of the translation. -/
import Derived.Test.YtmeikcifobfolaaProg
import Derived.Test.YtmeikcifobfolaaMem
namespace Go.Proofs.Ytmeikcifobfolaa.Eng
open Go
theorem I1 : TI Try.prog 1 (Value.nilFunc) 1 8 := by unfold TI; kernel_rfl
theorem I2 : TI Try.prog 2 (Value.int .i64 0) 1 8 := by unfold TI; kernel_rfl
theorem I3 : TI Try.prog 3 (Value.int .i64 0) 1 8 := by unfold TI; kernel_rfl
theorem I4 : TI Try.prog 4 (Value.bool false) 1 1 := by unfold TI; kernel_rfl
theorem I5 : TI Try.prog 5 (Value.int .u8 0) 1 1 := by unfold TI; kernel_rfl
theorem I9 : TI Try.prog 9 (Value.string ⟨#[]⟩) 1 16 := by unfold TI; kernel_rfl
theorem I12 : TI Try.prog 12 (Value.int .u64 0) 1 8 := by unfold TI; kernel_rfl
theorem I20 : TI Try.prog 20 (Value.nilIface) 1 16 := by unfold TI; kernel_rfl
theorem I21 : TI Try.prog 21 (Value.int .i32 0) 1 4 := by unfold TI; kernel_rfl
theorem I22 : TI Try.prog 22 (Value.slice none 0 0) 1 24 := by unfold TI; kernel_rfl
theorem I23 : TI Try.prog 23 (Value.nilFunc) 1 8 := by unfold TI; kernel_rfl
theorem I24 : TI Try.prog 24 (Value.int .i64 0) 1 8 := by unfold TI; kernel_rfl
theorem I26 : TI Try.prog 26 (Value.nilFunc) 1 8 := by unfold TI; kernel_rfl
theorem I28 : TI Try.prog 28 (Value.nilFunc) 1 8 := by unfold TI; kernel_rfl
theorem I29 : TI Try.prog 29 (Value.nilFunc) 1 8 := by unfold TI; kernel_rfl
theorem I30 : TI Try.prog 30 (Value.slice none 0 0) 1 24 := by unfold TI; kernel_rfl
theorem I31 : TI Try.prog 31 (Value.agg ([Value.bool false, Value.int .i64 0, Value.string ⟨#[]⟩, Value.int .i64 0]).toArray) 4 40 := by unfold TI; kernel_rfl
theorem I32 : TI Try.prog 32 (Value.agg ([Value.bool false, Value.int .i64 0, Value.string ⟨#[]⟩, Value.int .i64 0]).toArray) 4 40 := by unfold TI; kernel_rfl
theorem I33 : TI Try.prog 33 (Value.int .u64 0) 1 8 := by unfold TI; kernel_rfl
theorem I34 : TI Try.prog 34 (Value.nilFunc) 1 8 := by unfold TI; kernel_rfl
theorem I35 : TI Try.prog 35 (Value.nilFunc) 1 8 := by unfold TI; kernel_rfl
theorem I37 : TI Try.prog 37 (Value.nilFunc) 1 8 := by unfold TI; kernel_rfl
theorem I38 : TI Try.prog 38 (Value.nilFunc) 1 8 := by unfold TI; kernel_rfl
theorem I39 : TI Try.prog 39 (Value.nilFunc) 1 8 := by unfold TI; kernel_rfl
theorem I40 : TI Try.prog 40 (Value.pointer none) 1 8 := by unfold TI; kernel_rfl
theorem I41 : TI Try.prog 41 (Value.nilFunc) 1 8 := by unfold TI; kernel_rfl
theorem I43 : TI Try.prog 43 (Value.nilFunc) 1 8 := by unfold TI; kernel_rfl
theorem I44 : TI Try.prog 44 (Value.nilFunc) 1 8 := by unfold TI; kernel_rfl
theorem I45 : TI Try.prog 45 (Value.nilFunc) 1 8 := by unfold TI; kernel_rfl
theorem I47 : TI Try.prog 47 (Value.nilFunc) 1 8 := by unfold TI; kernel_rfl
theorem I48 : TI Try.prog 48 (Value.nilFunc) 1 8 := by unfold TI; kernel_rfl
theorem I49 : TI Try.prog 49 (Value.map none) 1 8 := by unfold TI; kernel_rfl
theorem I50 : TI Try.prog 50 (Value.pointer none) 1 8 := by unfold TI; kernel_rfl
theorem I51 : TI Try.prog 51 (Value.nilFunc) 1 8 := by unfold TI; kernel_rfl
theorem I52 : TI Try.prog 52 (Value.nilFunc) 1 8 := by unfold TI; kernel_rfl
theorem I53 : TI Try.prog 53 (Value.nilFunc) 1 8 := by unfold TI; kernel_rfl
theorem I54 : TI Try.prog 54 (Value.nilFunc) 1 8 := by unfold TI; kernel_rfl
theorem I56 : TI Try.prog 56 (Value.nilFunc) 1 8 := by unfold TI; kernel_rfl
theorem I57 : TI Try.prog 57 (Value.agg ([Value.string ⟨#[]⟩]).toArray) 1 16 := by unfold TI; kernel_rfl
theorem I58 : TI Try.prog 58 (Value.agg ([Value.string ⟨#[]⟩]).toArray) 1 16 := by unfold TI; kernel_rfl
theorem I60 : TI Try.prog 60 (Value.nilFunc) 1 8 := by unfold TI; kernel_rfl
theorem I61 : TI Try.prog 61 (Value.nilFunc) 1 8 := by unfold TI; kernel_rfl
theorem I62 : TI Try.prog 62 (Value.nilFunc) 1 8 := by unfold TI; kernel_rfl
theorem I63 : TI Try.prog 63 (Value.int .u64 0) 1 8 := by unfold TI; kernel_rfl
theorem I64 : TI Try.prog 64 (Value.agg ([Value.slice none 0 0]).toArray) 1 24 := by unfold TI; kernel_rfl
theorem I65 : TI Try.prog 65 (Value.agg ([Value.slice none 0 0]).toArray) 1 24 := by unfold TI; kernel_rfl
theorem I66 : TI Try.prog 66 (Value.nilFunc) 1 8 := by unfold TI; kernel_rfl
theorem I72 : TI Try.prog 72 (Value.nilFunc) 1 8 := by unfold TI; kernel_rfl
theorem I73 : TI Try.prog 73 (Value.int .u32 0) 1 4 := by unfold TI; kernel_rfl
theorem I76 : TI Try.prog 76 (Value.nilFunc) 1 8 := by unfold TI; kernel_rfl
theorem I77 : TI Try.prog 77 (Value.pointer none) 1 8 := by unfold TI; kernel_rfl
theorem I82 : TI Try.prog 82 (Value.pointer none) 1 8 := by unfold TI; kernel_rfl
end Go.Proofs.Ytmeikcifobfolaa.Eng
