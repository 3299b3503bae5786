/- Written by this session's program (wip/tools/myprint.py) out of the translation: functions, and what a call of each comes to. -/
import Derived.Test.YtlkljeghhahedaaPWalFramesx0
namespace Go.Proofs.Ytlkljeghhahedaa.PWalFrames
open Go.RowKit Go.Proofs.YtlkljeghhahedaaW.PrintWords Go.Proofs.YtlkljeghhahedaaW.PrintLast Go.Proofs.YtlkljeghhahedaaW.PrintMore Go.Proofs.Ytlkljeghhahedaa.PBase
attribute [local go_sem] max2_int min2_int max_two min_two max_three min_three max_four min_four   -- for this text's walks alone
set_option linter.unusedVariables false
set_option linter.unusedSimpArgs false

-- in the base: function 33 (six_New)

-- in the base: function 53 (six_groups)

-- NOT PRINTED: function 34 (six_Writer_Text)

-- in the base: function 54 (crc_Sum)

-- in the base: function 35 (crc_Put)

-- NOT PRINTED: function 36 (six_Writer_Bytes)

/-! ### wal_Frame: function 11: by hand (the walk stands in WalFrame) -/
def wal_Frame.f (k : Nat) (a0 : ByteArray) : Option (ByteArray) := Go.Proofs.Ytlkljeghhahedaa.WalFrame.framed k a0
theorem wal_Frame.mono : ∀ a0 k, LeO (wal_Frame.f k a0) (wal_Frame.f (k + 1) a0) := fun a0 k => Go.Proofs.Ytlkljeghhahedaa.WalFrame.framed_mono a0 k
theorem wal_Frame.calls (k : Nat) (a0 : ByteArray) (r : ByteArray) (w : World) (h : wal_Frame.f k a0 = some r) :
    Calls Try.prog 11 #[.string a0] w fun e w' => e = .returned (.string r) ∧ Below w.heap.size w w' :=
  Go.Proofs.Ytlkljeghhahedaa.WalFrame.frame_w k a0 r w h

-- in the base: function 37 (six_Over)

-- in the base: function 38 (six_Reader_Rest)

-- in the base: function 40 (six_Reader_Raw)

-- in the base: function 61 (six_Reader_number)

-- in the base: function 55 (six_Reader_Count)

-- in the base: function 39 (six_Reader_Text)

end Go.Proofs.Ytlkljeghhahedaa.PWalFrames
