/- The digest of "abc". Plain. -/
import Derived.Test.YtbimboibllboeaaDoorShaFn
import Derived.KernelRfl
namespace Go.Proofs.YtbimboibllboeaaDoor.Sha
open Go
set_option maxRecDepth 100000
theorem abc : digest [97, 98, 99] = [186, 120, 22, 191, 143, 1, 207, 234, 65, 65, 64, 222, 93, 174, 34, 35, 176, 3, 97, 163, 150, 23, 122, 156, 180, 16, 255, 97, 242, 0, 21, 173] := by kernel_rfl
end Go.Proofs.YtbimboibllboeaaDoor.Sha
