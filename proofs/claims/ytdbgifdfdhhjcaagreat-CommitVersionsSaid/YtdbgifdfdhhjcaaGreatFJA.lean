import Derived.Test.YtdbgifdfdhhjcaaGreatRows
import Derived.KernelRfl
namespace Go.Proofs.YtdbgifdfdhhjcaaGreat
open Go
set_option maxRecDepth 100000
theorem jf1 : laidOutB Tryz.prog = true := by kernel_rfl
theorem jf2 : mapsRowed Tryz.prog = true := by kernel_rfl
end Go.Proofs.YtdbgifdfdhhjcaaGreat
