import Derived.Test.YtdbgifdfdhhjcaaGreatRows
import Derived.KernelRfl
namespace Go.Proofs.YtdbgifdfdhhjcaaGreat
open Go
set_option maxRecDepth 100000
theorem jg3 : Tryz.prog.inPlace 4 = [] := by kernel_rfl
theorem jg4 : Tryz.prog.unfollowed 4 = true := by kernel_rfl
theorem jg5 : Tryz.prog.recurses 4 = true := by kernel_rfl
theorem jg6 : Tryz.prog.varsNamed 4 = [] := by kernel_rfl
end Go.Proofs.YtdbgifdfdhhjcaaGreat
