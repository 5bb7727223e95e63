import Derived.Test.YtcglbpjpbjaecaaGreatRows
import Derived.KernelRfl
namespace Go.Proofs.YtcglbpjpbjaecaaGreat
open Go
set_option maxRecDepth 100000
theorem jg3 : Tryz.prog.inPlace 5 = ["internal/reflectlite.ValueOf", "internal/reflectlite.Swapper", "(internal/reflectlite.Value).Len"] := by kernel_rfl
theorem jg4 : Tryz.prog.unfollowed 5 = true := by kernel_rfl
theorem jg5 : Tryz.prog.recurses 5 = true := by kernel_rfl
theorem jg6 : Tryz.prog.varsNamed 5 = [] := by kernel_rfl
end Go.Proofs.YtcglbpjpbjaecaaGreat
