import Derived.Test.YtcglbpjpbjaecaaGreatRows
import Derived.KernelRfl
namespace Go.Proofs.YtcglbpjpbjaecaaGreat
open Go
set_option maxRecDepth 100000
theorem jw3 : Tryz.prog.inPlace 6 = ["internal/reflectlite.ValueOf", "internal/reflectlite.Swapper", "(internal/reflectlite.Value).Len"] := by kernel_rfl
theorem jw4 : Tryz.prog.unfollowed 6 = true := by kernel_rfl
theorem jw5 : Tryz.prog.recurses 6 = true := by kernel_rfl
theorem jw6 : Tryz.prog.varsNamed 6 = [] := by kernel_rfl
end Go.Proofs.YtcglbpjpbjaecaaGreat
