import Derived.Test.YtcglbpjpbjaecaaGreatRows
import Derived.KernelRfl
namespace Go.Proofs.YtcglbpjpbjaecaaGreat
open Go
set_option maxRecDepth 100000
theorem jf3 : Tryz.prog.inPlace 3 = [] := by kernel_rfl
theorem jf4 : Tryz.prog.unfollowed 3 = true := by kernel_rfl
theorem jf5 : Tryz.prog.recurses 3 = true := by kernel_rfl
theorem jf6 : Tryz.prog.varsNamed 3 = [] := by kernel_rfl
end Go.Proofs.YtcglbpjpbjaecaaGreat
