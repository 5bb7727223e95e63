import Derived.Test.YtdfgfbammkojoaaRows
import Derived.KernelRfl
namespace Go.Proofs.Ytdfgfbammkojoaa
open Go
set_option maxRecDepth 100000
theorem jf1 : laidOutB Try.prog = true := by kernel_rfl
theorem jf2 : mapsRowed Try.prog = true := by kernel_rfl
end Go.Proofs.Ytdfgfbammkojoaa
