import Derived.Test.YtdfgfbammkojoaaRows
import Derived.KernelRfl
namespace Go.Proofs.Ytdfgfbammkojoaa
open Go
set_option maxRecDepth 100000
theorem jg3 : Try.prog.inPlace 3 = [] := by kernel_rfl
theorem jg4 : Try.prog.unfollowed 3 = true := by kernel_rfl
theorem jg5 : Try.prog.recurses 3 = true := by kernel_rfl
theorem jg6 : Try.prog.varsNamed 3 = [] := by kernel_rfl
end Go.Proofs.Ytdfgfbammkojoaa
