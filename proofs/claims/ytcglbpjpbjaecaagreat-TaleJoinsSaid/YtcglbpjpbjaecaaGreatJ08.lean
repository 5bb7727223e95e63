import Derived.Test.YtcglbpjpbjaecaaGreatJ05
import Derived.OpenShut
import Derived.SizedLaws
set_option linter.unusedVariables false
set_option linter.unusedSimpArgs false
namespace Go.Ab
open Go Go.RowKit Go.ChangeShapes
variable {P:Program}
mutual
def good (M:Nat):V→Bool
 | .bool _=>true
 | .int k n=>(Lit.int k n).wf
 | .str s=>decide (s.length≤M)
 | .agg l=>goods M l
 | _=>false
def goods (M:Nat):List V→Bool
 | []=>true
 | v :: l=>good M v && goods M l
end
section
variable {H:Type} {enc:TypeId × Value→H} {w w':World} {base base':Nat} {spare spare':Nat→Bool} {held held':Bool}
end
end Go.Ab
namespace Go.Ab
open Go Go.RowKit
variable {P:Program}
end Go.Ab
