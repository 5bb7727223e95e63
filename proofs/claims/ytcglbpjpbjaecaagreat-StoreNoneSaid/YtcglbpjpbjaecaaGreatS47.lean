import Derived.Test.YtcglbpjpbjaecaaGreatS16
import Derived.Test.YtcglbpjpbjaecaaGreatS15
import Derived.Test.YtcglbpjpbjaecaaGreatS41
import Derived.Test.YtcglbpjpbjaecaaGreatS44
import Derived.Test.YtcglbpjpbjaecaaGreatS45
import Derived.Test.YtcglbpjpbjaecaaGreatS46
set_option linter.unusedVariables false
set_option linter.unusedSimpArgs false
namespace Go.Proofs.YtcglbpjpbjaecaaGreat.Ru
open Go Go.Ab Go.RowKit
set_option maxRecDepth 100000
theorem Strun210 : (exTabM Pg FT hdW (orMemo Sh.keysHm (allMemoC [Stm173, Stm189, Stm190, Stm191, Stm192, Stm194, Stm195, Stm196, Stm197, Stm199, Stm201, Stm204, Stm205, Stm206, Stm207, Stm209])) pu 60).ex (V × HT) Stm210.f Stm210.args ⟨Stm210.H.next, Stm210.H.next, Stm210.H.tr⟩ (pairP [(0, 3646)]) = some (Stm210.v, Stm210.H') := by kernel_rfl
theorem Stmok210 (hh : HdOk Pg hd) : MemoOk Pg Stm210 := memo_ofP okP tabOk (hdW_ok hh) (orMemo_ok Sh.keysHm_ok (allMemoC_ok (l := [Stm173, Stm189, Stm190, Stm191, Stm192, Stm194, Stm195, Stm196, Stm197, Stm199, Stm201, Stm204, Stm205, Stm206, Stm207, Stm209]) ⟨Stmok173 hh, Stmok189 hh, Stmok190 hh, Stmok191 hh, Stmok192 hh, Stmok194 hh, Stmok195 hh, Stmok196 hh, Stmok197 hh, Stmok199 hh, Stmok201 hh, Stmok204 hh, Stmok205 hh, Stmok206 hh, Stmok207 hh, Stmok209 hh, trivial⟩)) [(0, 3646)] (own_of Stown405) Strun210
end Go.Proofs.YtcglbpjpbjaecaaGreat.Ru
