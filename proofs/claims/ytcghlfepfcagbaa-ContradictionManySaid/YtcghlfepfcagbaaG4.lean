/- Laws that the proofs of this seat share, part 4. -/
import Derived.Test.YtcghlfepfcagbaaG3
import Derived.RangeFuncBox
import Derived.RangeFuncLeaves
import Derived.Shelf.Abstract
import Derived.WalkKit
import Derived.OwnWalkIn
import Derived.TacticsInMore
import Derived.LoopNIn
import Derived.LoopIn
import Derived.Test.YtcghlfepfcagbaaProg
namespace Go.Proofs.Ytcghlfepfcagbaa
open Go Go.Jog Go.RowKit Go.Shelf
attribute [local go_sem] Oper.semAt_some

end Go.Proofs.Ytcghlfepfcagbaa
