/- Laws that the proofs of this seat share, part 5. -/
import Derived.Test.YtcghlfepfcagbaaGreatG4
import Derived.RangeFuncBox
import Derived.RangeFuncLeaves
import Derived.Shelf.Abstract
import Derived.WalkKit
import Derived.OwnWalkIn
import Derived.TacticsInMore
import Derived.LoopNIn
import Derived.LoopIn
import Derived.Test.YtcghlfepfcagbaaGreatProg
namespace Go.Proofs.YtcghlfepfcagbaaGreat
open Go Go.Jog Go.RowKit Go.Shelf
attribute [local go_sem] Oper.semAt_some

end Go.Proofs.YtcghlfepfcagbaaGreat
