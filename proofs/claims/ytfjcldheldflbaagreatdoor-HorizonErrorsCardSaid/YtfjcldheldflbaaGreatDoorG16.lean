/- Laws that the proofs of this seat share, part 16. -/
import Derived.Test.YtfjcldheldflbaaGreatDoorG15
import Derived.Test.YtfjcldheldflbaaGreatDoorShelf
