/- thin -/
-- Written by a program of this session (mp.py, split0.py).
import Derived.Test.YtldlkbjbfgieeaaGreatDoorKq
import Derived.Test.YtldlkbjbfgieeaaGreatDoorNum
import Derived.Test.YtldlkbjbfgieeaaGreatDoorNm
import Derived.Test.YtldlkbjbfgieeaaGreatDoorLl
import Derived.Test.YtldlkbjbfgieeaaGreatDoorRe
namespace Go.Proofs.YtldlkbjbfgieeaaGreatDoor.Q
end Go.Proofs.YtldlkbjbfgieeaaGreatDoor.Q
