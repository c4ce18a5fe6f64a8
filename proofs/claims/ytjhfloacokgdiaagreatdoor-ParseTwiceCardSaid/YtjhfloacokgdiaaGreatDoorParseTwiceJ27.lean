/- Texts of ParseTwice, joined. -/
import Derived.Test.YtjhfloacokgdiaaGreatDoorParseTwiceJ26
set_option maxRecDepth 100000
set_option maxHeartbeats 20000000
set_option linter.all false
namespace Go.Proofs.YtjhfloacokgdiaaGreatDoor
open Go Go.Vm
theorem c7V (s:Str):E env (.call 4 [.str s]) []=some (.ret (.bool true) []):=b37.ok (c5c s)
end Go.Proofs.YtjhfloacokgdiaaGreatDoor
