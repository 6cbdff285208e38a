/- ConnBeats: the engine's run. -/
import Derived.Test.YtigdcbmcepajmaaGreatDoorSeatA
namespace Go.Proofs.YtigdcbmcepajmaaGreatDoor.ConnBeats
open Go.Abs

def rng : List (Int × Int) := [(0, 4294967295), (0, 4294967295), (0, 1), (0, 65535)]
def args : List AV := [.int .u32 (.var 0), .int .u32 (.var 1), .bool (.eq (.var 2) (.lit 1)), .int .u16 (.var 3)]

theorem run : allTrue (callF (env rng) 100000 4 args (initSt 16 [(2, deBruijn)] [])) = true := by decide +kernel

end Go.Proofs.YtigdcbmcepajmaaGreatDoor.ConnBeats
