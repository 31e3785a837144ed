/- Joined texts of the walk, made small by a program. -/
import Derived.Test.YtkkgmgmgcgiffaaGreatDoorUS2
import Derived.Test.YtkkgmgmgcgiffaaGreatDoorUS1
set_option linter.unusedSimpArgs false
set_option linter.unusedVariables false
namespace Go.Proofs.YtkkgmgmgcgiffaaGreatDoor.Av
open Go
variable {L:List Blk} {K:AV→List Blk→Prop}
set_option maxHeartbeats 8000000
set_option maxRecDepth 100000
theorem Ps {syn:Int} {a b:List UInt8} (h:K (.tup [.int .i64 ((k7 syn a b).getD 0),.bool (k7 syn a b).isSome]) L):ad Tryz.prog 45 [.int .i64 syn,.str a,.str b] L K:=by
 refine Pr ?_
 revert h
 rcases k7 syn a b with _|c<;>exact fun h=>h
theorem V4 {syn:Int} {v:List UInt8} (h:K (.tup [.str ((bU syn v).getD []),.bool (bU syn v).isSome]) L):ad Tryz.prog 38 [.int .i64 syn,.str v] L K:=by
 refine dN ?_
 revert h
 rcases bU syn v with _|c<;>exact fun h=>h
end Go.Proofs.YtkkgmgmgcgiffaaGreatDoor.Av
