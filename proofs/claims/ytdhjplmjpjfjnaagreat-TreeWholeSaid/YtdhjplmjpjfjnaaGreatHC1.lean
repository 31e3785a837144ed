/- Joined texts of the walk, made small by a program. -/
import Derived.Test.YtdhjplmjpjfjnaaGreatHP5
import Derived.Test.YtdhjplmjpjfjnaaGreatHO1
import Derived.Test.YtdhjplmjpjfjnaaGreatHP4
set_option linter.unusedSimpArgs false
set_option linter.unusedVariables false
namespace Go.Proofs.YtdhjplmjpjfjnaaGreat.Av
open Go
set_option maxHeartbeats 8000000
set_option maxRecDepth 100000
inductive Nd where
 | mk (tag:Int) (data:List UInt8) (kids:List Nd)
def Nd.tag:Nd→Int
 | .mk t _ _=>t
def Nd.data:Nd→List UInt8
 | .mk _ d _=>d
def Nd.kids:Nd→List Nd
 | .mk _ _ k=>k
abbrev OW:Nd:=.mk 0 [] []
instance:Inhabited Nd:=⟨OW⟩
end Go.Proofs.YtdhjplmjpjfjnaaGreat.Av
