/- Joined texts of the walk, made small by a program. -/
import Derived.Test.YtdnfjhflkkpokaaGreatDoorKk11
import Derived.Test.YtdnfjhflkkpokaaGreatDoorKk4
import Derived.Test.YtdnfjhflkkpokaaGreatDoorRows
import Derived.KernelRfl
import Derived.Test.YtdnfjhflkkpokaaGreatDoorKk7
import Derived.Test.YtdnfjhflkkpokaaGreatDoorKk5
import Derived.Test.YtdnfjhflkkpokaaGreatDoorKk9
set_option linter.unusedSimpArgs false
set_option linter.unusedVariables false
namespace Go.Proofs.YtdnfjhflkkpokaaGreatDoor.Av
open Go
set_option maxHeartbeats 8000000
set_option maxRecDepth 100000
abbrev Cls:=List UInt8×List UInt8×Int×List (List UInt8)×List (List UInt8)
abbrev ad5:Cls:=([],[],0,[],[])
def aid(cs:List Cls)(j:Nat):Prop:=ix (cs.getD j ad5).1=true/\(∀c∈cs.take j,ag c.1≠ag (cs.getD j ad5).1)/\((cs.getD j ad5).2.1≠[]->∃w,w<j/\ag (cs.getD w ad5).1=ag (cs.getD j ad5).2.1)
def aie(cs:List Cls):Prop:=∀j,j<cs.length->aid cs j
structure ajk(cs:List Cls):Prop where
 d:aie cs
 l:cs.length<=40
 r:∀c∈cs,a8 c.1/\a8 c.2.1/\c.2.2.2.1.length<=2000000/\c.2.2.2.2.length<=2000000/\(∀v∈c.2.2.2.1,a8 v)/\∀v∈c.2.2.2.2,a8 v
end Go.Proofs.YtdnfjhflkkpokaaGreatDoor.Av
