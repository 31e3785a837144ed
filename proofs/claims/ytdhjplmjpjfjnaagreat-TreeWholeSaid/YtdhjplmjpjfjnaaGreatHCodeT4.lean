/- Joined texts of the walk, made small by a program. -/
import Derived.Test.YtdhjplmjpjfjnaaGreatHP4
import Derived.Test.YtdhjplmjpjfjnaaGreatRows
import Derived.KernelRfl
set_option linter.unusedSimpArgs false
set_option linter.unusedVariables false
set_option maxRecDepth 100000
namespace Go.Proofs.YtdhjplmjpjfjnaaGreat.Av
open Go
def el:LSO:=[Am 2]
def ek:LSO:=[Aa 3 0,o1 4 (.slnil false (tm 3))]
def eh:LSO:=[Am 2]
def ef:LSO:=[o1 5 (.bslice false 1 0 [] []),Aa 6 0,Bv 7 5 6,Aa 2 7]
def be:bh:=⟨8,(.seq (.sreg el [])
 (.seq (.seq (.sreg ek B4)
 (.cond (tm 4) (.seq (.sreg eh [])
 .ret)
 .skip))
 (.seq (.sreg ef B6)
 .ret))),[(.tmp 2)]⟩
attribute [push_cast] el ek eh ef
theorem dV:bz Tryz.prog (fun r i=>if r=3∧i=2 then 2 else 1) 75=some be.raw:=by kernel_rfl
end Go.Proofs.YtdhjplmjpjfjnaaGreat.Av
