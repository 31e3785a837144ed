/- Joined texts of the walk, made small by a program. -/
import Derived.Test.YtdhjplmjpjfjnaaGreatHY4
import Derived.Test.YtdhjplmjpjfjnaaGreatHY1
import Derived.Test.YtdhjplmjpjfjnaaGreatHCodeT1
import Derived.Test.YtdhjplmjpjfjnaaGreatHD2
import Derived.Test.YtdhjplmjpjfjnaaGreatHP5
import Derived.Test.YtdhjplmjpjfjnaaGreatHY2
set_option linter.unusedSimpArgs false
set_option linter.unusedVariables false
namespace Go.Proofs.YtdhjplmjpjfjnaaGreat.Av
open Go
set_option maxHeartbeats 8000000
set_option maxRecDepth 100000
theorem pN:∀ l:List az,AV.frzL (aM l)=aM l
 | []=>rfl
 | x::l=>by
   have ih:=pN l
   unfold aM at ih ⊢
   rw [List.flatMap_cons]
   show AV.frzL (.int .i64 x.id::dnA x.nm::atR x.av::l.flatMap zp)=_
   simp only [AV.frzL,AV.frz,ih]
   unfold atR
   simp only [AV.frz,bc,gK];rfl
end Go.Proofs.YtdhjplmjpjfjnaaGreat.Av
