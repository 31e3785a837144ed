/- Joined texts of the walk, made small by a program. -/
import Derived.Test.YtdhjplmjpjfjnaaGreatHD2
import Derived.Test.YtdhjplmjpjfjnaaGreatHA1
import Derived.Test.YtdhjplmjpjfjnaaGreatHC1
import Derived.Test.YtdhjplmjpjfjnaaGreatHP4
import Derived.Test.YtdhjplmjpjfjnaaGreatRows
import Derived.KernelRfl
import Derived.Test.YtdhjplmjpjfjnaaGreatHT0
set_option linter.unusedSimpArgs false
set_option linter.unusedVariables false
namespace Go.Proofs.YtdhjplmjpjfjnaaGreat.Av
open Go
set_option maxHeartbeats 8000000
set_option maxRecDepth 100000
structure Upd where
 kind:Int
 dn:List Rdn
 to:List Rdn
 attrs:List Atr
abbrev IA:Upd:=⟨0,[],[],[]⟩
abbrev dnA (d:List Rdn):AV:=.sl (d.map ao) d.length none
abbrev sq (u:Upd):List AV:=[.int .i64 u.kind,dnA u.dn,dnA u.to,.sl (bg u.attrs) u.attrs.length none]
def dnB (d:List Rdn):Prop:=d.length≤1100000∧∀ r∈d,r.length≤1100000
end Go.Proofs.YtdhjplmjpjfjnaaGreat.Av
