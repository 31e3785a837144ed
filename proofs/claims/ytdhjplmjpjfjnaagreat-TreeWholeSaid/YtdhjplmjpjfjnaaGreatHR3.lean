/- Joined texts of the walk, made small by a program. -/
import Derived.Test.YtdhjplmjpjfjnaaGreatHP4
import Derived.Test.YtdhjplmjpjfjnaaGreatRows
import Derived.KernelRfl
import Derived.Test.YtdhjplmjpjfjnaaGreatHD1
import Derived.Test.YtdhjplmjpjfjnaaGreatHP5
import Derived.Lib.ValidLaws
set_option linter.unusedSimpArgs false
set_option linter.unusedVariables false
namespace Go.Proofs.YtdhjplmjpjfjnaaGreat.Av
open Go
def Cn (x:Nat):Prop:=128≤x∧x<192
instance (x:Nat):Decidable (Cn x):=by unfold Cn;infer_instance
def JI (n b0 b1:Nat):Prop:=n<2∨¬ Cn b1∨(b0 - 192) * 64+b1 - 128<128
def OH (n b0 b1 b2:Nat):Prop:=n<3∨¬ Cn b1∨¬ Cn b2∨((b0 - 224) * 64+b1 - 128) * 64+b2 - 128<2048∨55296≤((b0 - 224) * 64+b1 - 128) * 64+b2 - 128∧((b0 - 224) * 64+b1 - 128) * 64+b2 - 128<57344
def OG (n b0 b1 b2 b3:Nat):Prop:=n<4∨¬ Cn b1∨¬ Cn b2∨¬ Cn b3∨(((b0 - 240) * 64+b1 - 128) * 64+b2 - 128) * 64+b3 - 128<65536∨1114111<(((b0 - 240) * 64+b1 - 128) * 64+b2 - 128) * 64+b3 - 128
instance (n b0 b1:Nat):Decidable (JI n b0 b1):=by unfold JI;infer_instance
instance (n b0 b1 b2:Nat):Decidable (OH n b0 b1 b2):=by unfold OH;infer_instance
instance (n b0 b1 b2 b3:Nat):Decidable (OG n b0 b1 b2 b3):=by unfold OG;infer_instance
end Go.Proofs.YtdhjplmjpjfjnaaGreat.Av
