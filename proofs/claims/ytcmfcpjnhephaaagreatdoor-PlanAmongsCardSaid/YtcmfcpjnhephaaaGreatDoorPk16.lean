/- Joined texts of the walk, made small by a program. -/
import Derived.Test.YtcmfcpjnhephaaaGreatDoorPk5
import Derived.Test.YtcmfcpjnhephaaaGreatDoorPk15
import Derived.Test.YtcmfcpjnhephaaaGreatDoorPk13
set_option linter.unusedSimpArgs false
set_option linter.unusedVariables false
namespace Go.Proofs.YtcmfcpjnhephaaaGreatDoor.Av
open Go Go.ChangeShapes
set_option maxHeartbeats 8000000
set_option maxRecDepth 100000
theorem Vc:RdZ Tryz.prog 22 (λl:List (List UInt8)=>[G9 l]) (λl=>l.length<=maxLen/\∀v∈l,aR v):=
 (L9 Tryz.underlying22 (Qp Tryz.underlying9) aoB).map fun l hl=>⟨l,⟨hl.1,fun v hv=>by have:=hl.2 v hv;simp only [reachBytes] at this;unfold aR;omega⟩,by
  have e:∀l:List (List UInt8),l.map AV.str=l.flatMap λr=>[AV.str r]:=λl=>by
   induction l with
   |nil=>rfl
   |cons a l ih=>rw[alr,amm,ih];rfl
  simp only[G9,e l]⟩
theorem adj:RdZ Tryz.prog 78 atA (λa=>aR a.1/\(a.2.length:Int)<=9223372036854775807):=
 (yk Tryz.underlying78 (N:=2) aoB (fH (sz:=1) rfl aoB (Qp Tryz.underlying9) (fH (sz:=1) rfl aoB Vc (Qq rfl)))).map
  λy hy=>⟨(y.1,y.2.1),⟨by have:=hy.1;simp only[reachBytes]at this;unfold aR;simp only;omega,by have:=hy.2.1.1;simp only[maxLen]at this⊢;omega⟩,rfl⟩
theorem adi:RdZ Tryz.prog 46 (λl=>[.sl (bp l) l.length none]) ahg :=
 (L9 Tryz.underlying46 adj aoB).map λl hl=>⟨l,⟨by have:=hl.1;simp only[maxLen]at this;omega,hl.2⟩,rfl⟩
theorem ahY:RdZ Tryz.prog 87 R8 (λe=>ahg e.2/\-9223372036854775808<=e.1/\e.1<=9223372036854775807):=
 (yk Tryz.underlying87 (N:=2) aoB (fH (sz:=1) rfl aoB (Rd.z (Yo Tryz.underlying3)) (fH (sz:=1) rfl aoB adi (Qq rfl)))).map
  λy hy=>⟨(y.1,y.2.1),⟨hy.2.1,by have:=hy.1;simp only[IntKind.min,IntKind.max,IntKind.bits,IntKind.signed]at this;simpa using this⟩,rfl⟩
theorem aff:RdZ Tryz.prog 23 (λl=>[.sl (bM l) l.length none]) Y7 :=
 (L9 Tryz.underlying23 ahY aoB).map λl hl=>⟨l,⟨by have:=hl.1;simp only[maxLen]at this;omega,λe he=>(hl.2 e he).1,λe he=>(hl.2 e he).2⟩,rfl⟩
theorem aju:RdZ Tryz.prog 83 pcA (λp=>(p.2.length:Int)<=140737488351232):=
 (yk Tryz.underlying83 (N:=2) aoB (fH (sz:=1) rfl aoB (Rd.z (Yo Tryz.underlying3)) (fH (sz:=1) rfl aoB (Qp Tryz.underlying9) (Qq rfl)))).map
  λy hy=>⟨(y.1,y.2.1),by have:=hy.2.1;simp only[reachBytes]at this;simp only;omega,rfl⟩
open Go Go.ChangeShapes
theorem XR:∀l:List Flt,l.flatMap fA=fsA l
 |[]=>rfl
 |f::r=>by rw[amm,XR r,fsA]
theorem ahX:RdZ Tryz.prog 64 fA aha:=RdW.z λF=>by
 induction F with
 |zero=>exact λH enc w fuel cs x hF=>absurd hF (Nat.not_lt_zero _)
 | succ F ih =>
   exact(aaP Tryz.underlying64 (N:=5) aoB (tW (sz:=1) rfl aoB (RdZ.w (Rd.z (Yo Tryz.underlying3)) F) (tW (sz:=1) rfl aoB (RdZ.w (Qp Tryz.underlying9) F) (tW (sz:=1) rfl aoB (RdZ.w (Qp Tryz.underlying9) F)
    (tW (sz:=1) rfl aoB (RdZ.w (L9 Tryz.underlying24 aju aoB) F) (tW (sz:=1) rfl aoB ((adk Tryz.underlying62 ih aoB).mono (Nat.le_succ F)) (afg rfl))))))).map
    λy hy=>⟨.mk y.1 y.2.1 y.2.2.1 y.2.2.2.1 y.2.2.2.2.1,⟨hy.2.1,hy.2.2.1,hy.2.2.2.1.1,λp hp=>by have:=hy.2.2.2.1.2 p hp;omega,hy.2.2.2.2.1.1,Y6 hy.2.2.2.2.1.2⟩,by rw[Lp];simp only[XR,ir,alN,alL,alJ]⟩
abbrev akk:=List (List UInt8)×List aQ×Flt×Int
abbrev akG(c:akk):List AV:=.sl (c.1.map AV.str) c.1.length none :: .sl (bM c.2.1) c.2.1.length none::(fA c.2.2.1++[.int .i64 c.2.2.2])
theorem aaO:RdZ Tryz.prog 66 akG (λc=>(∀n∈c.1,aR n)/\(c.1.length:Int)<=9223372036854775807/\Y7 c.2.1/\aha c.2.2.1):=
 (yk Tryz.underlying66 (N:=8) aoB (fH (sz:=1) rfl aoB Vc (fH (sz:=1) rfl aoB aff (fH (sz:=5) rfl aoB ahX (fH (sz:=1) rfl aoB (Rd.z (Yo Tryz.underlying3)) (Qq rfl)))))).map
  λy hy=>⟨(y.1,y.2.1,y.2.2.1,y.2.2.2.1),⟨hy.1.2,by have:=hy.1.1;simp only[maxLen]at this;simp only;omega,hy.2.1,hy.2.2.1⟩,by simp only[G9,alN,alL,alJ]⟩
end Go.Proofs.YtcmfcpjnhephaaaGreatDoor.Av
