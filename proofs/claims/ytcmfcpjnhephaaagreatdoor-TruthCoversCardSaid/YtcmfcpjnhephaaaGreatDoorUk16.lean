/- Joined texts of the walk, made small by a program. -/
import Derived.Test.YtcmfcpjnhephaaaGreatDoorUk5
import Derived.Test.YtcmfcpjnhephaaaGreatDoorUk14
import Derived.Test.YtcmfcpjnhephaaaGreatDoorUk12
set_option linter.unusedSimpArgs false
set_option linter.unusedVariables false
namespace Go.Proofs.YtcmfcpjnhephaaaGreatDoor.Av
open Go Go.ChangeShapes Go.WideShapes Go.ChangeAt
variable {F N:Nat}{P:Program}{t:TypeId}{X:Type}
set_option maxHeartbeats 8000000
set_option maxRecDepth 100000
def RdW(F:Nat)(P:Program)(t:TypeId){X:Type}(ec:X->List AV)(ok:X->Prop):Prop :=
 ∀(H:Type) (enc:TypeId×Value->H) (w:World) (fuel:Nat) (cs:List Value) (x:DataW H×List MemPlace),fuel<F ->
  DataW.trod enc P w 0 (λ_=>true) true fuel t cs=some x->(∀n∈x.1.weights P t,n<=reachBytes)->∃y,ok y/\VRL (oH w) (ec y) cs
theorem RdW.mono{G:Nat}{ec:X->List AV}{ok:X->Prop}(h:RdW G P t ec ok)(hf:F<=G):RdW F P t ec ok:=λH enc w fuel cs x hF hx hb=>h H enc w fuel cs x aoJ hx hb
theorem RdZ.w{ec:X->List AV}{ok:X->Prop}(h:RdZ P t ec ok)(F:Nat):RdW F P t ec ok:=λH enc w fuel cs x _ hx hb=>h H enc w fuel cs x hx hb
theorem RdW.z{ec:X->List AV}{ok:X->Prop}(h:∀F,RdW F P t ec ok):RdZ P t ec ok:=λH enc w fuel cs x hx hb=>h (fuel+1) H enc w fuel cs x (Nat.lt_succ_self _) hx hb
theorem RdW.map{Y:Type}{ec:X->List AV}{ok:X->Prop}{ec':Y->List AV}{ok':Y->Prop}(h:RdW F P t ec ok)(m:∀y,ok y->∃z,ok' z/\ec' z=ec y):RdW F P t ec' ok':=λH enc w fuel cs x hF hx hb=>by obtain⟨y,h1,h2⟩:=h H enc w fuel cs x hF hx hb;obtain⟨z,h3,h4⟩:=m y h1;exact⟨z,h3,by rw[h4];exact h2⟩
theorem adD{e:TypeId}{ec:X->List AV}{ok:X->Prop}(ht:P.underlying t=some (.slice e))(he:RdW F P e ec ok)(hz':decide (0<P.cellsOf e)=true):
  RdW (F+1) P t (λl:List X=>[.sl (l.flatMap ec) l.length none]) (λl=>l.length<=maxLen/\∀y∈l,ok y):=λH enc w fuel cs x hF hx hwt=>by
 have hz:0<P.cellsOf e:=of_decide_eq_true hz';rcases DataW.trod_slice ht hx with⟨rfl,_⟩|⟨a,len,cap,elems,rest,n,hfu,rfl,rfl,_,hlc,hcap,hel,hget,hsp,_⟩;exact⟨[],⟨aoK,aoK⟩,by simp only[VRL,VR];exact⟨_,_,rfl,⟨none,0,rfl,alr _,aoK,.inl ⟨rfl,rfl,rfl⟩⟩,rfl⟩⟩;have hspot:cap≠0->a.spot=none:=λhc=>by
  have first:∀r:Option (DataW H×List MemPlace),r≠none->(w.cells? 0 (a.add (0*P.cellsOf e)) (P.cellsOf e)).bind (DataW.trod enc P w 0 (λ_=>true) true n e)=r->a.spot=none:=λr hr h1=>by obtain⟨q,rfl⟩:=Option.ne_none_iff_exists'.1 hr;rw[ani]at h1;obtain⟨cs',h2,_⟩:=h1;obtain⟨h6,h7⟩:=yb h2;have h8:=h7 0 hz;obtain⟨v,hv⟩:∃v,cs'[0]?=some v:=⟨cs'[0]'aoJ,alH _⟩;rw[hv]at h8;have:=Yb h8;simpa[Addr.add]using this
  by_cases hl:len=0;obtain⟨r1,r2⟩:=hsp rfl;exact first rest[0]? (by rw[alH aoJ];simp) (by simpa[hl]using r2 0 aoJ)
  exact first elems[0]? (by rw[alH aoJ];simp) (hget 0 aoJ)
 have each:∀i,i<len->∃y,ok y/\(ec y).length=P.cellsOf e/\a.spot=none/\VRC (oH w) (ec y) a.block (a.off+i*P.cellsOf e):=λi hi=>by
  have h1:=hget i hi;obtain⟨q,hq⟩:∃q,elems[i]?=some q:=⟨elems[i]'aoJ,alH _⟩;rw[hq,ani]at h1;obtain⟨cs',h2,h3⟩:=h1;obtain⟨y,h4,h5⟩:=he H enc w n cs' q aoJ h3 (λm hm=>hwt m (by simp only[DataW.weights,ht];refine amB _ (amZ _ (rA (d:=q.1) ?_ m hm));exact alt.2 ⟨q,al8 hq,rfl⟩))
  obtain⟨h6,h7⟩:=yb h2;have hl:=h5.length;have hsp:a.spot=none:=hspot aoJ;refine⟨y,h4,aoJ,hsp,VRC.of_get λj u hu=>?_⟩;obtain⟨v,h8,h9⟩:=h5.get hu;refine⟨v,?_,h9⟩;have hj:j<P.cellsOf e:=by have:=(alq.1 hu).1;omega
  have h10:=h7 j hj;rw[h8]at h10;rw[<- h10];have hadd:∀k,a.add k=⟨a.block,a.off+k,none⟩:=λk=>by obtain⟨b,o,s⟩:=a;simp only at hsp;subst hsp;exact Addr.add_mk b o k
  rw[hadd,Addr.add_mk];rfl
 obtain⟨ys,h1,h2⟩:=SF _ len each;refine⟨ys,⟨aoJ,λy hy=>?_⟩,?_⟩;obtain⟨i,hi⟩:=aog hy;exact(h2 i y hi).1;simp only[VRL];refine⟨_,[],rfl,?_,rfl⟩;simp only[VR];refine⟨_,_,by rw[h1],aoJ,aoK,?_⟩;by_cases hc:cap=0;have:ys=[]:=by have:ys.length=0:=aoJ;simpa using this
 subst this;exact .inl ⟨rfl,hc,rfl⟩;refine .inr ⟨a.block,a.off,?_,WA λi y hy=>⟨(h2 i y hy).2.1,(h2 i y hy).2.2.2⟩⟩;have hs:a.spot=none:=hspot hc;cases a;simp only at hs⊢;rw[hs]
def ai6(F:Nat)(P:Program)(N o:Nat)(fs:List Field){X:Type}(ec:X->List AV)(ok:X->Prop):Prop :=
 ∀(H:Type) (enc:TypeId×Value->H) (w:World) (n:Nat) (cs:List Value),n<F->cs.length=N ->
  (∀f∈fs,∃x,DataW.trod enc P w 0 (λ_=>true) true n f.type ((cs.drop f.offset).take (P.cellsOf f.type))=some x/\∀m∈x.1.weights P f.type,m<=reachBytes)->∃y,ok y/\VRL (oH w) (ec y) (cs.drop o)
theorem afv{o:Nat}(h:o=N):ai6 F P N o [] (λ_:Unit=>[]) (λ_=>True):=λH enc w n cs _ hl _ =>
 ⟨(),trivial,by simp[VRL,h,<- hl]⟩
theorem ul{o sz:Nat}{f:Field}{fs:List Field}{Y:Type}{ec:X->List AV}{ok:X->Prop}{ec':Y->List AV}{ok':Y->Prop}(hf:f.offset=o)(hz:P.cellsOf f.type=sz)(h:RdW F P f.type ec ok)(r:ai6 F P N (o+sz) fs ec' ok'):
  ai6 F P N o (f::fs) (λy:X×Y=>ec y.1++ec' y.2) (λy=>ok y.1/\ok' y.2):=λH enc w n cs hF hl hx=>by
 obtain⟨x,h1,hw⟩:=hx f aoK;obtain⟨y,h2,h3⟩:=h H enc w n _ x hF h1 hw;obtain⟨z,h4,h5⟩:=r H enc w n cs hF hl λg hg=>hx g (by simp[hg])
 refine⟨(y,z),⟨h2,h4⟩,?_⟩;have:cs.drop o=(cs.drop f.offset).take (P.cellsOf f.type)++cs.drop (o+sz):=by rw[hf,hz,<- anG,am9]
 rw[this];exact h3.append h5
theorem aa7{fs:Array Field}{ec:X->List AV}{ok:X->Prop}(ht:P.underlying t=some (.struct fs))(hN:P.cellsOf t=N)(r:ai6 F P N 0 fs.toList ec ok):RdW (F+1) P t ec ok:=λH enc w fuel cs x hF hx hwt=>by
 subst hN;obtain⟨xs,n,hfu,rfl,hl,hlen,hf⟩:=DataW.trod_struct ht hx;obtain⟨y,h1,h2⟩:=r H enc w n cs aoJ hl λf hfm=>by
  obtain⟨i,hi⟩:=aog hfm;have hi':fs[i]?=some f:=(by simpa using hi);rw[hf i f hi'];have hlt:i<xs.length:=by rw[hlen];have:=(alq.1 hi).1;simpa using this
  refine⟨xs[i],alH hlt,λm hm=>hwt m ?_⟩;simp only[DataW.weights,ht];refine DataW.weights_mem_each (j:=i) (t:=f.type) (d:=xs[i].1) ?_ ?_ m hm;rw[amc,hi];rfl;rw[amc,alH hlt];rfl
 exact⟨y,h1,by simpa using h2⟩
open Go Go.ChangeShapes
theorem U7:RdZ Tryz.prog 22 (λl:List (List UInt8)=>[F9 l]) (λl=>l.length<=maxLen/\∀v∈l,bv v):=
 (KY Tryz.underlying22 (P8 Tryz.underlying9) aoL).map fun l hl=>⟨l,⟨hl.1,fun v hv=>by have:=hl.2 v hv;simp only [reachBytes] at this;unfold bv;omega⟩,by
  have e:∀l:List (List UInt8),l.map AV.str=l.flatMap λr=>[AV.str r]:=λl=>by
   induction l with
   |nil=>rfl
   |cons a l ih=>rw[alD,amv,ih];rfl
  simp only[F9,e l]⟩
theorem adC:RdZ Tryz.prog 78 atA (λa=>bv a.1/\(a.2.length:Int)<=9223372036854775807):=
 (xQ Tryz.underlying78 (N:=2) aoL (fX (sz:=1) rfl aoL (P8 Tryz.underlying9) (fX (sz:=1) rfl aoL U7 (P9 rfl)))).map
  λy hy=>⟨(y.1,y.2.1),⟨by have:=hy.1;simp only[reachBytes]at this;unfold bv;simp only;omega,by have:=hy.2.1.1;simp only[maxLen]at this⊢;omega⟩,rfl⟩
theorem adB:RdZ Tryz.prog 46 (λl=>[.sl (bc l) l.length none]) ahA :=
 (KY Tryz.underlying46 adC aoL).map λl hl=>⟨l,⟨by have:=hl.1;simp only[maxLen]at this;omega,hl.2⟩,rfl⟩
theorem aif:RdZ Tryz.prog 87 Uo (λe=>ahA e.2/\-9223372036854775808<=e.1/\e.1<=9223372036854775807):=
 (xQ Tryz.underlying87 (N:=2) aoL (fX (sz:=1) rfl aoL (Rd.z (U8 Tryz.underlying3)) (fX (sz:=1) rfl aoL adB (P9 rfl)))).map
  λy hy=>⟨(y.1,y.2.1),⟨hy.2.1,by have:=hy.1;simp only[IntKind.min,IntKind.max,IntKind.bits,IntKind.signed]at this;simpa using this⟩,rfl⟩
theorem afu:RdZ Tryz.prog 23 (λl=>[.sl (cJ l) l.length none]) Zc :=
 (KY Tryz.underlying23 aif aoL).map λl hl=>⟨l,⟨by have:=hl.1;simp only[maxLen]at this;omega,λe he=>(hl.2 e he).1,λe he=>(hl.2 e he).2⟩,rfl⟩
theorem ajI:RdZ Tryz.prog 83 pcA (λp=>(p.2.length:Int)<=140737488351232):=
 (xQ Tryz.underlying83 (N:=2) aoL (fX (sz:=1) rfl aoL (Rd.z (U8 Tryz.underlying3)) (fX (sz:=1) rfl aoL (P8 Tryz.underlying9) (P9 rfl)))).map
  λy hy=>⟨(y.1,y.2.1),by have:=hy.2.1;simp only[reachBytes]at this;simp only;omega,rfl⟩
open Go Go.ChangeShapes
theorem XU:∀l:List Flt,l.flatMap fA=fsA l
 |[]=>rfl
 |f::r=>by rw[amv,XU r,fsA]
theorem aie:RdZ Tryz.prog 64 fA ahu:=RdW.z λF=>by
 induction F with
 |zero=>exact λH enc w fuel cs x hF=>absurd hF (Nat.not_lt_zero _)
 | succ F ih =>
   exact(aa7 Tryz.underlying64 (N:=5) aoL (ul (sz:=1) rfl aoL (RdZ.w (Rd.z (U8 Tryz.underlying3)) F) (ul (sz:=1) rfl aoL (RdZ.w (P8 Tryz.underlying9) F) (ul (sz:=1) rfl aoL (RdZ.w (P8 Tryz.underlying9) F)
    (ul (sz:=1) rfl aoL (RdZ.w (KY Tryz.underlying24 ajI aoL) F) (ul (sz:=1) rfl aoL ((adD Tryz.underlying62 ih aoL).mono (Nat.le_succ F)) (afv rfl))))))).map
    λy hy=>⟨.mk y.1 y.2.1 y.2.2.1 y.2.2.2.1 y.2.2.2.2.1,⟨hy.2.1,hy.2.2.1,hy.2.2.2.1.1,λp hp=>by have:=hy.2.2.2.1.2 p hp;omega,hy.2.2.2.2.1.1,Za hy.2.2.2.2.1.2⟩,by rw[Kk];simp only[XU,iP,al3,al2,alY]⟩
abbrev akr:=List (List UInt8)×List bt×Flt×Int
abbrev akR(c:akr):List AV:=.sl (c.1.map AV.str) c.1.length none :: .sl (cJ c.2.1) c.2.1.length none::(fA c.2.2.1++[.int .i64 c.2.2.2])
theorem aa6:RdZ Tryz.prog 66 akR (λc=>(∀n∈c.1,bv n)/\(c.1.length:Int)<=9223372036854775807/\Zc c.2.1/\ahu c.2.2.1):=
 (xQ Tryz.underlying66 (N:=8) aoL (fX (sz:=1) rfl aoL U7 (fX (sz:=1) rfl aoL afu (fX (sz:=5) rfl aoL aie (fX (sz:=1) rfl aoL (Rd.z (U8 Tryz.underlying3)) (P9 rfl)))))).map
  λy hy=>⟨(y.1,y.2.1,y.2.2.1,y.2.2.2.1),⟨hy.1.2,by have:=hy.1.1;simp only[maxLen]at this;simp only;omega,hy.2.1,hy.2.2.1⟩,by simp only[F9,al3,al2,alY]⟩
end Go.Proofs.YtcmfcpjnhephaaaGreatDoor.Av
