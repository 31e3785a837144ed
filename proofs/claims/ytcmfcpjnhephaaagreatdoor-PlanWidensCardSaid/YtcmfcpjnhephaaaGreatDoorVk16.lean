/- Joined texts of the walk, made small by a program. -/
import Derived.Test.YtcmfcpjnhephaaaGreatDoorVk5
import Derived.Test.YtcmfcpjnhephaaaGreatDoorVk13
import Derived.Test.YtcmfcpjnhephaaaGreatDoorVk11
import Derived.Test.YtcmfcpjnhephaaaGreatDoorVk4
import Derived.Test.YtcmfcpjnhephaaaGreatDoorRows
import Derived.KernelRfl
import Derived.Test.YtcmfcpjnhephaaaGreatDoorVk8
import Derived.Test.YtcmfcpjnhephaaaGreatDoorVk9
import Derived.Test.YtcmfcpjnhephaaaGreatDoorVk10
import Derived.Test.YtcmfcpjnhephaaaGreatDoorVk12
set_option linter.unusedSimpArgs false
set_option linter.unusedVariables false
namespace Go.Proofs.YtcmfcpjnhephaaaGreatDoor.Av
open Go Go.ChangeShapes Go.WideShapes Go.ChangeAt
variable {F N:Nat}{P:Program}{t:TypeId}{X:Type}
set_option maxHeartbeats 8000000
set_option maxRecDepth 100000
def RdW(F:Nat)(P:Program)(t:TypeId){X:Type}(ec:X->List AV)(ok:X->Prop):Prop :=
 ∀(H:Type) (enc:TypeId×Value->H) (w:World) (fuel:Nat) (cs:List Value) (x:DataW H×List MemPlace),fuel<F ->
  DataW.trod enc P w 0 (λ_=>true) true fuel t cs=some x->(∀n∈x.1.weights P t,n<=reachBytes)->∃y,ok y/\VRL (mM w) (ec y) cs
theorem RdW.mono{G:Nat}{ec:X->List AV}{ok:X->Prop}(h:RdW G P t ec ok)(hf:F<=G):RdW F P t ec ok:=λH enc w fuel cs x hF hx hb=>h H enc w fuel cs x (by omega) hx hb
theorem RdZ.w{ec:X->List AV}{ok:X->Prop}(h:RdZ P t ec ok)(F:Nat):RdW F P t ec ok:=λH enc w fuel cs x _ hx hb=>h H enc w fuel cs x hx hb
theorem RdW.z{ec:X->List AV}{ok:X->Prop}(h:∀F,RdW F P t ec ok):RdZ P t ec ok:=λH enc w fuel cs x hx hb=>h (fuel+1) H enc w fuel cs x (Nat.lt_succ_self _) hx hb
theorem RdW.map{Y:Type}{ec:X->List AV}{ok:X->Prop}{ec':Y->List AV}{ok':Y->Prop}(h:RdW F P t ec ok)(m:∀y,ok y->∃z,ok' z/\ec' z=ec y):RdW F P t ec' ok':=λH enc w fuel cs x hF hx hb=>by obtain⟨y,h1,h2⟩:=h H enc w fuel cs x hF hx hb;obtain⟨z,h3,h4⟩:=m y h1;exact⟨z,h3,by rw[h4];exact h2⟩
theorem Zm{e:TypeId}{ec:X->List AV}{ok:X->Prop}(ht:P.underlying t=some (.slice e))(he:RdW F P e ec ok)(hz':decide (0<P.cellsOf e)=true):
  RdW (F+1) P t (λl:List X=>[.sl (l.flatMap ec) l.length none]) (λl=>l.length<=maxLen/\∀y∈l,ok y):=λH enc w fuel cs x hF hx hwt=>by
 have hz:0<P.cellsOf e:=of_decide_eq_true hz';rcases DataW.trod_slice ht hx with⟨rfl,_⟩|⟨a,len,cap,elems,rest,n,hfu,rfl,rfl,_,hlc,hcap,hel,hget,hsp,_⟩;exact⟨[],⟨by simp,by simp⟩,by simp only[VRL,VR];exact⟨_,_,rfl,⟨none,0,rfl,ag9 _,by simp,.inl ⟨rfl,rfl,rfl⟩⟩,rfl⟩⟩;have hspot:cap≠0->a.spot=none:=λhc=>by
  have first:∀r:Option (DataW H×List MemPlace),r≠none->(w.cells? 0 (a.add (0*P.cellsOf e)) (P.cellsOf e)).bind (DataW.trod enc P w 0 (λ_=>true) true n e)=r->a.spot=none:=λr hr h1=>by obtain⟨q,rfl⟩:=Option.ne_none_iff_exists'.1 hr;rw[aiY]at h1;obtain⟨cs',h2,_⟩:=h1;obtain⟨h6,h7⟩:=vR h2;have h8:=h7 0 hz;obtain⟨v,hv⟩:∃v,cs'[0]?=some v:=⟨cs'[0]'(by omega),ahn _⟩;rw[hv]at h8;have:=Uc h8;simpa[Addr.add]using this
  by_cases hl:len=0;obtain⟨r1,r2⟩:=hsp rfl;exact first rest[0]? (by rw[ahn (by omega)];simp) (by simpa[hl]using r2 0 (by omega))
  exact first elems[0]? (by rw[ahn (by omega)];simp) (hget 0 (by omega))
 have each:∀i,i<len->∃y,ok y/\(ec y).length=P.cellsOf e/\a.spot=none/\VRC (mM w) (ec y) a.block (a.off+i*P.cellsOf e):=λi hi=>by
  have h1:=hget i hi;obtain⟨q,hq⟩:∃q,elems[i]?=some q:=⟨elems[i]'(by omega),ahn _⟩;rw[hq,aiY]at h1;obtain⟨cs',h2,h3⟩:=h1;obtain⟨y,h4,h5⟩:=he H enc w n cs' q (by omega) h3 (λm hm=>hwt m (by simp only[DataW.weights,ht];refine aii _ (aiD _ (pQ (d:=q.1) ?_ m hm));exact ahd.2 ⟨q,ahN hq,rfl⟩))
  obtain⟨h6,h7⟩:=vR h2;have hl:=h5.length;have hsp:a.spot=none:=hspot (by omega);refine⟨y,h4,by omega,hsp,VRC.of_get λj u hu=>?_⟩;obtain⟨v,h8,h9⟩:=h5.get hu;refine⟨v,?_,h9⟩;have hj:j<P.cellsOf e:=by have:=(ag8.1 hu).1;omega
  have h10:=h7 j hj;rw[h8]at h10;rw[<- h10];have hadd:∀k,a.add k=⟨a.block,a.off+k,none⟩:=λk=>by obtain⟨b,o,s⟩:=a;simp only at hsp;subst hsp;exact Addr.add_mk b o k
  rw[hadd,Addr.add_mk];rfl
 obtain⟨ys,h1,h2⟩:=Ox _ len each;refine⟨ys,⟨by omega,λy hy=>?_⟩,?_⟩;obtain⟨i,hi⟩:=ajW hy;exact(h2 i y hi).1;simp only[VRL];refine⟨_,[],rfl,?_,rfl⟩;simp only[VR];refine⟨_,_,by rw[h1],by omega,by simp,?_⟩;by_cases hc:cap=0;have:ys=[]:=by have:ys.length=0:=(by omega);simpa using this
 subst this;exact .inl ⟨rfl,hc,rfl⟩;refine .inr ⟨a.block,a.off,?_,So λi y hy=>⟨(h2 i y hy).2.1,(h2 i y hy).2.2.2⟩⟩;have hs:a.spot=none:=hspot hc;cases a;simp only at hs⊢;rw[hs]
def aeM(F:Nat)(P:Program)(N o:Nat)(fs:List Field){X:Type}(ec:X->List AV)(ok:X->Prop):Prop :=
 ∀(H:Type) (enc:TypeId×Value->H) (w:World) (n:Nat) (cs:List Value),n<F->cs.length=N ->
  (∀f∈fs,∃x,DataW.trod enc P w 0 (λ_=>true) true n f.type ((cs.drop f.offset).take (P.cellsOf f.type))=some x/\∀m∈x.1.weights P f.type,m<=reachBytes)->∃y,ok y/\VRL (mM w) (ec y) (cs.drop o)
theorem abe{o:Nat}(h:o=N):aeM F P N o [] (λ_:Unit=>[]) (λ_=>True):=λH enc w n cs _ hl _ =>
 ⟨(),trivial,by simp[VRL,h,<- hl]⟩
theorem sd{o sz:Nat}{f:Field}{fs:List Field}{Y:Type}{ec:X->List AV}{ok:X->Prop}{ec':Y->List AV}{ok':Y->Prop}(hf:f.offset=o)(hz:P.cellsOf f.type=sz)(h:RdW F P f.type ec ok)(r:aeM F P N (o+sz) fs ec' ok'):
  aeM F P N o (f::fs) (λy:X×Y=>ec y.1++ec' y.2) (λy=>ok y.1/\ok' y.2):=λH enc w n cs hF hl hx=>by
 obtain⟨x,h1,hw⟩:=hx f (by simp);obtain⟨y,h2,h3⟩:=h H enc w n _ x hF h1 hw;obtain⟨z,h4,h5⟩:=r H enc w n cs hF hl λg hg=>hx g (by simp[hg])
 refine⟨(y,z),⟨h2,h4⟩,?_⟩;have:cs.drop o=(cs.drop f.offset).take (P.cellsOf f.type)++cs.drop (o+sz):=by rw[hf,hz,<- ajz,aiQ]
 rw[this];exact h3.append h5
theorem WU{fs:Array Field}{ec:X->List AV}{ok:X->Prop}(ht:P.underlying t=some (.struct fs))(hN:P.cellsOf t=N)(r:aeM F P N 0 fs.toList ec ok):RdW (F+1) P t ec ok:=λH enc w fuel cs x hF hx hwt=>by
 subst hN;obtain⟨xs,n,hfu,rfl,hl,hlen,hf⟩:=DataW.trod_struct ht hx;obtain⟨y,h1,h2⟩:=r H enc w n cs (by omega) hl λf hfm=>by
  obtain⟨i,hi⟩:=ajW hfm;have hi':fs[i]?=some f:=(by simpa using hi);rw[hf i f hi'];have hlt:i<xs.length:=by rw[hlen];have:=(ag8.1 hi).1;simpa using this
  refine⟨xs[i],ahn hlt,λm hm=>hwt m ?_⟩;simp only[DataW.weights,ht];refine DataW.weights_mem_each (j:=i) (t:=f.type) (d:=xs[i].1) ?_ ?_ m hm;rw[ahS,hi];rfl;rw[ahS,ahn hlt];rfl
 exact⟨y,h1,by simpa using h2⟩
set_option maxRecDepth 1000000
theorem TmS.typ{tm:TMp}(h:TmS aE tm){n:List UInt8}{ty:Typ}(hg:cy tm (af n)=some ty):fw aE n=some ty:=by obtain⟨c,hc⟩:=kV hg;obtain⟨m,h1,h2,_⟩:=h.ty _ hc;simp only at h1 h2;rw[<- h1];unfold fw;rw[h2]
structure ag1(n v:List UInt8)(ps:List Pc):Prop where
 n:a7 n
 len:(ps.length:Int)<=9223372036854775807
open Go Go.ChangeShapes
theorem QY:RdZ Tryz.prog 22 (λl:List (List UInt8)=>[LE l]) (λl=>l.length<=maxLen/\∀v∈l,a7 v):=
 (Iy Tryz.underlying22 (Mx Tryz.underlying9) (by kernel_rfl)).map fun l hl=>⟨l,⟨hl.1,fun v hv=>by have:=hl.2 v hv;simp only [reachBytes] at this;unfold a7;omega⟩,by
  have e:∀l:List (List UInt8),l.map AV.str=l.flatMap λr=>[AV.str r]:=λl=>by
   induction l with
   |nil=>rfl
   |cons a l ih=>rw[ahl,aif,ih];rfl
  simp only[LE,e l]⟩
theorem Zl:RdZ Tryz.prog 78 atA (λa=>a7 a.1/\(a.2.length:Int)<=9223372036854775807):=
 (vD Tryz.underlying78 (N:=2) (by kernel_rfl) (fv (sz:=1) rfl (by kernel_rfl) (Mx Tryz.underlying9) (fv (sz:=1) rfl (by kernel_rfl) QY (My rfl)))).map
  λy hy=>⟨(y.1,y.2.1),⟨by have:=hy.1;simp only[reachBytes]at this;unfold a7;simp only;omega,by have:=hy.2.1.1;simp only[maxLen]at this⊢;omega⟩,rfl⟩
theorem Zk:RdZ Tryz.prog 46 (λl=>[.sl (bo l) l.length none]) adh :=
 (Iy Tryz.underlying46 Zl (by kernel_rfl)).map λl hl=>⟨l,⟨by have:=hl.1;simp only[maxLen]at this;omega,hl.2⟩,rfl⟩
theorem adW:RdZ Tryz.prog 87 RL (λe=>adh e.2/\-9223372036854775808<=e.1/\e.1<=9223372036854775807):=
 (vD Tryz.underlying87 (N:=2) (by kernel_rfl) (fv (sz:=1) rfl (by kernel_rfl) (Rd.z (QZ Tryz.underlying3)) (fv (sz:=1) rfl (by kernel_rfl) Zk (My rfl)))).map
  λy hy=>⟨(y.1,y.2.1),⟨hy.2.1,by have:=hy.1;simp only[IntKind.min,IntKind.max,IntKind.bits,IntKind.signed]at this;simpa using this⟩,rfl⟩
theorem abd:RdZ Tryz.prog 23 (λl=>[.sl (cw l) l.length none]) U9 :=
 (Iy Tryz.underlying23 adW (by kernel_rfl)).map λl hl=>⟨l,⟨by have:=hl.1;simp only[maxLen]at this;omega,λe he=>(hl.2 e he).1,λe he=>(hl.2 e he).2⟩,rfl⟩
theorem afn:RdZ Tryz.prog 83 pcA (λp=>(p.2.length:Int)<=140737488351232):=
 (vD Tryz.underlying83 (N:=2) (by kernel_rfl) (fv (sz:=1) rfl (by kernel_rfl) (Rd.z (QZ Tryz.underlying3)) (fv (sz:=1) rfl (by kernel_rfl) (Mx Tryz.underlying9) (My rfl)))).map
  λy hy=>⟨(y.1,y.2.1),by have:=hy.2.1;simp only[reachBytes]at this;simp only;omega,rfl⟩
open Go Go.ChangeShapes
theorem TQ:∀l:List Flt,l.flatMap fA=fsA l
 |[]=>rfl
 |f::r=>by rw[aif,TQ r,fsA]
theorem adV:RdZ Tryz.prog 64 fA ac9:=RdW.z λF=>by
 induction F with
 |zero=>exact λH enc w fuel cs x hF=>absurd hF (Nat.not_lt_zero _)
 | succ F ih =>
   exact(WU Tryz.underlying64 (N:=5) (by kernel_rfl) (sd (sz:=1) rfl (by kernel_rfl) (RdZ.w (Rd.z (QZ Tryz.underlying3)) F) (sd (sz:=1) rfl (by kernel_rfl) (RdZ.w (Mx Tryz.underlying9) F) (sd (sz:=1) rfl (by kernel_rfl) (RdZ.w (Mx Tryz.underlying9) F)
    (sd (sz:=1) rfl (by kernel_rfl) (RdZ.w (Iy Tryz.underlying24 afn (by kernel_rfl)) F) (sd (sz:=1) rfl (by kernel_rfl) ((Zm Tryz.underlying62 ih (by kernel_rfl)).mono (Nat.le_succ F)) (abe rfl))))))).map
    λy hy=>⟨.mk y.1 y.2.1 y.2.2.1 y.2.2.2.1 y.2.2.2.2.1,⟨hy.2.1,hy.2.2.1,hy.2.2.2.1.1,λp hp=>by have:=hy.2.2.2.1.2 p hp;omega,hy.2.2.2.2.1.1,U7 hy.2.2.2.2.1.2⟩,by rw[Ly];simp only[TQ,qA,ahL,ahJ,ahG]⟩
abbrev aga:=List (List UInt8)×List bd×Flt×Int
abbrev agz(c:aga):List AV:=.sl (c.1.map AV.str) c.1.length none :: .sl (cw c.2.1) c.2.1.length none::(fA c.2.2.1++[.int .i64 c.2.2.2])
theorem WT:RdZ Tryz.prog 66 agz (λc=>(∀n∈c.1,a7 n)/\(c.1.length:Int)<=9223372036854775807/\U9 c.2.1/\ac9 c.2.2.1):=
 (vD Tryz.underlying66 (N:=8) (by kernel_rfl) (fv (sz:=1) rfl (by kernel_rfl) QY (fv (sz:=1) rfl (by kernel_rfl) abd (fv (sz:=5) rfl (by kernel_rfl) adV (fv (sz:=1) rfl (by kernel_rfl) (Rd.z (QZ Tryz.underlying3)) (My rfl)))))).map
  λy hy=>⟨(y.1,y.2.1,y.2.2.1,y.2.2.2.1),⟨hy.1.2,by have:=hy.1.1;simp only[maxLen]at this;simp only;omega,hy.2.1,hy.2.2.1⟩,by simp only[LE,ahL,ahJ,ahG]⟩
end Go.Proofs.YtcmfcpjnhephaaaGreatDoor.Av
