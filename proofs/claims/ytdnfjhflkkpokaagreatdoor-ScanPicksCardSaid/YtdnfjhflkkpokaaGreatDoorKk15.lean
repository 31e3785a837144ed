/- Joined texts of the walk, made small by a program. -/
import Derived.Test.YtdnfjhflkkpokaaGreatDoorKk5
import Derived.Test.YtdnfjhflkkpokaaGreatDoorKk12
import Derived.Test.YtdnfjhflkkpokaaGreatDoorKk9
import Derived.Test.YtdnfjhflkkpokaaGreatDoorKk10
import Derived.Test.YtdnfjhflkkpokaaGreatDoorKk4
import Derived.WalkKit
import Derived.ProofKit
import Derived.OpenShut
import Derived.JoinedCond
import Derived.Test.YtdnfjhflkkpokaaGreatDoorRows
import Derived.KernelRfl
import Derived.Test.YtdnfjhflkkpokaaGreatDoorKk8
import Derived.Test.YtdnfjhflkkpokaaGreatDoorKk7
import Derived.Test.YtdnfjhflkkpokaaGreatDoorKk11
set_option linter.unusedSimpArgs false
set_option linter.unusedVariables false
namespace Go.Proofs.YtdnfjhflkkpokaaGreatDoor.Av
open Go Go.ChangeShapes
set_option maxHeartbeats 8000000
set_option maxRecDepth 100000
theorem adU:RdZ Tryz.prog 50 (λl:List (List UInt8)=>[Xl l]) (λl=>l.length<=maxLen):=
 (iH Tryz.underlying50 (qE Tryz.underlying9) amO).map fun l hl=>⟨l,hl.1,by
  have e:∀l:List (List UInt8),l.map AV.str=l.flatMap λr=>[AV.str r]:=λl=>by
   induction l with
   |nil=>rfl
   |cons a l ih=>rw[ajP,aj5,ih];rfl
  simp only[Xl,e l]⟩
theorem aa9:RdZ Tryz.prog 86 atA (λa=>a.1.length<=reachBytes/\a.2.length<=maxLen):=
 (oT Tryz.underlying86 (N:=2) amO (cQ (sz:=1) rfl amO (qE Tryz.underlying9) (cQ (sz:=1) rfl amO adU (FD rfl)))).map
  λy hy=>⟨(y.1,y.2.1),⟨hy.1,hy.2.1⟩,rfl⟩
open Go Go.ChangeShapes
abbrev Wld:=List Upd×List Rdn×List Rul
structure aji(w:Wld):Prop where
 un:(w.1.length:Int)<=9223372036854775807
 uq:∀u∈w.1,aaJ u
 ad:Tg w.2.1/\∀r∈w.2.1,∀a∈r,(a.1.length:Int)<=140737488351232
 rn:(w.2.2.length:Int)<=9223372036854775807
 ra:∀r∈w.2.2,a8 r.at_
open Go Go.ChangeShapes Go.WideShapes Go.ChangeAt Go.RowKit
variable {L:List Blk}{K:ajq}
theorem ZV{P:Program}{t:TypeId}{k:IntKind}(ht:P.underlying t=some (.int k)):Rd P t (λn:Int=>[.int k n]) (λn=>k.min<=n/\n<=k.max):=λH enc w fuel cs x hx=>by obtain⟨n,rfl,_,hw⟩:=DataW.trod_int ht hx;simp only[Lit.wf,ajv,decide_eq_true_eq]at hw;exact⟨n,hw,by simp[VRL,VR]⟩
open Go Go.ChangeShapes Go.WideShapes Go.ChangeAt
theorem adV{P:Program}{t:TypeId}{ts:List TypeId}{X Y:Type}{ec:X->List AV}{ok:X->Prop}{ec':Y->List AV}{ok':Y->Prop}(hg:ic P t=some true)(h:RdZ P t ec ok)(r:aaM P ts ec' ok'):
  aaM P (t::ts) (λy:X×Y=>.agg (ec y.1)::ec' y.2) (λy=>ok y.1/\ok' y.2):=λH enc w base vs ds ps hok hx hwt=>by
 obtain⟨v,vs',d,ds',p,q,rfl,rfl,rfl,h1,h2⟩:=trodAll_cons hx;obtain⟨fuel,h1⟩:=h1;obtain⟨y,h3,h4⟩:=h H enc w fuel _ _ h1 (λn hn=>hwt n (by rw[DataW.weightsEach];exact ako _ hn));obtain⟨z,h5,h6⟩:=r H enc w base vs' ds' q (λj t v a b=>hok (j+1) t v a b) h2 (λn hn=>hwt n (by rw[DataW.weightsEach];exact akO _ hn));refine⟨(y,z),⟨h3,h5⟩,?_⟩;have hv:=hok 0 t v rfl rfl;unfold ic at hg;have:∃cs,v=.agg cs:=by
  unfold Value.okWide at hv;split at hg
  all_goals rename_i hu;rw[hu]at hv
  obtain⟨cs,h,_⟩:=hv;exact⟨cs,h⟩;obtain⟨cs,h,_⟩:=hv;exact⟨cs,h⟩;cases hg;cases hg
 obtain⟨cs,rfl⟩:=this;simp only[VRL];refine⟨_,vs',rfl,?_,h6⟩;simp only[VR];exact⟨cs.toList,rfl,by simpa[Value.cells]using h4⟩
end Go.Proofs.YtdnfjhflkkpokaaGreatDoor.Av
set_option maxRecDepth 100000
namespace Go.Proofs.YtdnfjhflkkpokaaGreatDoor.Av
open Go
variable {L:List Blk}{K:ajq}
def If:LSO:=[Aj 4]
def Ie:LSO:=[Aa 7 0,Af 8 7,Aa 9 1,Af 10 9,Bg 11 8 10]
def Ic:LSO:=[Aj 4]
def Ib:LSO:=[Aa 12 0,Af 13 12,Ad 14 0]
def Ia:LSO:=[Al 15 14 13]
def H9:LSO:=[Aa 16 14,Aa 5 16]
def H8:LSO:=[Aa 17 0,Aa 18 5,Am 19 1 17 18,Ab 20 1 19,Af 21 20,Aa 22 1,Aa 23 5,Am 24 1 22 23,Ab 25 1 24,Af 26 25,Bg 27 21 26]
def H7:LSO:=[Aj 4]
def H6:LSO:=[Aa 28 0,Aa 29 5,Am 30 1 28 29,Ab 31 1 30,Af 32 31,Ad 33 0]
def H5:LSO:=[Al 34 33 32]
def DY:LSO:=[Aa 35 33,Aa 6 35]
def DX:LSO:=[Aa 36 0,Aa 37 5,Am 38 1 36 37,Ab 39 1 38,Aa 40 6,Am 41 2 39 40,Ar 42 2 41,Aa 43 1,Aa 44 5,Am 45 1 43 44,Ab 46 1 45,Aa 47 6,Am 48 2 46 47,Ar 49 2 48,
 o1 50 (.eq2 true (tm 42) (tm 49))]
def DW:LSO:=[Aj 4]
def DV:LSO:=[Ah 51 33 1,Aa 33 51]
def DU:LSO:=[Ah 52 14 1,Aa 14 52]
def DT:LSO:=[A6 4]
def yq:aQ:=⟨53,(amF If [] (.seq (amF Ie Co (amH 11 (.sreg Ic []))) (.seq (amF Ib Cs (amI 0 (amF Ia [] (.seq (amJ 15 0) (.seq (.block 1 (amF H9 Cl (.seq (.seq (.sdreg H8 [.pure,.pure,(.read 0 0),(.read 0 0),(.read 0 0),.pure,.pure,(.read 0 0),(.read 0 0),(.read 0 0)] CD) (amH 27 (.sreg H7 []))) (amF H6 C3 (amI 2 (amF H5 [] (.seq (amJ 34 2) (.seq (.block 3 (amF DY Cl (.seq (.sdreg DX [.pure,.pure,(.read 0 0),(.read 0 0),.pure,(.read 0 0),(.read 0 0),.pure,.pure,(.read 0 0),(.read 0 0),.pure,(.read 0 0),(.read 0 0)] CM) (amH 50 (.sreg DW []))))) (.sreg DV Cl))))))))) (.sreg DU Cl)))))) (amF DT [] .ret)))),[(.tmp 4)]⟩
attribute [push_cast] If Ie Ic Ib Ia H9 H8 H7 H6 H5 DY DX DW DV DU DT
theorem TF:amK 12=amL yq:=amO
attribute [push_cast] yq
set_option maxHeartbeats 8000000
set_option maxRecDepth 100000
theorem afV{d:List Rdn}{cap cap':Option Nat}(hn:d.length<=1100000)(hr:∀r∈d,r.length<=1100000)(h:K (.bool true) L):
  ajp 12 [.sl (d.map ah) d.length cap,.sl (d.map ah) d.length cap'] L K:=by
 replace h:=hid h;have hat:=hid (λk=>@kc d k);replace hr:=hid hr;refine ajo TF ?_;refine aq (λm T' L'=>∃k:Nat,m=d.length-k/\k<=d.length/\T'=[(14,.int .i64 (k:Int)),(13,.int .i64 d.length),(0,.sl (d.map ah) d.length cap),(1,.sl (d.map ah) d.length cap')]/\L=L') (CutS (b:=ajs _)) ⟨0,rfl,aju _,rfl,rfl⟩ ?_;rintro _ _ L' ⟨k,rfl,hk,rfl,e⟩;subst e;by_cases hlt:k<d.length;have g1:(k:Int)<(d.length:Int):=amM;have g2:=ajn k amM;have e2:=hat.o k hlt;have e3:k<(d.map ah).length:=by simpa using hlt
 obtain⟨r,hri⟩:=ajl (d.getD k []);have hrl:=hr.o r (by rw[<- hri];simp[hlt]);rw[hri]at e2;clear hri;refine wk ?_;refine aq (λm T' L'=>∃j:Nat,m=r.length-j/\j<=r.length/\T'=[(33,.int .i64 (j:Int)),(32,.int .i64 r.length),(5,.int .i64 (k:Int)),(14,.int .i64 (k:Int)),(13,.int .i64 d.length),(0,.sl (d.map ah) d.length cap),(1,.sl (d.map ah) d.length cap')]/\L=L') (CutS (b:=ajs _)) ⟨0,rfl,aju _,rfl,rfl⟩ ?_;rintro _ _ L' ⟨j,rfl,hj,rfl,e⟩;subst e;by_cases hjl:j<r.length;have j1:(j:Int)<(r.length:Int):=amM;have j2:=ajn j amM;have e5:=fL hjl;have e6:j*2+2<=(aL r).length:=by rw[cJ];omega
 obtain⟨⟨ty,va⟩,ha⟩:∃a,r.getD j ([],[])=a:=⟨_,rfl⟩;rw[ha]at e5;simp only[mu]at e5;clear ha;refine wk ?_;exact amR amM amP ⟨j+1,rfl,hjl,rfl,rfl⟩;have j1:¬(j:Int)<(r.length:Int):=amM;refine wk ?_;exact amR amM amP ⟨k+1,rfl,hlt,rfl,rfl⟩;have g1:¬(k:Int)<(d.length:Int):=amM;refine wk ?_;exact ac h.o
open Go Go.ChangeShapes
theorem af8:RdZ Tryz.prog 101 mu (λa=>a.1.length<=reachBytes):=
 (oT Tryz.underlying101 (N:=2) amO (cQ (sz:=1) rfl amO (qE Tryz.underlying9) (cQ (sz:=1) rfl amO (qE Tryz.underlying9) (FD rfl)))).map
  λy hy=>⟨(y.1,y.2.1),hy.1,rfl⟩
theorem af7:RdZ Tryz.prog 99 (λr:Rdn=>[ah r]) (λr=>r.length<=maxLen/\∀a∈r,a.1.length<=reachBytes):=
 (iH Tryz.underlying99 af8 amO).map λl hl=>⟨l,hl,rfl⟩
theorem Ux:RdZ Tryz.prog 24 (λd:List Rdn=>[dnA d]) (λd=>Tg d/\∀r∈d,∀a∈r,(a.1.length:Int)<=140737488351232):=
 (iH Tryz.underlying24 af7 amO).map fun l hl=>⟨l,⟨⟨by have:=hl.1;simp only [maxLen] at this;omega,fun r hr=>by have:=(hl.2 r hr).1;simp only [maxLen] at this;omega⟩,fun r hr a ha=>by have:=(hl.2 r hr).2 a ha;simp only [reachBytes] at this;omega⟩,by
  have e:∀l:List Rdn,l.map ah=l.flatMap λr=>[ah r]:=λl=>by
   induction l with
   |nil=>rfl
   |cons a l ih=>rw[ajP,aj5,ih];rfl
  simp only[dnA,e l]⟩
theorem adT:RdZ Tryz.prog 40 oJ aaJ :=
 (oT Tryz.underlying40 (N:=4) amO (cQ (sz:=1) rfl amO (Rd.z (ZV Tryz.underlying3)) (cQ (sz:=1) rfl amO Ux (cQ (sz:=1) rfl amO Ux (cQ (sz:=1) rfl amO (iH Tryz.underlying38 aa9 amO) (FD rfl)))))).map
  λy hy=>⟨⟨y.1,y.2.1,y.2.2.1,y.2.2.2.1⟩,⟨hy.2.1,hy.2.2.1,by have:=hy.2.2.2.1.1;simp only[maxLen]at this⊢;omega,λa ha=>by obtain⟨h1,h2⟩:=hy.2.2.2.1.2 a ha;simp only[maxLen]at h2;simp only[reachBytes]at h1;omega⟩,rfl⟩
theorem ab8:RdZ Tryz.prog 22 (λl:List Upd=>[.sl (l.flatMap oJ) l.length none]) (λl=>(l.length:Int)<=9223372036854775807/\∀u∈l,aaJ u):=
 (iH Tryz.underlying22 adT amO).map λl hl=>⟨l,⟨by have:=hl.1;simp only[maxLen]at this;omega,hl.2⟩,rfl⟩
theorem ahU{ts:List Typ}{r:Rul}(h:bkE ts r=0):0<=r.who/\r.who<=4/\(da r.dn).2=0/\(da r.wh).2=0/\1<=r.rg/\r.rg<=15:=by unfold bkE at h;split at h;cases h;split at h;rename_i h1;exact absurd h h1;split at h;cases h;split at h;rename_i h1;exact absurd h h1;split at h;cases h;split at h;cases h;rename_i h1 h2 h3 h4 h5 h6;simp only[ne_eq,alH]at h2 h4;omega
theorem aja(a b:List Rdn):(decide ((tf a).2=0)&&decide ((tf b).2=0)&&decide ((tf a).1=(tf b).1))=gF a b:=by
 rw[ak8,Uq];simp only[ajv,decide_eq_true_eq];constructor;rintro⟨⟨h1,h2⟩,h3⟩;have ha:OkD a:=Decidable.byContradiction λh=>xT h h1
 have hb:OkD b:=Decidable.byContradiction λh=>xT h h2
 rw[eu ha,eu hb]at h3;exact⟨ha,hb,(gN ha hb).1 h3⟩;rintro⟨ha,hb,h⟩;rw[eu ha,eu hb];exact⟨⟨rfl,rfl⟩,(gN ha hb).2 h⟩
variable {α:Type}
def Ug(P:List Rdn->Bool)(d:List Rdn):List Rdn->List (Ent α)->Int×List Rdn
 |best,[]=>(0,best)
 |best,x::l=>if(bA d x.nm=true/\best.length<x.nm.length)/\P x.nm=true then(if x.nm.length=d.length then(x.id,[])else Ug P d x.nm l)else Ug P d best l
theorem Yi{d b:List Rdn}(h:bA d b=true):b.length<=d.length:=by have:=(bL.1 h).2.2.length_le;rwa[aW,aW]at this
theorem adc(P:List Rdn->Bool)(d best:List Rdn):NY P d best ([]:List (Ent α))=best:=rfl
theorem Wp(P:List Rdn->Bool)(d:List Rdn):∀(l:List (Ent α)) (best:List Rdn),best.length=d.length->NY P d best l=best
 |[],_,_=>rfl
 |x::l,best,hb=>by rw[Rr,if_neg (λhc=>by have:=Yi hc.1.1;omega)];exact Wp P d l best hb
theorem Xh{P:List Rdn->Bool}{l:List (Ent α)}(h:Wn l){d:List Rdn}:∀(m:List (Ent α)),(∀x∈m,x∈l)->∀best:List Rdn,(best.length<d.length\/best=[]) ->
  Ug P d best m=if(NY P d best m).length=d.length then(aV l d,[])else(0,NY P d best m)
 | [],_,best,hb=>by
   rw[Ug,adc];by_cases hl:best.length=d.length
   .rw[if_pos hl];rcases hb with hb|rfl
    .omega
    .have hd:d=[]:=(by simpa using hl.symm);subst hd;have:aV l ([]:List Rdn)=0:=by
      unfold aV;cases hf:atE l ([]:List Rdn)with
      |none=>rfl
      | some x =>
        obtain⟨_,hx,e⟩:=bW hf;exact absurd (JQ.1 (by rw[e];rfl)) (h.ne x hx)
     rw[this]
   .rw[if_neg hl]
 | x::m,hm,best,hb=>by
   rw[Ug,Rr];by_cases hc:(bA d x.nm=true/\best.length<x.nm.length)/\P x.nm=true
   .rw[if_pos hc,if_pos hc];by_cases hl:x.nm.length=d.length
    .rw[if_pos hl];rw[Wp P d m x.nm hl,if_pos hl,h.und (hm x amN) hc.1.1 hl]
    .rw[if_neg hl];have:=Yi hc.1.1;exact Xh h m (λy hy=>hm y (by simp[hy])) x.nm (.inl amM)
   .rw[if_neg hc,if_neg hc];exact Xh h m (λy hy=>hm y (by simp[hy])) best hb
theorem ade{P:List Rdn->Bool}{l:List (Ent α)}(h:Wn l){d:List Rdn}:Ug P d [] l=xM P l d:=Xh h l (λ_ hx=>hx) [] (.inr rfl)
end Go.Proofs.YtdnfjhflkkpokaaGreatDoor.Av
set_option maxRecDepth 100000
namespace Go.Proofs.YtdnfjhflkkpokaaGreatDoor.Av
open Go
variable {L:List Blk}{K:ajq}
def F3:LSO:=[Aj 4]
def F2:LSO:=[Aa 10 0,Ai 11 89 10,Aa 9 11,Ap 12 9,Aq 13 9,Aa 5 12,Aa 6 13]
def F1:LSO:=[Aa 15 1,Ai 16 89 15,Aa 14 16,Ap 17 14,Aq 18 14,Aa 7 17,Aa 8 18]
def F0:LSO:=[Aa 19 6,Ao 20 19 0,Aa 21 20,.grp none 21 true
 [Ae 22 21 8,AX 23 21 22 0]
 24 (tm 23),Aa 25 24,.grp none 25 true
 [Ae 26 25 5,Ae 27 25 7,BA 28 25 26 27]
 29 (tm 28),Aa 4 29]
def yb:aQ:=⟨30,(amF F3 [] (amF F2 Cw (amF F1 Cw (amF F0 Cr .ret)))),[(.tmp 4)]⟩
attribute [push_cast] F3 F2 F1 F0
theorem Tu:amK 136=amL yb:=amO
attribute [push_cast] yb
def uK:LSO:=[A5 5 0,Aj 10]
def uJ:LSO:=[Ac 17 2 5,Ab 18 1 17,Ai 19 188 18,Aa 16 19,Ap 20 16,Aq 21 16,Aa 11 20,Aa 12 21]
def uI:LSO:=[Ac 23 1 5,Ab 24 1 23,Ai 25 188 24,Aa 22 25,Ap 26 22,Aq 27 22,Aa 13 26,Aa 14 27]
def uH:LSO:=[Aa 28 2,Aa 29 11,Au 30 38 28 29,Aa 31 30,.grp none 31 true
 [Ay 32 31 3 5,Az 33 31 1 32,og 34 31 true (.bin .eql (tm 33) (.av (.str []))),Ae 35 31 34,.grp (some (31,true)) 35 false
 [AA 36 35 3 5,AB 37 35 1 36,AH 38 35 49 37,Ag 39 35 3,AH 40 35 49 39,Bp 41 35 38 40]
 42 (tm 41)]
 43 (tm 42),Aa 44 43,.grp none 44 true
 [Ay 45 44 4 5,Az 46 44 1 45,Ae 47 44 4,og 48 44 true (.bin .quo (tm 46) (tm 47)),Cg 49 44 48 2,AX 50 44 49 1]
 51 (tm 50),Aa 15 51]
def uG:LSO:=[Ac 52 0 5,Ab 53 1 52]
def uF:LSO:=[Ao 55 53 1,Aa 54 55]
def uE:LSO:=[Aa 56 15,Aa 57 56,.grp none 57 true
 [Ae 58 57 1,AI 59 57 58,BB 60 57 59 0]
 61 (tm 60),Aa 10 61]
def uD:LSO:=[Ao 63 53 2,Aa 62 63]
def uC:LSO:=[Aa 64 15,Aa 65 64,.grp none 65 true
 [Ae 66 65 1,Ae 67 65 2,AE 68 65 136 66 67]
 69 (tm 68),Aa 10 69]
def uB:LSO:=[Ao 71 53 3,Aa 70 71]
def rO:LSO:=[Aa 72 15,Aa 73 72,.grp none 73 true
 [Ae 74 73 1,Ae 75 73 13,AE 76 73 136 74 75]
 77 (tm 76),Aa 10 77]
def rN:LSO:=[Ao 79 53 4,Aa 78 79]
def rM:LSO:=[Aa 80 15,Aa 81 80,.grp none 81 true
 [Ae 82 81 1,AI 83 81 82,BB 84 81 83 0]
 85 (tm 84),Aa 86 85,.grp none 86 true
 [Ae 87 86 1,Ae 88 86 13,AE 89 86 38 87 88]
 90 (tm 89),Aa 10 90]
def rL:LSO:=[Aa 91 15,Aa 10 91]
def cg:aQ:=⟨92,(amF uK [] (amF uJ C7 (amF uI C7 (amF uH Ct (.seq (amF uG Cl (.block 0 (amF uF Cl (amG 54 (amF uE Cp .ret) (amF uD Cl (amG 62 (amF uC Cp .ret) (amF uB Cl (amG 70 (amF rO Cp .ret) (amF rN Cl (amH 78 (.sreg rM Cq))))))))))) (amF rL Cl .ret)))))),[(.tmp 10)]⟩
attribute [push_cast] uK uJ uI uH uG uF uE uD uC uB rO rN rM rL
theorem fa:amK 137=amL cg:=amO
attribute [push_cast] cg
def LE:LSO:=[Aj 12]
def LD:LSO:=[Aa 20 2,Ai 21 37 20,Aa 19 21,Ap 22 19,Aq 23 19,Aa 13 22,Aa 14 23]
def LC:LSO:=[Aa 25 3,Ai 26 37 25,Aa 24 26,Ap 27 24,Aq 28 24,Aa 15 27,Aa 16 28]
def LB:LSO:=[Aa 29 14,A8 30 29 0,Aa 31 30,.grp none 31 false
 [Ag 32 31 16,Bb 33 31 32 0]
 34 (tm 33),Aa 35 34,.grp none 35 false
 [Ag 36 35 5,Bb 37 35 36 1,Ag 38 35 37,.grp (some (35,false)) 38 true
 [Ae 39 38 5,Bv 40 38 39 2]
 41 (tm 40),Ag 42 35 41,.grp (some (35,false)) 42 true
 [Ae 43 42 5,Bv 44 42 43 4]
 45 (tm 44),Ag 46 35 45,.grp (some (35,false)) 46 true
 [Ae 47 46 5,Bv 48 46 47 8]
 49 (tm 48)]
 50 (tm 49)]
def LA:LSO:=[Aj 12]
def Lz:LSO:=[Aa 51 2,Af 52 51,A9 53 52 0,Aa 54 53,.grp none 54 true
 [Ae 55 54 2,Ae 56 54 0,AE 57 54 136 55 56]
 58 (tm 57)]
def Ly:LSO:=[A6 12]
def Lx:LSO:=[Aa 59 1,Af 60 59,Ad 61 0]
def Lw:LSO:=[Al 62 61 60]
def Lv:LSO:=[Am 63 6 59 61,Ar 64 6 63,o1 18 (.alloc [(.int .i64 0),(.str []),(.str []),(.str []),(.int .i64 0),(.bool false)]),An 6 18 64]
def F7:LSO:=[Ar 65 6 18,Aa 66 2,Aa 67 3,Aa 68 4,Aa 69 5,o1 70 (.call 137 [(tm 65),(tm 66),(tm 67),(tm 68),(tm 69)])]
def F6:LSO:=[Ac 71 5 18,Ab 72 1 71,Aa 12 72]
def F5:LSO:=[Ah 73 61 1,Aa 61 73]
def F4:LSO:=[Aj 12]
def gL:aQ:=⟨74,(amF LE [] (amF LD Cr (amF LC Cr (.seq (amF LB Cq (amH 50 (.sreg LA []))) (.seq (amF Lz Co (amH 58 (.sreg Ly []))) (.seq (amF Lx [] (amI 0 (amF Lw [] (.seq (amJ 62 0) (.seq (.block 1 (amF Lv Cm (amF F7 Cq (amH 70 (.sreg F6 Cm))))) (.sreg F5 Cl)))))) (amF F4 [] .ret))))))),[(.tmp 12)]⟩
attribute [push_cast] LE LD LC LB LA Lz Ly Lx Lw Lv F7 F6 F5 F4
theorem qh:amK 91=amL gL:=amO
attribute [push_cast] gL
set_option maxHeartbeats 8000000
set_option maxRecDepth 100000
theorem WB{d b:List Rdn}{cap cap':Option Nat}(hd:dnM d)(hb:dnM b)(h:K (.bool (gF d b)) L):
  ajp 136 [.sl (d.map ah) d.length cap,.sl (b.map ah) b.length cap'] L K:=by
 rw[<- aja]at h;obtain⟨⟨x,e⟩,h1⟩:∃q,tf d=q:=⟨_,rfl⟩;obtain⟨⟨y,f⟩,h2⟩:∃q,tf b=q:=⟨_,rfl⟩;have kk1:Hid (Ctr Tryz.prog 89 [.sl (d.map ah) d.length cap] (.tup [.str x,.int .i64 e])):=@hid _ (by intro L K q;exact tN hd.1 hd.2 (by rw[h1];exact q));have kk2:Hid (Ctr Tryz.prog 89 [.sl (b.map ah) b.length cap'] (.tup [.str y,.int .i64 f])):=@hid _ (by intro L K q;exact tN hb.1 hb.2 (by rw[h2];exact q));rw[h1,h2]at h;simp only[<- alA]at h;replace h:=hid h;clear h1 h2 hd hb;refine ajo Tu ?_;exact ac h.o
theorem Rl:∀n:Nat,n<16->∀m:Nat,m<4->decide ((IntKind.i64.wrap ((n:Int).tdiv ((2^m:Nat):Int))).tmod 2=1)=aaF (n:Int) ((2^m:Nat):Int):=by decide
theorem agE{g r:Int}(h1:1<=g)(h2:g<=15)(hr:Ka r):decide ((IntKind.i64.wrap (g.tdiv r)).tmod 2=1)=aaF g r:=by obtain⟨n,rfl⟩:∃n:Nat,g=n:=⟨g.toNat,amM⟩;have hn:n<16:=amM;rcases hr with rfl|rfl|rfl|rfl;exact Rl n hn 0 amM;exact Rl n hn 1 amM;exact Rl n hn 2 amM;exact Rl n hn 3 amM
theorem abf(s:List UInt8):dnM (da s).1:=⟨by have:=(xS s).1;omega,λx hx=>⟨by have:=(xS s).2 x hx;omega,λa ha=>by have:=YH s x hx a ha;omega⟩⟩
theorem abZ{r:Rul}(hw:0<=r.who/\r.who<=4/\1<=r.rg/\r.rg<=15){who ent:List Rdn}{cw ce:Option Nat}(h1:dnM who)(h2:dnM ent){n:List UInt8}{right:Int}(hr:Ka right)(hat:a8 r.at_)(hn:a8 n)(h:K (.bool (Yn who ent n right r)) L):
  ajp 137 [.agg (Kj r),.sl (who.map ah) who.length cw,.sl (ent.map ah) ent.length ce,.str n,.int .i64 right] L K:=by
 have hb:=agE hw.2.2.1 hw.2.2.2 hr;have hr0:right≠0:=by rcases hr with rfl|rfl|rfl|rfl<;>decide
 obtain⟨w,d,wh,at_,rg,al⟩:=r;obtain⟨⟨P,pe⟩,hP⟩:∃q,da d=q:=⟨_,rfl⟩;obtain⟨⟨Q,qe⟩,hQ⟩:∃q,da wh=q:=⟨_,rfl⟩;have mP:dnM P:=by have:=abf d;rw[hP]at this;exact this
 have mQ:dnM Q:=by have:=abf wh;rw[hQ]at this;exact this
 have kk1:Hid (Ctr Tryz.prog 188 [.str wh] (Tf (Q,qe))):=@hid _ (λ{L K} q=>Ur (by rw[hQ];exact q));have kk2:Hid (Ctr Tryz.prog 188 [.str d] (Tf (P,pe))):=@hid _ (λ{L K} q=>Ur (by rw[hP];exact q));have kk3:Hid (∀{c1 c2:Option Nat}{L:List Blk}{K:ajq},K (.bool (bA ent Q)) L->ajp 38 [.sl (ent.map ah) ent.length c1,.sl (Q.map ah) Q.length c2] L K):=@hid _ (λ{_ _ L K} q=>kO h2 mQ q);have kk4:Hid (Ctr Tryz.prog 49 [.str at_] (.str (ag at_))):=@hid _ (λ{L K} q=>bu hat q);have kk5:Hid (Ctr Tryz.prog 49 [.str n] (.str (ag n))):=@hid _ (λ{L K} q=>bu hn q);have m6:∀b:List Rdn,dnM b->Hid (∀{c1 c2:Option Nat}{L:List Blk}{K:ajq},K (.bool (gF who b)) L->ajp 136 [.sl (who.map ah) who.length c1,.sl (b.map ah) b.length c2] L K):=λb hb=>@hid _ (λ{_ _ L K} q=>WB h1 hb q)
 have m7:=@m6 P mP;replace m6:=@m6 ent h2;have m8:Hid (∀{c1 c2:Option Nat}{L:List Blk}{K:ajq},K (.bool (bA who P)) L->ajp 38 [.sl (who.map ah) who.length c1,.sl (P.map ah) P.length c2] L K):=@hid _ (λ{_ _ L K} q=>kO h1 mP q);unfold Yn abO at h;simp only[hP,hQ]at h;simp only[Kj,Tf]at *;have e0:decide ((0:Int)<(who.length:Int)) = !decide (who=[]):=by cases who<;>simp<;>omega
 obtain⟨z,hz⟩:=ajl ((!decide (who=[])));obtain⟨f1,hf1⟩:=ajl (ag at_);obtain⟨f2,hf2⟩:=ajl (ag n);obtain⟨u,hu⟩:=ajl (bA ent Q);obtain⟨bt,hbt⟩:=ajl (aaF rg right);rw[hf1]at kk4;rw[hf2]at kk5;rw[hu]at kk3;rw[hbt]at hb;rw[hz]at e0;rw[hf1,hf2,hu,hbt,hz]at h;obtain⟨s3,e3⟩:=ajl (bA who P);obtain⟨s1,e1⟩:=ajl (gF who ent);obtain⟨s2,e2⟩:=ajl (gF who P);rw[e3]at m8 h;rw[e1]at m6 h;rw[e2]at m7 h;have eb:(bt&&(decide (at_=[]) ||decide (f1=f2))&&u)=(u&&decide (at_=[]\/f1=f2)&&bt):=by rw[al4];cases bt<;>cases u<;>simp
 rw[eb]at h;clear hf1 hf2 hu hbt hz hP hQ mP mQ hr e1 e2 e3 h1 h2 eb;have hc:w=0\/w=1\/w=2\/w=3\/w=4:=amM;clear hw;rcases hc with rfl|rfl|rfl|rfl|rfl;simp only[reduceIte,Int.reduceEq,alw]at h;replace h:=hid h;refine ajo fa ?_;exact ab rfl h.o;simp only[reduceIte,Int.reduceEq]at h;replace h:=hid h;refine ajo fa ?_;exact ab rfl h.o;simp only[reduceIte,Int.reduceEq]at h;replace h:=hid h;have kk6:=@m6;refine ajo fa ?_;exact ab rfl h.o;simp only[reduceIte,Int.reduceEq]at h;replace h:=hid h;have kk6:=@m7;refine ajo fa ?_;exact ab rfl h.o;simp only[reduceIte,Int.reduceEq]at h;replace h:=hid h;have kk6:=@m8;refine ajo fa ?_;exact ab rfl (by simpa only[amh]using h.o)
theorem ahv{adm:List Rdn}{rs:List Rul}{ca c:Option Nat}{who ent:List Rdn}{cw ce:Option Nat}{n:List UInt8}{right:Int}(hr:Ka right)(hok:∀r∈rs,0<=r.who/\r.who<=4/\1<=r.rg/\r.rg<=15)(hat:∀r∈rs,a8 r.at_)(hn:a8 n)(hl:rs.length<=1100000)(ha:dnM adm)(h1:dnM who)(h2:dnM ent){L:List Blk}{K:ajq}(h:K (.bool (YR adm rs who ent n right)) L):
  ajp 91 [.sl (adm.map ah) adm.length ca,.sl (dz rs) rs.length c,.sl (who.map ah) who.length cw,.sl (ent.map ah) ent.length ce,.str n,.int .i64 right] L K:=by
 have kk1:Hid (Ctr Tryz.prog 37 [.sl (who.map ah) who.length cw] (iQ (prS who))):=@hid _ (λ{L K} q=>gO h1.1 h1.2 q);have kk2:Hid (Ctr Tryz.prog 37 [.sl (ent.map ah) ent.length ce] (iQ (prS ent))):=@hid _ (λ{L K} q=>gO h2.1 h2.2 q);have kk3:Hid (Ctr Tryz.prog 136 [.sl (who.map ah) who.length cw,.sl (adm.map ah) adm.length ca] (.bool (gF who adm))):=@hid _ (λ{L K} q=>WB h1 ha q);obtain⟨⟨p1,e1⟩,hp1⟩:∃q,prS who=q:=⟨_,rfl⟩;obtain⟨⟨p2,e2⟩,hp2⟩:∃q,prS ent=q:=⟨_,rfl⟩;have o1:decide (OkD who)=decide (e1=0):=by rw[ak8];simp[OkD,hp1]
 have o2:decide (OkD ent)=decide (e2=0):=by rw[ak8];simp[OkD,hp2]
 rw[hp1]at kk1;rw[hp2]at kk2;unfold YR at h;rw[o1,o2]at h;simp only[iQ]at kk1 kk2;have e0:decide ((0:Int)<(who.length:Int)) = !decide (who=[]):=by cases who<;>simp<;>omega
 obtain⟨z,hz⟩:=ajl ((!decide (who=[])));obtain⟨s,hs⟩:=ajl (gF who adm);rw[hs]at kk3 h;rw[hz]at e0 h;clear hp1 hp2 o1 o2 hz hs;have hr':decide (((¬right=1/\¬right=2)/\¬right=4)/\¬right=8)=false:=by rcases hr with rfl|rfl|rfl|rfl<;>rfl
 by_cases c1:e1=0/\e2=0;obtain⟨rfl,rfl⟩:=c1;simp only[decide_true,aj7]at h;rcases hb:z&&s with _|_;rw[hb,akE]at h;replace h:=hid h;replace hok:=hid hok;replace hat:=hid hat;replace hr:=hid hr;obtain⟨R,hR⟩:=ajl (YS rs who ent n right);rw[hR]at h;replace hR:=hid hR;refine ajo qh ?_;refine aq (λm T' L'=>∃(k:Nat) (X:List Blk),m=rs.length-k/\k<=rs.length/\Hid (YS (rs.drop k) who ent n right=R)/\T'=[(61,.int .i64 (k:Int)),(60,.int .i64 rs.length),(59,.sl (dz rs) rs.length c),(2,.sl (who.map ah) who.length cw),(3,.sl (ent.map ah) ent.length ce),(4,.str n),(5,.int .i64 right)]/\L'=L++X) amQ ⟨0,[],rfl,aju _,hR,rfl,amN⟩ ?_;clear hR kk1 kk2 kk3 hb hr' e0;rintro _ _ _ ⟨k,X,rfl,hk,hI,rfl,rfl⟩;by_cases hlt:k<rs.length;have g1:(k:Int)<(rs.length:Int):=amM;have g2:=ajn k amM;have e3:=Yr hlt;have e4:k*6+6<=(dz rs).length:=by rw[WA];omega
 obtain⟨r,hrr⟩:=ajl (rs.getD k default);have hm:r∈rs:=by rw[<- hrr];simp[hlt]
 have hdr:rs.drop k=r::rs.drop (k+1):=by rw[ajY hlt,<- hrr];simp[hlt]
 have hI2:=hI.o;rw[hdr,WN]at hI2;rw[hrr]at e3;have kk1:Hid (Ctr Tryz.prog 137 [.agg (Kj r),.sl (who.map ah) who.length cw,.sl (ent.map ah) ent.length ce,.str n,.int .i64 right] (.bool (Yn who ent n right r))):=@hid _ (λ{L K} q=>abZ (hok.o r hm) h1 h2 hr.o (hat.o r hm) hn q);obtain⟨t,htt⟩:=ajl (Yn who ent n right r);rw[htt]at kk1 hI2;clear htt hdr hI hm hrr;obtain⟨w,d,wh,at_,rg,al⟩:=r;simp only[Kj]at e3 kk1 hI2;replace hI2:=hid hI2;cases t with
 | false =>
   refine wk ?_;exact amR amM amP ⟨k+1,_,rfl,hlt,hid (by simpa using hI2.o),rfl,rfl⟩
 | true =>
   refine wk ?_;exact ab rfl (by have:=hI2.o;rw[if_pos rfl]at this;rw[this];exact h.o)
 have g1:¬(k:Int)<(rs.length:Int):=amM;have hI2:=hI.o;rw[ala amM]at hI2;replace hI2:=hid hI2;clear hI;refine wk ?_;exact ab rfl (by have:=hI2.o;rw[<- this]at h;exact h.o);rw[hb,alf]at h;replace h:=hid h;simp only[ajv]at hb;obtain⟨rfl,rfl⟩:=hb;clear hok hat;refine ajo qh ?_;exact ac h.o;have g:(decide (e1=0)&&decide (e2=0))=false:=by rw[<- alA];exact decide_eq_false c1
 rw[g,akp]at h;replace h:=hid h;have g2:decide (¬e1=0\/¬e2=0)=true:=by simp only[decide_eq_true_eq];omega
 clear g hok hat;refine ajo qh ?_;exact ac h.o
end Go.Proofs.YtdnfjhflkkpokaaGreatDoor.Av
set_option maxRecDepth 100000
namespace Go.Proofs.YtdnfjhflkkpokaaGreatDoor.Av
open Go
variable {L:List Blk}{K:ajq}
def pB:LSO:=[A5 5 0,Aj 10]
def pA:LSO:=[Ac 11 0 5,Ab 12 1 11,Ac 13 1 5,Ab 14 1 13,Aa 15 1,Aa 16 2,Aa 17 3,Aa 18 4,o1 19 (.call 91 [(tm 12),(tm 14),(tm 15),(tm 16),(tm 17),(tm 18)]),
 Aa 10 19]
def kl:aQ:=⟨20,(amF pB [] (amF pA Cu .ret)),[(.tmp 10)]⟩
attribute [push_cast] pB pA
theorem Kn:amK 39=amL kl:=amO
attribute [push_cast] kl
def rK:LSO:=[A5 5 1,Ad 8 0,Ak 9]
def rJ:LSO:=[Aa 16 3,Ai 17 37 16,Aa 15 17,Ap 18 15,Aq 19 15,Aa 10 18,Aa 11 19]
def rI:LSO:=[Ak 12]
def rH:LSO:=[Aa 20 0,As 21 20,Ac 22 1 21,Ab 23 1 22,Af 24 23,Ad 25 0]
def rG:LSO:=[Al 26 25 24]
def rF:LSO:=[Am 27 3 23 25,Ar 28 3 27,BW 14,An 3 14 28]
def rE:LSO:=[Aa 29 11,Ao 30 29 0,Aa 31 30,.grp none 31 true
 [Ae 32 31 3,Ay 33 31 1 14,Az 34 31 1 33,AE 35 31 38 32 34]
 36 (tm 35),Aa 37 36,.grp none 37 true
 [Ay 38 37 1 14,Az 39 37 1 38,AI 40 37 39,Ae 41 37 12,AI 42 37 41,og 43 37 true (.bin .gtr (tm 40) (tm 42))]
 44 (tm 43),Aa 45 44,.grp none 45 true
 [og 46 45 true (.load true 2 (tm 5)),Ae 47 45 2,Ay 48 45 1 14,Az 49 45 1 48,og 50 45 true (.call 39 [(tm 46),(tm 47),(tm 49),(.av (.str [])),(iv 1)])]
 51 (tm 50)]
def rD:LSO:=[Ac 52 1 14,Ab 53 1 52,Aa 12 53]
def rC:LSO:=[Aa 54 12,Af 55 54,Aa 56 3,Af 57 56,AD 58 55 57]
def rB:LSO:=[Ac 59 0 14,Ab 60 1 59,Aa 8 60,Ak 9]
def pw:LSO:=[Ah 61 25 1,Aa 25 61]
def pu:LSO:=[Aa 62 12,Ai 63 40 62,Ad 8 0,Aa 9 63]
def mp:aQ:=⟨64,(amF rK [] (amF rJ Cr (amF rI [] (.seq (amF rH CA (amI 0 (amF rG [] (.seq (amJ 26 0) (.seq (.block 1 (amF rF Cm (amF rE Ct (amG 51 (amF rD Cm (amF rC Co (amH 58 (.sreg rB Cx)))) .skip)))) (.sreg pw Cl)))))) (amF pu Cx .ret))))),[(.tmp 8),(.tmp 9)]⟩
attribute [push_cast] rK rJ rI rH rG rF rE rD rC rB pw pu
theorem Ow:amK 11=amL mp:=amO
attribute [push_cast] mp
set_option maxHeartbeats 8000000
set_option maxRecDepth 100000
theorem adJ{adm:List Rdn}{rs:List Rul}{ca c:Option Nat}{wh en:AV}{n:List UInt8}{right:Int}{b:Bool}{L:List Blk}(hm:Hid (Ctr Tryz.prog 91 [.sl (adm.map ah) adm.length ca,.sl (dz rs) rs.length c,wh,en,.str n,.int .i64 right] (.bool b))){K:ajq}(h:K (.bool b) L):
  ajp 39 [.agg [.sl (adm.map ah) adm.length ca,.sl (dz rs) rs.length c],wh,en,.str n,.int .i64 right] L K:=by
 replace h:=hid h;have kk1:=@hm;clear hm;refine ajo Kn ?_;exact ab rfl h.o
theorem ahs{l:List aA}(ho:∀x∈l,OkD x.nm){rt:Nat}{c:Option Nat}{a b:AV}(hn:l.length<=1100000){L:List Blk}(hL:L[rt]?=some (.cells [a,.sl (aX l) l.length c,b])){P:List Rdn->Bool}{bk wh:AV}(hP:∀x∈l,Hid (Ctr Tryz.prog 39 [bk,wh,.sl (x.nm.map ah) x.nm.length none,.str [],.int .i64 1] (.bool (P x.nm))))(hbk:∃z y,bk=.agg [z,y]){d:List Rdn}{cd:Option Nat}(hd:dnM d){K:ajq}(h:K (ZJ (Ug P d [] l)) L):
  ajp 11 [.ptr rt 0,bk,wh,.sl (d.map ah) d.length cd] L K:=by
 have kk1:Hid (Ctr Tryz.prog 37 [.sl (d.map ah) d.length cd] (iQ (prS d))):=@hid _ (λ{L K} q=>gO hd.1 hd.2 q);obtain⟨⟨p1,e1⟩,hp1⟩:∃q,prS d=q:=⟨_,rfl⟩;have o1:OkD d↔e1=0:=by unfold OkD;rw[hp1]
 rw[hp1]at kk1;simp only[iQ]at kk1;obtain⟨R,hR⟩:=ajl (Ug P d [] l);rw[hR]at h;replace h:=hid h;replace hR:=hid hR;replace ho:=hid ho;replace hP:=hid hP;replace o1:=hid o1;obtain⟨z,y,rfl⟩:=hbk;have hLa:∀X,(L++X)[rt]?=some (.cells [a,.sl (aX l) l.length c,b]):=λX=>ajm hL
 clear hp1;refine ajo Ow ?_;refine aq (λm T' L'=>∃(k:Nat) (best:List Rdn) (cb:Option Nat) (X:List Blk),m=l.length-k/\k<=l.length/\Hid (Ug P d best (l.drop k)=R)/\Hid (best=[]\/∃x∈l,best=x.nm)/\T'=[(25,.int .i64 (k:Int)),(24,.int .i64 l.length),(23,.sl (aX l) l.length c),(12,.sl (best.map ah) best.length cb),(11,.int .i64 e1),(5,.ptr L.length 0),(0,.ptr rt 0),(1,.agg [z,y]),(2,wh),(3,.sl (d.map ah) d.length cd)]/\L'=L++([.cells [z,y]]++X)) amQ ⟨0,[],some 0,[],rfl,aju _,hR,hid (.inl rfl),rfl,amN⟩ ?_;clear hR kk1 hL;rintro _ _ _ ⟨k,best,cb,X,rfl,hk,hI,hbest,rfl,rfl⟩;by_cases hlt:k<l.length;have g1:(k:Int)<(l.length:Int):=amM;have g2:=ajn k amM;have e3:=qd hlt;have e4:k*3+3<=(aX l).length:=by rw[oP];omega
 obtain⟨x,hxx⟩:=ajl (l.getD k default);have hm:x∈l:=by rw[<- hxx];simp[hlt]
 have hdr:l.drop k=x::l.drop (k+1):=by rw[ajY hlt,<- hxx];simp[hlt]
 have hI2:=hI.o;rw[hdr,Ug]at hI2;rw[hxx]at e3;have hox:=(ho.o x hm).m;have kk1:Hid (Ctr Tryz.prog 38 [.sl (d.map ah) d.length cd,.sl (x.nm.map ah) x.nm.length none] (.bool (bA d x.nm))):=@hid _ (λ{L K} q=>kO hd hox q);have kk2:=@Hid.o _ hP x hm;have hb2:=hid (show x.nm=[]\/∃y∈l,x.nm=y.nm from .inr ⟨x,hm,rfl⟩);have hu1:bA d x.nm=true->e1=0:=λe=>o1.o.1 (bL.1 e).1
 obtain⟨u,hu⟩:=ajl (bA d x.nm);obtain⟨pb,hpb⟩:=ajl (P x.nm);rw[hu,hpb]at hI2;rw[hu]at hu1 kk1;rw[hpb]at kk2;clear hu hpb hdr hI hm hxx hox;obtain⟨xi,xn,xv⟩:=x;simp only[Om]at e3 kk1 kk2 hI2 hb2;replace hI2:=hid hI2;have ht:(decide (e1=0)&&u&&decide ((best.length:Int)<(xn.length:Int))&&pb)=decide ((u=true/\best.length<xn.length)/\pb=true):=by cases u;simp;rw[hu1 rfl];simp
 by_cases hc:(u=true/\best.length<xn.length)/\pb=true;rw[decide_eq_true hc]at ht;have hI3:=hI2.o;rw[if_pos hc]at hI3;by_cases hl:xn.length=d.length;rw[if_pos hl]at hI3;have g5:decide ((xn.length:Int)=(d.length:Int))=true:=by simp[hl]
 replace hI3:=hid hI3;clear hI2 hc hu1 hl o1;refine wk ?_;refine aJ (ab rfl ?_);have:=h.o;rw[<- hI3.o]at this;exact this;rw[if_neg hl]at hI3;have g5:decide ((xn.length:Int)=(d.length:Int))=false:=decide_eq_false amM;replace hI3:=hid hI3;clear hI2 hc hu1 hl o1;refine wk ?_;exact amR amM amP ⟨k+1,xn,none,_,rfl,hlt,hI3,hb2,rfl,by simp;rfl⟩;rw[decide_eq_false hc]at ht;have hI3:=hI2.o;rw[if_neg hc]at hI3;replace hI3:=hid hI3;clear hI2 hc hu1 o1;refine wk ?_;exact amR amM amP ⟨k+1,best,cb,_,rfl,hlt,hI3,hbest,rfl,by simp;rfl⟩;have g1:¬(k:Int)<(l.length:Int):=amM;have hI2:=hI.o;rw[ala amM,Ug]at hI2;have hbb:dnM best:=by rcases hbest.o with rfl|⟨y,hy,rfl⟩;exact⟨amN,amN⟩;exact(ho.o y hy).m
 have kk1:Hid (Ctr Tryz.prog 40 [.sl (best.map ah) best.length cb] (dnA best)):=@hid _ (λ{L K} q=>Yl hbb.1 (λr hr=>(hbb.2 r hr).1) q);replace hI2:=hid hI2;clear hI hbest hbb;refine wk ?_;exact ab (by simp only[AV.refs,AV.refsL,dnA,dX,alo]) (by have:=h.o;rw[<- hI2.o]at this;exact this)
end Go.Proofs.YtdnfjhflkkpokaaGreatDoor.Av
set_option maxRecDepth 100000
namespace Go.Proofs.YtdnfjhflkkpokaaGreatDoor.Av
open Go
variable {L:List Blk}{K:ajq}
def pW:LSO:=[A5 3 0,Aj 6]
def pV:LSO:=[Ar 14 3 3,Ai 15 7 14,Aa 13 15,Ap 16 13,Aq 17 13,Ci 7,An 5 7 16,Aa 8 17]
def pU:LSO:=[Aa 18 8,A7 19 18,Aa 20 19,.grp none 20 false
 [Ag 21 20 1,Ag 22 20 2,og 23 20 false (.build [(.int .i64 0),(.sl [] 0 (some 0)),(.sl [] 0 (some 0)),(.sl [] 0 (some 0))] [(1,(1,(tm 21))),(2,(1,(tm 22)))]),AH 24 20 8 23,
 Bq 25 20 24]
 26 (tm 25)]
def pT:LSO:=[AL 27 9,Aa 6 27]
def pS:LSO:=[Ac 29 0 7,Ab 30 1 29,As 31 30,Ac 32 0 31,Ab 33 1 32,Ac 34 1 7,Ab 35 1 34,Aa 36 1,Aa 37 2,BG 38 10 33 35 36 37,Aa 28 38,Ap 39 28,Aq 40 28,Aa 9 39,
 Aa 10 40]
def pR:LSO:=[Ac 42 2 7,Ab 43 1 42,Ac 44 3 7,Ar 45 2 44,Aa 46 1,Aa 47 2,BG 48 11 43 45 46 47,Aa 41 48,Ap 49 41,Aq 50 41,Aa 11 49,Aa 12 50]
def pQ:LSO:=[AL 51 9,Aa 52 51,.grp none 52 true
 [Ae 53 52 9,Ae 54 52 11,BA 55 52 53 54]
 56 (tm 55),Aa 57 56,.grp none 57 true
 [Ae 58 57 10,Ae 59 57 12,AE 60 57 12 58 59]
 61 (tm 60),Aa 6 61]
def ko:aQ:=⟨62,(amF pW [] (amF pV Cw (.seq (amF pU Cp (amH 26 (.sreg pT Cl))) (.seq (.sdreg pS [.pure,(.read 0 0),(.read 0 0),.pure,(.read 0 0),.pure,(.read 0 0),.pure,.pure,(.read 0 0),.pure,.pure,.pure,.pure] [true,true,false,false,false,false,false,false,false,false,false,false,false,false,false]) (amF pR CC (amF pQ Cq .ret)))))),[(.tmp 6)]⟩
attribute [push_cast] pW pV pU pT pS pR pQ
theorem Ko:amK 3=amL ko:=amO
attribute [push_cast] ko
set_option maxHeartbeats 8000000
set_option maxRecDepth 100000
theorem afx{P:List Rdn->Bool}{l:List aA}(h:∀x∈l,OkD x.nm)(d:List Rdn):dnB (xM P l d).2:=by obtain⟨_,_,h3⟩:=Fw P d l [];unfold xM;split;exact⟨amN,amN⟩;rcases h3 with e|⟨y,hy,_,_,e⟩;simp only[e];exact⟨amN,amN⟩;simp only[e];exact(h y hy).m.b
theorem ahq(hA:Hid (Ctr Tryz.prog 9 [] (.bool true))){us:List Upd}{cu:Option Nat}{adm:List Rdn}{ca:Option Nat}{rs:List Rul}{cr:Option Nat}(hu:∀u∈us,aaJ u)(hun:(us.length:Int)<=9223372036854775807)(hrn:(rs.length:Int)<=9223372036854775807)(hat:∀r∈rs,a8 r.at_)(ha:Tg adm/\∀r∈adm,∀a∈r,(a.1.length:Int)<=140737488351232){who d:List Rdn}{cw cd:Option Nat}(hw:Tg who/\∀r∈who,∀a∈r,(a.1.length:Int)<=140737488351232)(hd:Tg d/\∀r∈d,∀a∈r,(a.1.length:Int)<=140737488351232){L:List Blk}{K:ajq}(h:∀L',K (.bool true) L'):
  ajp 3 [.agg [.sl (us.flatMap oJ) us.length cu,.sl (adm.map ah) adm.length ca,.sl (dz rs) rs.length cr],.sl (who.map ah) who.length cw,.sl (d.map ah) d.length cd] L K:=by
 obtain⟨sm,hsm⟩:=ajl (smU ⟨0,who,d,[]⟩);have hsmall:∀{L:List Blk}{c0 c1 c2:Option Nat}{K:ajq},K (.bool sm) L->ajp 8 [.agg [.int .i64 0,.sl (who.map ah) who.length c0,.sl (d.map ah) d.length c1,.sl [] 0 c2]] L K:=λ{L c0 c1 c2 K} q=>by
  refine gZ ?_;have:=Un (u:=⟨0,who,d,[]⟩) hw.1 hd.1 amN amN (by rw[hsm];exact q);have e:AV.frzL [.agg [.int .i64 0,.sl (who.map ah) who.length c0,.sl (d.map ah) d.length c1,.sl [] 0 c2]]=[AV.agg (oJ ⟨0,who,d,[]⟩)]:=by simp only[AV.frzL,AV.frz,aY,oJ,dnA];rfl
  rw[e];exact this
 have kk1:Hid (∀{L:List Blk}{c0 c1 c2:Option Nat}{K:ajq},K (.bool sm) L->ajp 8 [.agg [.int .i64 0,.sl (who.map ah) who.length c0,.sl (d.map ah) d.length c1,.sl [] 0 c2]] L K):=@hid _ hsmall;have kk2:=@hA;have hbuild:Hid (∀{L:List Blk}{K:ajq},(∀L',K (.tup [.agg [.nilptr,.nilptr,.nilptr,.sl [] 0 (some 0),.sl [] 0 (some 0)],.bool false]) L')->(∀L' it iv mn mi rt nb bn ck ci trs c last l ib cb,Zz L' it iv mn mi rt nb bn ck ci trs c dQ last l->L'[ib]?=some (.cells [dnA adm,.sl (iL rs) rs.length cb])->dnM adm->(∀r∈rs,bkE aN r=0)->rs.length<=20->(l,last)=JP dQ us->us.length<=30->K (.tup [.agg [.ptr it 0,.ptr ib 0,.ptr rt 0,.sl (adm.map ah) adm.length ca,.sl (dz rs) rs.length cr],.bool true]) L')->ajp 7 [.agg [.sl (us.flatMap oJ) us.length cu,.sl (adm.map ah) adm.length ca,.sl (dz rs) rs.length cr]] L K):=@hid _ (λ{L K} q0 q1=>abr hu hun hrn hat ha (λ_=>q0) (λL' it iv mn mi rt nb bn ck ci trs c last l ib cb a1 a2 a3 a4 a5 a6 a7 _=>q1 L' it iv mn mi rt nb bn ck ci trs c last l ib cb a1 a2 a3 a4 a5 a6 a7));obtain⟨US,hUS⟩:=ajl (us.flatMap oJ);rw[hUS]at hbuild⊢;replace h:=hid h;replace hat:=hid hat;replace hsm:=hid hsm;replace hw:=hid hw;replace hd:=hid hd;clear hsmall hA hu hUS ha;refine ajo Ko ?_;refine hbuild.o (λL'=>?_) (λL' it iv mn mi rt nb bn ck ci trs c last l ib cb hm hib hadm hrl hrn2 _ _=>?_);refine amU ?_;exact ac (h.o _);refine sk ?_;cases sm with
 | false =>
   refine wk ?_;exact ac (h.o _)
 |true =>
 have hwm:dnM who:=by have:=hsm.o;simp only[smU,ajv]at this;exact Yp this.1 hw.o.2
 have hdm:dnM d:=by have:=hsm.o;simp only[smU,ajv]at this;exact Yp this.2.1 hd.o.2
 obtain⟨M,hM⟩:=ajl (L'++[Blk.cells [.ptr it 0,.ptr ib 0,.ptr rt 0,.sl (adm.map ah) adm.length ca,.sl (dz rs) rs.length cr]]);have up:∀{i:Nat}{b:Blk},L'[i]?=some b->M[i]?=some b:=λ{i b} e=>by rw[<- hM,ajw (ajr.1 e).1];exact e
 have hbx:M[L'.length]?=some (Blk.cells [.ptr it 0,.ptr ib 0,.ptr rt 0,.sl (adm.map ah) adm.length ca,.sl (dz rs) rs.length cr]):=by rw[<- hM];simp
 have hit:=up hm.it;have hcode:bO M iv mn mi nb bn ck ci trs dQ last l:=by rw[<- hM];exact hm.code.app _
 have hrok:∀r∈rs,0<=r.who/\r.who<=4/\1<=r.rg/\r.rg<=15:=λr hr=>by have:=ahU (hrl r hr);exact⟨this.1,this.2.1,this.2.2.2.2.1,this.2.2.2.2.2⟩
 have hln:=hm.len;obtain⟨V,hV⟩:=ajl (xM (λx=>YR adm rs who x [] 1) l d);have kk3:Hid (∀{K:ajq},K (ZJ V) M->ajp 10 [.ptr iv 0,.ptr ib 0,.sl (who.map ah) who.length cw,.sl (d.map ah) d.length cd] M K):=@hid _ (λ{K} q=>agY hm.ok (λx hx=>hm.av x hx) hcode (P:=λx=>YR adm rs who x [] 1) (λx hx=>@hid _ (λ{K} q=>ag4 (.inl rfl) hrok hat.o (by decide) amM hadm.b hwm.b (hm.ok.ok x hx).m.b (up hib) q)) hdm.b (by rw[hV];exact q));have kk4:Hid (∀{K:ajq},K (ZJ V) M->ajp 11 [.ptr rt 0,.agg [.sl (adm.map ah) adm.length ca,.sl (dz rs) rs.length cr],.sl (who.map ah) who.length cw,.sl (d.map ah) d.length cd] M K):=@hid _ (λ{K} q=>ahs hm.ok.ok amM (up hm.rt) (P:=λx=>YR adm rs who x [] 1) (λx hx=>@hid _ (λ{L K} q=>adJ (@hid _ (λ{L K} q=>ahv (.inl rfl) hrok hat.o (by decide) amM hadm hwm (hm.ok.ok x hx).m q)) q)) ⟨_,_,rfl⟩ hdm (by rw[ade hm.ok.nms,hV];exact q));have hnb:dnB V.2:=by rw[<- hV];exact afx hm.ok.ok d
 obtain⟨vi,vn⟩:=V;simp only at hnb;have kk5:Hid (Ctr Tryz.prog 12 [.sl (vn.map ah) vn.length none,.sl (vn.map ah) vn.length none] (.bool true)):=@hid _ (λ{L K} q=>afV hnb.1 hnb.2 q);simp only[ZJ,dnA]at kk3 kk4;clear up hm hcode hrok hV hnb hwm hdm hadm hrl hib hat hsm hw hd;refine wk ?_
 trace_state
 exact ac (h.o _)
open Go Go.ChangeShapes
theorem af6:RdZ Tryz.prog 103 Kj (λr=>a8 r.at_):=
 (oT Tryz.underlying103 (N:=6) amO (cQ (sz:=1) rfl amO (Rd.z (ZV Tryz.underlying3)) (cQ (sz:=1) rfl amO (qE Tryz.underlying9) (cQ (sz:=1) rfl amO (qE Tryz.underlying9) (cQ (sz:=1) rfl amO (qE Tryz.underlying9) (cQ (sz:=1) rfl amO (Rd.z (ZV Tryz.underlying3)) (cQ (sz:=1) rfl amO (Rd.z (aba Tryz.underlying4)) (FD rfl)))))))).map
  λy hy=>⟨⟨y.1,y.2.1,y.2.2.1,y.2.2.2.1,y.2.2.2.2.1,y.2.2.2.2.2.1⟩,by have:=hy.2.2.2.1;simp only[reachBytes]at this;unfold a8;simp only;omega,rfl⟩
abbrev ai7(w:Wld):List AV:=[.sl (w.1.flatMap oJ) w.1.length none,dnA w.2.1,.sl (dz w.2.2) w.2.2.length none]
theorem af5:RdZ Tryz.prog 27 ai7 aji :=
 (oT Tryz.underlying27 (N:=3) amO (cQ (sz:=1) rfl amO ab8 (cQ (sz:=1) rfl amO Ux (cQ (sz:=1) rfl amO (iH Tryz.underlying25 af6 amO) (FD rfl))))).map
  λy hy=>⟨(y.1,y.2.1,y.2.2.1),⟨hy.1.1,hy.1.2,hy.2.1,by have:=hy.2.2.1.1;simp only[maxLen]at this;simp only;omega,hy.2.2.1.2⟩,rfl⟩
end Go.Proofs.YtdnfjhflkkpokaaGreatDoor.Av
