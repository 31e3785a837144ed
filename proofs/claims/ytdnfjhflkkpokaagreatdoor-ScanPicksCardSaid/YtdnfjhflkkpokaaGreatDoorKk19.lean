/- Joined texts of the walk, made small by a program. -/
import Derived.Test.YtdnfjhflkkpokaaGreatDoorKk5
import Derived.Test.YtdnfjhflkkpokaaGreatDoorKk4
import Derived.Test.YtdnfjhflkkpokaaGreatDoorRows
import Derived.KernelRfl
import Derived.Test.YtdnfjhflkkpokaaGreatDoorKk6
import Derived.Test.YtdnfjhflkkpokaaGreatDoorKk7
import Derived.Test.YtdnfjhflkkpokaaGreatDoorKk8
import Derived.Test.YtdnfjhflkkpokaaGreatDoorKk11
import Derived.Test.YtdnfjhflkkpokaaGreatDoorKk12
import Derived.Test.YtdnfjhflkkpokaaGreatDoorKk15
import Derived.Test.YtdnfjhflkkpokaaGreatDoorKk17
import Derived.Test.YtdnfjhflkkpokaaGreatDoorKk13
set_option linter.unusedSimpArgs false
set_option linter.unusedVariables false
namespace Go.Proofs.YtdnfjhflkkpokaaGreatDoor.Av
open Go
variable {L:List Blk}{K:ajq}
set_option maxHeartbeats 8000000
set_option maxRecDepth 100000
theorem ae1{l:List Atr}{k:Nat}(hk:k<l.length):(aB l).getD (k*2+1) .undef=Xl (l.getD k ([],[])).2:=by have h2:=congrArg (λl=>l[1]?) (iw hk);simp only[akj (show 1<2 by omega),aki]at h2;rw[ajO,h2];rfl
end Go.Proofs.YtdnfjhflkkpokaaGreatDoor.Av
set_option maxRecDepth 100000
namespace Go.Proofs.YtdnfjhflkkpokaaGreatDoor.Av
open Go
variable {L:List Blk}{K:ajq}
def GS:LSO:=[Aj 4]
def GR:LSO:=[Aa 7 0,Af 8 7,Aa 9 1,Af 10 9,Bg 11 8 10]
def GP:LSO:=[Aj 4]
def GN:LSO:=[Aa 12 0,Af 13 12,Ad 14 0]
def GM:LSO:=[Al 15 14 13]
def GK:LSO:=[Aa 16 14,Aa 5 16]
def GJ:LSO:=[Aa 17 0,Aa 18 5,Am 19 2 17 18,Ac 20 0 19,Ab 21 1 20,Aa 22 1,Aa 23 5,Am 24 2 22 23,Ac 25 0 24,Ab 26 1 25,Bg 27 21 26,Aa 28 27,.grp none 28 false
 [Ag 29 28 0,Ag 30 28 5,og 31 28 false (.iaddr 2 (tm 29) (tm 30)),AA 32 28 1 31,AB 33 28 1 32,AM 34 28 33,Ag 35 28 1,Ag 36 28 5,og 37 28 false (.iaddr 2 (tm 35) (tm 36)),
 AA 38 28 1 37,AB 39 28 1 38,AM 40 28 39,og 41 28 false (.bin .neq (tm 34) (tm 40))]
 42 (tm 41)]
def GI:LSO:=[Aj 4]
def GH:LSO:=[Aa 43 0,Aa 44 5,Am 45 2 43 44,Ac 46 1 45,Ab 47 1 46,Af 48 47,Ad 49 0]
def GF:LSO:=[Al 50 49 48]
def zp:LSO:=[Aa 51 49,Aa 6 51]
def zo:LSO:=[Aa 52 0,Aa 53 5,Am 54 2 52 53,Ac 55 1 54,Ab 56 1 55,Aa 57 6,Am 58 1 56 57,Ab 59 1 58,Aa 60 1,Aa 61 5,Am 62 2 60 61,Ac 63 1 62,Ab 64 1 63,Aa 65 6,
 Am 66 1 64 65,Ab 67 1 66,Bg 68 59 67]
def zn:LSO:=[Aj 4]
def zm:LSO:=[Ah 69 49 1,Aa 49 69]
def zl:LSO:=[Ah 70 14 1,Aa 14 70]
def zk:LSO:=[A6 4]
def yf:aQ:=⟨71,(amF GS [] (.seq (amF GR Co (amH 11 (.sreg GP []))) (.seq (amF GN Cs (amI 0 (amF GM [] (.seq (amJ 15 0) (.seq (.block 1 (amF GK Cl (.seq (.seq (.sdreg GJ [.pure,.pure,(.read 0 0),.pure,(.read 0 0),.pure,.pure,(.read 0 0),.pure,(.read 0 0),.pure,.pure,.pure,.pure,(.read 0 0),.pure,(.read 0 0),(.read 0 0),.pure,.pure,(.read 0 0),.pure,(.read 0 0),(.read 0 0)] CQ) (amH 42 (.sreg GI []))) (amF GH Cw (amI 2 (amF GF [] (.seq (amJ 50 2) (.seq (.block 3 (amF zp Cl (.seq (.sdreg zo [.pure,.pure,(.read 0 0),.pure,(.read 0 0),.pure,(.read 0 0),(.read 0 0),.pure,.pure,(.read 0 0),.pure,(.read 0 0),.pure,(.read 0 0),(.read 0 0)] CL) (amH 68 (.sreg zn []))))) (.sreg zm Cl))))))))) (.sreg zl Cl)))))) (amF zk [] .ret)))),[(.tmp 4)]⟩
attribute [push_cast] GS GR GP GN GM GK GJ GI GH GF zp zo zn zm zl zk
theorem Ty:amK 18=amL yf:=amO
attribute [push_cast] yf
set_option maxHeartbeats 8000000
set_option maxRecDepth 100000
theorem adG{l:List Atr}{cap cap':Option Nat}(hl:l.length<=1100000)(hz:∀a∈l,a.2.length<=1100000)(h:K (.bool true) L):
  ajp 18 [.sl (aB l) l.length cap,.sl (aB l) l.length cap'] L K:=by
 replace h:=hid h;refine ajo Ty ?_;refine aq (λm T' L'=>∃k:Nat,m=l.length-k/\k<=l.length/\T'=[(14,.int .i64 (k:Int)),(13,.int .i64 l.length),(0,.sl (aB l) l.length cap),(1,.sl (aB l) l.length cap')]/\L=L') (CutS (b:=ajs _)) ⟨0,rfl,aju _,rfl,rfl⟩ ?_;rintro _ _ L' ⟨k,rfl,hk,rfl,e⟩;subst e;by_cases hlt:k<l.length;have g1:(k:Int)<(l.length:Int):=amM;have g2:=ajn k amM;have e4:k*2+1<(aB l).length:=by rw[ir];omega
 have e4':k*2<(aB l).length:=amM;have e5:=ae1 hlt;have e8:(aB l).getD (k*2) .undef=.str (l.getD k ([],[])).1:=by have h3:=congrArg (λl=>l[0]?) (iw hlt);simp only[akj (show 0<2 by omega),aki,akz]at h3;rw[ajO,h3];rfl
 obtain⟨⟨nm,vs⟩,ha⟩:∃a,l.getD k ([],[])=a:=⟨_,rfl⟩;have hvs:=hz (nm,vs) (by rw[<- ha];simp[hlt]);simp only at hvs;rw[ha]at e5 e8;simp only[Xl]at e5 e8;clear ha;refine wk ?_;refine aq (λm T' L'=>∃j:Nat,m=vs.length-j/\j<=vs.length/\T'=[(49,.int .i64 (j:Int)),(48,.int .i64 vs.length),(5,.int .i64 (k:Int)),(14,.int .i64 (k:Int)),(13,.int .i64 l.length),(0,.sl (aB l) l.length cap),(1,.sl (aB l) l.length cap')]/\L=L') (CutS (b:=ajs _)) ⟨0,rfl,aju _,rfl,rfl⟩ ?_;rintro _ _ L' ⟨j,rfl,hj,rfl,e⟩;subst e;by_cases hjl:j<vs.length;have j1:(j:Int)<(vs.length:Int):=amM;have j2:=ajn j amM;obtain⟨v,hv⟩:=ajl (vs.getD j []);have g3:(vs.map AV.str).getD j .undef=.str v:=by rw[<- hv];simp[hjl]
 clear hv;refine wk ?_;exact amR amM amP ⟨j+1,rfl,hjl,rfl,rfl⟩;have j1:¬(j:Int)<(vs.length:Int):=amM;refine wk ?_;exact amR amM amP ⟨k+1,rfl,hlt,rfl,rfl⟩;have g1:¬(k:Int)<(l.length:Int):=amM;refine wk ?_;exact ac h.o
section
variable {α:Type}(key:α->List UInt8)
def NX(l:List α):Prop:=l.Pairwise λa b=>key a<key b
theorem agx(l:List α)(k:List UInt8):tg key l k<=l.length:=by unfold tg;exact(List.takeWhile_sublist _).length_le
end
abbrev mg(a:Atr):List UInt8:=ag a.1
theorem aaW(n:List UInt8):∀l:List Atr,NX mg l->md l n=match l[tg mg l (ag n)]? with
  |some a=>if ag a.1=ag n then a.2 else[]
  |none=>[]
 |[],_=>rfl
 | a::t,h=>by
   obtain⟨h1,h2⟩:=alj.1 h;rw[md,xF];by_cases hx:mg a<ag n
   .have hne:¬ag a.1=ag n:=λe=>by rw[show mg a=ag a.1 from rfl,e]at hx;exact akI _ hx
    rw[if_pos hx,if_neg hne,aaW n t h2,akv]
   .rw[if_neg hx,akn];simp only;by_cases he:ag a.1=ag n
    .rw[if_pos he,if_pos he]
    .rw[if_neg he,if_neg he];have hlt:ag n<mg a:=by
      rcases alU.1 (akR.1 hx)with e|e
      .exact e
      .exact absurd e.symm he
     have hno:∀u:List Atr,(∀b∈u,mg a<mg b)->md u n=[]:=λu=>by
      induction u with
      |nil=>intro _;rfl
      | cons b u ih =>
        intro hb;rw[md,if_neg,ih (λc hc=>hb c (by simp[hc]))];intro e;have h3:=alG hlt (hb b amN);rw[show mg b=ag b.1 from rfl,e]at h3;exact akI _ h3
     exact hno t h1
theorem Wz(n:List UInt8)(vs:List (List UInt8)):∀l:List Atr,(∀a∈l,ag n≠ag a.1)->oS n vs true l=l
 |[],_=>rfl
 |a::t,h=>by rw[oS,if_neg amN,if_pos (h a amN),alf,Wz n vs t (λb hb=>h b (by simp[hb]))];rfl
theorem aa2(n:List UInt8)(vs:List (List UInt8)):∀l:List Atr,NX mg l->oS n vs false l=match l[tg mg l (ag n)]? with
  |some a=>if ag a.1=ag n then l.set (tg mg l (ag n)) (n,vs)else l.take (tg mg l (ag n))++(n,vs)::l.drop (tg mg l (ag n))
  |none=>l++[(n,vs)]
 |[],_=>rfl
 | a::t,h=>by
   obtain⟨h1,h2⟩:=alj.1 h;rw[oS,xF];by_cases hx:mg a<ag n
   .have hx2:ag a.1<ag n:=hx;have hne:ag n≠ag a.1:=λe=>by rw[e]at hx2;exact akI _ hx2
    rw[if_pos hx,if_neg (λe=>e.2 hx2),if_pos hne,decide_eq_true hx2,akv];simp only[alc,al6,aj0,ak2,ald,alR,akd];rw[aa2 n vs t h2];rcases t[tg mg t (ag n)]? with _|b
    .rfl
    .simp only;split<;>rfl
   .have hx2:¬ag a.1<ag n:=hx;rw[if_neg hx,if_pos ⟨rfl,hx2⟩,decide_eq_false hx2,akn];have hge:∀b∈t,ag n≠ag b.1:=λb hb e=>by have h3:ag a.1<ag b.1:=h1 b hb;rw[<- e]at h3;exact hx2 h3
    simp only[alL,alP,List.set_cons_zero,akW,alB,aj0,akd];rw[Wz n vs t hge];by_cases he:ag a.1=ag n
    .rw[if_pos he,if_neg (λq=>q he.symm)];rfl
    .rw[if_neg he,if_pos (λq=>he q.symm)];rfl
theorem TY{α:Type}{l:List α}{c:Nat}{v b:α}:b∈l.take c++v::l.drop c↔b=v\/b∈l:=by rw[(YC l c v).mem_iff,ajM]
theorem JZ{α:Type}{key:α->List UInt8}{v:α}:∀{l:List α},NX key l->(∀x∈l,key x≠key v)->NX key (l.take (tg key l (key v))++v::l.drop (tg key l (key v)))
 |[],_,_=>by simp[NX]
 | a::t,h,hn=>by
   obtain⟨h1,h2⟩:=alj.1 h;rw[xF];by_cases hx:key a<key v
   .rw[if_pos hx];simp only[ald,alR,akd];refine alj.2 ⟨λb hb=>?_,JZ h2 λx hxx=>hn x (by simp[hxx])⟩;rcases TY.1 hb with rfl|hb
    .exact hx
    .exact h1 b hb
   .rw[if_neg hx];have hlt:key v<key a:=by
     rcases alU.1 (akR.1 hx)with e|e
     .exact e
     .exact absurd e.symm (hn a amN)
    simp only[akW,alB,aj0];refine alj.2 ⟨λb hb=>?_,h⟩;rcases ajM.1 hb with rfl|hb
    .exact hlt
    .exact alG hlt (h1 b hb)
theorem Wv{ts:List Typ}{n m:List UInt8}(h:ag n=ag m):fS ts n=fS ts m:=by unfold fS;rw[h]
def InV(syn:Int)(l:List (List UInt8)):Prop:=NX (iy syn) l/\∀v∈l,(sX syn v).isSome=true
theorem abw{syn:Int}{single:Bool}:∀{vs l:List (List UInt8)},InV syn l->(fX syn single l vs).2=0->InV syn (fX syn single l vs).1
 | [],l,h,h0=>by
   rw[fX]at h0⊢;split
   .rename_i hc;rw[if_pos hc]at h0;cases h0
   .exact h
 | v::vs,l,h,h0=>by
   rw[fX]at h0⊢;rcases hv:sX syn v with _|n
   .rw[hv]at h0;cases h0
   .rw[hv]at h0;simp only at h0⊢;split
    .rename_i hc;rw[if_pos hc]at h0;cases h0
    .rename_i hc;rw[if_neg hc]at h0;have hk:iy syn v=n:=(by simp[iy,hv]);have hin:inM syn l (iy syn v)=false:=(by rw[hk];simpa using hc);refine abw ?_ h0;rw[UP syn v l hin];refine⟨JZ h.1 λx hx e=>?_,λx hx=>?_⟩
     .simp only[inM,alr,decide_eq_true_eq]at hin;exact hin x hx e
     .rcases TY.1 hx with rfl|hx
      .rw[hv];rfl
      .exact h.2 x hx
def InA(ts:List Typ)(l:List Atr):Prop:=NX mg l/\∀a∈l,∃ty,fS ts a.1=some ty/\ty.1=a.1/\a.2≠[]/\InV ty.2.1 a.2/\(ty.2.2.1=true->a.2.length<=1)
theorem afA{ts:List Typ}{l:List Atr}{n:List UInt8}{ty:Typ}(h:InA ts l)(ht:fS ts n=some ty):InV ty.2.1 (md l n):=by rw[aaW n l h.1];rcases hg:l[tg mg l (ag n)]? with _|a;exact⟨List.Pairwise.nil,λv hv=>by cases hv⟩;simp only;split;rename_i he;obtain⟨ty',h1,_,_,h4,_⟩:=h.2 a (akg hg);rw[Wv he,ht]at h1;cases h1;exact h4;exact⟨List.Pairwise.nil,λv hv=>by cases hv⟩
theorem Ut{α:Type}{key:α->List UInt8}{k:List UInt8}:∀{l:List α},NX key l->(∀a,l[tg key l k]?=some a->key a≠k)->∀x∈l,key x≠k
 |[],_,_,_,hx=>by cases hx
 | a::t,h,hc,x,hx=>by
   obtain⟨h1,h2⟩:=alj.1 h;rw[xF]at hc;by_cases ha:key a<k
   .rw[if_pos ha]at hc;rcases ajM.1 hx with rfl|hx
    .intro e;rw[e]at ha;exact akI _ ha
    .exact Ut h2 (λb hb=>hc b (by simpa using hb)) x hx
   .rw[if_neg ha]at hc;have hne:=hc a amN;have hlt:k<key a:=by
     rcases alU.1 (akR.1 ha)with e|e
     .exact e
     .exact absurd e.symm hne
    rcases ajM.1 hx with rfl|hx
    .exact hne
    .intro e;have:=alG hlt (h1 x hx);rw[e]at this;exact akI _ this
theorem abV{α:Type}{key:α->List UInt8}{l:List α}{c:Nat}{a x:α}(h:NX key l)(hc:l[c]?=some a)(hk:key x=key a):NX key (l.set c x):=by
 have e:(l.set c x).map key=l.map key:=by rw[List.map_set,hk];obtain⟨hlt,rfl⟩:=ajr.1 hc;rw[<- List.getElem_map (f:=key) (h:=by simpa using hlt),List.set_getElem_self]
 have h2:(l.map key).Pairwise (· < ·):=amr.2 h;rw[<- e]at h2;exact amr.1 h2
theorem afP{ts:List Typ}{l:List Atr}{n:List UInt8}{vs:List (List UInt8)}{ty:Typ}(h:InA ts l)(ht:fS ts n=some ty)(hn:ty.1=n)(hv:vs≠[])(hi:InV ty.2.1 vs)(h1:ty.2.2.1=true->vs.length<=1):InA ts (oS n vs false l):=by
 have hnew:∃ty',fS ts n=some ty'/\ty'.1=n/\vs≠[]/\InV ty'.2.1 vs/\(ty'.2.2.1=true->vs.length<=1):=⟨ty,ht,hn,hv,hi,h1⟩;rw[aa2 n vs l h.1];rcases hg:l[tg mg l (ag n)]? with _|a;simp only;have hno:=Ut (k:=ag n) h.1 (λa ha=>by rw[hg]at ha;cases ha);have hc:tg mg l (ag n)=l.length:=Nat.le_antisymm (agx _ _ _) (List.getElem?_eq_none_iff.1 hg);have e:l++[(n,vs)]=l.take (tg mg l (mg (n,vs)))++(n,vs)::l.drop (tg mg l (mg (n,vs))):=by rw[show mg (n,vs)=ag n from rfl,hc,ajL,ake]
 rw[e];refine⟨JZ h.1 hno,λb hb=>?_⟩;rcases TY.1 hb with rfl|hb;exact hnew;exact h.2 b hb;simp only;split;rename_i he;refine⟨abV h.1 hg he.symm,λb hb=>?_⟩;rcases List.mem_or_eq_of_mem_set hb with hb|rfl;exact h.2 b hb;exact hnew;rename_i he;have hno:=Ut (k:=ag n) h.1 (λb hb=>by rw[hg]at hb;cases hb;exact he);refine⟨JZ (key:=mg) (v:=(n,vs)) h.1 hno,λb hb=>?_⟩;rcases TY.1 hb with rfl|hb;exact hnew;exact h.2 b hb
theorem aea(syn:Int)(v:List UInt8)(l:List (List UInt8)):ik syn v false l≠[]:=by rcases l with _|⟨x,t⟩;simp[ik];simp[ik]
theorem abv{syn:Int}{single:Bool}:∀{vs l:List (List UInt8)},l≠[]\/vs≠[]->(fX syn single l vs).2=0->(fX syn single l vs).1≠[]
 | [],l,h,h0=>by
   rw[fX]at h0⊢;split
   .rename_i hc;rw[if_pos hc]at h0;cases h0
   .rcases h with h|h
    .exact h
    .exact absurd rfl h
 | v::vs,l,h,h0=>by
   rw[fX]at h0⊢;rcases hv:sX syn v with _|n
   .rw[hv]at h0;cases h0
   .rw[hv]at h0;simp only at h0⊢;split
    .rename_i hc;rw[if_pos hc]at h0;cases h0
    .rename_i hc;rw[if_neg hc]at h0;exact abv (.inl (aea syn v l)) h0
theorem Tc{syn:Int}{single:Bool}:∀{vs l:List (List UInt8)},(fX syn single l vs).2=0->single=true->(fX syn single l vs).1.length<=1
 | [],l,h0,hs=>by
   rw[fX]at h0⊢;split
   .rename_i hc;rw[if_pos hc]at h0;cases h0
   .rename_i hc;have:¬1<l.length:=λe=>hc ⟨hs,e⟩
    simp only;omega
 | v::vs,l,h0,hs=>by
   rw[fX]at h0⊢;rcases hv:sX syn v with _|n
   .rw[hv]at h0;cases h0
   .rw[hv]at h0;simp only at h0⊢;split
    .rename_i hc;rw[if_pos hc]at h0;cases h0
    .rename_i hc;rw[if_neg hc]at h0;exact Tc h0 hs
theorem abj{ts:List Typ}:∀{l out:List Atr},InA ts out->(mf ts out l).2=0->InA ts (mf ts out l).1
 |[],out,h,_=>h
 | a::t,out,h,h0=>by
   rw[mf]at h0⊢;rcases ht:fS ts a.1 with _|ty
   .rw[ht]at h0;cases h0
   .rw[ht]at h0;simp only at h0⊢;split
    .rename_i hc;rw[if_pos hc]at h0;cases h0
    .rename_i hc;rw[if_neg hc]at h0;split
     .rename_i hd;rw[if_pos hd]at h0;exact absurd h0 hd
     .rename_i hd;rw[if_neg hd]at h0;simp only[ne_eq,alH]at hd;have hne:=abv (l:=md out a.1) (.inr hc) hd;have hem:(fX ty.2.1 ty.2.2.1 (md out a.1) a.2).1.isEmpty=false:=(by simpa using hne);rw[hem]at h0⊢;have hts:=Rs ht;exact abj (afP h (by rw[Wv hts.2];exact ht) rfl hne (abw (afA h ht) hd) (Tc hd)) h0
variable {L:List Blk}{K:ajq}
theorem ada(ts:List Typ)(names:List (List UInt8))(a:Atr):
  ((((decide (names=[]) && !opM ts a.1) ||(names.contains [42] && !opM ts a.1)) ||(names.contains [43]&&opM ts a.1)) ||names.any λn=>decide (ag n=ag a.1))=Fv ts names a:=by
 unfold Fv R7;rw[ak8];simp only[akc,ajv,decide_eq_true_eq,akX,akN,akb];constructor;rintro(((h|h)|h)|⟨n,h1,h2⟩);exact .inl h;exact .inr ⟨_,h.1,.inl ⟨rfl,h.2⟩⟩;exact .inr ⟨_,h.1,.inr (.inl ⟨rfl,h.2⟩)⟩;exact .inr ⟨n,h1,.inr (.inr h2)⟩;rintro(h|⟨n,h1,h2|h2|h2⟩);exact .inl (.inl (.inl h));rw[h2.1]at h1;exact .inl (.inl (.inr ⟨h1,h2.2⟩));rw[h2.1]at h1;exact .inl (.inr ⟨h1,h2.2⟩);exact .inr ⟨n,h1,h2⟩
variable {α:Type}
set_option maxHeartbeats 8000000
set_option maxRecDepth 100000
theorem ahB(ts:List Typ):InA ts []:=⟨List.Pairwise.nil,λa ha=>by cases ha⟩
end Go.Proofs.YtdnfjhflkkpokaaGreatDoor.Av
set_option maxRecDepth 100000
namespace Go.Proofs.YtdnfjhflkkpokaaGreatDoor.Av
open Go
variable {L:List Blk}{K:ajq}
def FZ:LSO:=[A5 4 0,Ak 8]
def FY:LSO:=[Ak 9]
def FX:LSO:=[Aa 17 1,Af 18 17,Ad 19 0]
def FW:LSO:=[Al 20 19 18]
def FV:LSO:=[Am 21 2 17 19,Ar 22 2 21,Ba 11,An 2 11 22]
def FU:LSO:=[Ac 23 0 4,Ab 24 1 23,Ac 25 0 11,Ab 26 1 25,Au 27 41 24 26,Aa 12 27]
def FT:LSO:=[Aa 28 12,AJ 29 28 0,Aa 30 29,.grp none 30 true
 [Ay 31 30 0 4,Az 32 30 1 31,Ae 33 30 12,Bh 34 30 4 32 33,Ay 35 30 3 34,Az 36 30 1 35]
 37 (tm 36),Aa 13 37]
def FS:LSO:=[Aa 38 2,Af 39 38,Ao 40 39 0,Aa 41 40,.grp none 41 true
 [Ae 42 41 13,Bt 43 41 42]
 44 (tm 43),Aa 45 44,.grp none 45 false
 [Ag 46 45 2,og 47 45 false (.call 48 [(tm 46),(.av (.str [42]))]),Ag 48 45 47,.grp (some (45,false)) 48 true
 [Ae 49 48 13,Bt 50 48 49]
 51 (tm 50)]
 52 (tm 51),Aa 53 52,.grp none 53 false
 [Ag 54 53 2,og 55 53 false (.call 48 [(tm 54),(.av (.str [43]))]),Ag 56 53 55,.grp (some (53,false)) 56 true
 [Ae 57 56 13]
 58 (tm 57)]
 59 (tm 58),Aa 14 59]
def FR:LSO:=[Aa 60 2,Af 61 60,Ad 62 0]
def FQ:LSO:=[Al 63 62 61]
def y9:LSO:=[Am 64 1 60 62,Ab 65 1 64,Aa 16 65]
def y8:LSO:=[Aa 66 14,Aa 67 66,.grp none 67 false
 [Ag 68 67 16,AH 69 67 49 68,AA 70 67 0 11,AB 71 67 1 70,AH 72 67 49 71,Bp 73 67 69 72]
 74 (tm 73),Aa 14 74]
def yZ:LSO:=[Ah 75 62 1,Aa 62 75]
def yY:LSO:=[Aa 76 14,Aa 77 76,.grp none 77 true
 [Ae 78 77 3]
 79 (tm 78)]
def yX:LSO:=[Aa 80 9,Ac 81 0 11,Ab 82 1 81,o1 83 (.build [(.str []),(.sl [] 0 (some 0))] [(0,(1,(tm 82)))]),Bw 84 83,B6 85 80 84,Aa 9 85]
def yW:LSO:=[Aa 86 14]
def yV:LSO:=[Aa 87 9,Ar 88 2 11,Bw 89 88,B6 90 87 89,Aa 9 90]
def yU:LSO:=[Ah 91 19 1,Aa 19 91]
def yT:LSO:=[Aa 92 9,Aa 8 92]
def x9:aQ:=⟨93,(amF FZ [] (amF FY [] (.seq (amF FX [] (amI 0 (amF FW [] (.seq (amJ 20 0) (.seq (.block 1 (amF FV Cm (amF FU Cq (amF FT Co (amF FS Cu (.seq (amF FR [] (amI 2 (amF FQ [] (.seq (amJ 63 2) (.seq (.block 3 (amF y9 Cm (.sdreg y8 [.pure,.pure,.pure,(.read 0 0),.pure,(.read 0 0)] Cp))) (.sreg yZ Cl)))))) (amF yY Cm (amG 79 (.sreg yX Cr) (amF yW [] (amG 86 (.sreg yV Co) .skip)))))))))) (.sreg yU Cl)))))) (amF yT Cl .ret)))),[(.tmp 8)]⟩
attribute [push_cast] FZ FY FX FW FV FU FT FS FR FQ y9 y8 yZ yY yX yW yV yU yT
theorem Tt:amK 19=amL x9:=amO
attribute [push_cast] x9
end Go.Proofs.YtdnfjhflkkpokaaGreatDoor.Av
set_option maxRecDepth 100000
namespace Go.Proofs.YtdnfjhflkkpokaaGreatDoor.Av
open Go
variable {L:List Blk}{K:ajq}
def ox:LSO:=[Aj 6]
def ow:LSO:=[Aa 11 0,Ai 12 13 11,A7 13 12,Aa 14 13,.grp none 14 false
 [Ag 15 14 1,AM 16 14 15,AF 17 14 16 30]
 18 (tm 17)]
def ov:LSO:=[AL 19 9,Aa 6 19]
def ou:LSO:=[AL 21 15,Aa 22 0,Au 23 14 21 22,Aa 20 23,Ap 24 20,Aq 25 20,Aa 7 24,Aa 8 25]
def ot:LSO:=[Aa 26 8,A8 27 26 0]
def oq:LSO:=[AL 28 9,Aa 6 28]
def oo:LSO:=[Aa 29 7,Ai 30 16 29,Aa 9 30]
def om:LSO:=[AL 31 15,Aa 32 7,Aa 33 1,Aa 34 2,BG 35 17 31 32 33 34,Aa 10 35]
def ol:LSO:=[AL 36 9,Aa 37 36,.grp none 37 true
 [Ae 38 37 10,og 39 37 true (.call 15 []),Ae 40 37 9,Ae 41 37 1,Ae 42 37 2,og 43 37 true (.call 19 [(tm 39),(tm 40),(tm 41),(tm 42)]),AE 44 37 18 38 43]
 45 (tm 44),Aa 46 45,.grp none 46 true
 [Ae 47 46 7,Ae 48 46 9,AE 49 46 18 47 48]
 50 (tm 49),Aa 6 50]
def jy:aQ:=⟨51,(amF ox [] (.seq (amF ow Co (amH 18 (.sreg ov Cl))) (amF ou CF (.seq (amF ot Cl (amH 27 (.sreg oq Cl))) (amF oo Cm (amF om Cq (amF ol Cq .ret))))))),[(.tmp 6)]⟩
attribute [push_cast] ox ow ov ou ot oq oo om ol
theorem JL:amK 4=amL jy:=amO
set_option maxHeartbeats 8000000
set_option maxRecDepth 100000
theorem acr{ts:List Typ}{l:List Atr}{a:Atr}(hts:ah3 ts)(h:InA ts l)(ha:a∈l):a8 a.1/\a.2≠[]:=by obtain⟨ty',h1,h2,h3,_⟩:=h.2 a ha;exact⟨by rw[<- h2];exact hts.2.1 _ (Rs h1).1,h3⟩
open Go Go.ChangeShapes
theorem ZT:RdZ Tryz.prog 50 (λl:List (List UInt8)=>[Xl l]) (λl=>(l.length:Int)<=9223372036854775807/\∀v∈l,a8 v):=
 (iH Tryz.underlying50 (qE Tryz.underlying9) amO).map fun l hl=>⟨l,⟨by have:=hl.1;simp only [maxLen] at this;omega,fun v hv=>by have:=hl.2 v hv;simp only [reachBytes] at this;unfold a8;omega⟩,by
  have e:∀l:List (List UInt8),l.map AV.str=l.flatMap λr=>[AV.str r]:=λl=>by
   induction l with
   |nil=>rfl
   |cons a l ih=>rw[ajP,aj5,ih];rfl
  simp only[Xl,e l]⟩
theorem ab9:RdZ Tryz.prog 38 (λl=>[.sl (aB l) l.length none]) (λl=>(l.length:Int)<=9223372036854775807/\∀a∈l,a8 a.1/\(a.2.length:Int)<=9223372036854775807):=
 (iH Tryz.underlying38 aa9 amO).map λl hl=>⟨l,⟨by have:=hl.1;simp only[maxLen]at this;omega,λa ha=>by obtain⟨h1,h2⟩:=hl.2 a ha;simp only[maxLen]at h2;simp only[reachBytes]at h1;exact⟨by unfold a8;omega,amM⟩⟩,rfl⟩
def atN:List (List UInt8)->List UInt8->Nat->Int
 |[],_,_=>-1
 |a::l,n,i=>if ag a=ag n then(i:Int)else atN l n (i+1)
theorem aiU{ts:List Typ}{cap:Option Nat}{n:List UInt8}(hl:ts.length<=2000000)(hts:∀t∈ts,a8 t.1)(hn:a8 n)(h:K (.int .i64 (atN (ts.map (·.1)) n 0)) L):
  ajp 41 [.sl (cq ts) ts.length cap,.str n] L K:=by
 obtain⟨R,hR⟩:=ajl (atN (ts.map (·.1)) n 0);rw[hR]at h;replace h:=hid h;replace hR:=hid hR;refine ajo NV ?_;refine aq (λm T' L'=>∃k:Nat,m=ts.length-k/\k<=ts.length/\Hid (atN ((ts.drop k).map (·.1)) n k=R)/\T'=[(8,.int .i64 (k:Int)),(7,.int .i64 ts.length),(0,.sl (cq ts) ts.length cap),(1,.str n)]/\L=L') (CutS (b:=ajs _)) ⟨0,rfl,aju _,hid (by simpa using hR.o),rfl,rfl⟩ ?_;rintro _ _ L' ⟨k,rfl,hk,hI,rfl,e⟩;subst e;by_cases hlt:k<ts.length;have g1:(k:Int)<(ts.length:Int):=amM;have g2:=ajn k amM;have e4:k*4<(cq ts).length:=by rw[tK];omega
 have e3:(cq ts).getD (k*4) .undef=.str (ts.getD k me).1:=by have h3:=congrArg (λl=>l[0]?) (qC hlt);simp only[akj (show 0<4 by omega),aki,akz]at h3;rw[ajO,h3];rfl
 obtain⟨ty,hty⟩:=ajl (ts.getD k me);have hm:a8 ty.1:=hts _ (by rw[<- hty];simp[hlt]);have hdr:ts.drop k=ty::ts.drop (k+1):=by rw[ajY hlt,<- hty];simp[hlt]
 have hI2:=hI.o;rw[hdr,ajP,atN]at hI2;rw[hty]at e3;clear hdr hty hI hR;by_cases hq:ag ty.1=ag n;rw[if_pos hq]at hI2;have h':=h.o;rw[<- hI2]at h';replace h':=hid h';clear hI2;have kk1:=@amT _ _ _ _ (bu hm);have kk2:=@amT _ _ _ _ (bu hn);refine wk ?_;exact ac h'.o;rw[if_neg hq]at hI2;replace hI2:=hid hI2;have kk1:=@amT _ _ _ _ (bu hm);have kk2:=@amT _ _ _ _ (bu hn);refine wk ?_;exact amR amM amP ⟨k+1,rfl,hlt,hI2,rfl,rfl⟩;have hke:k=ts.length:=amM;subst hke;have g1:¬(ts.length:Int)<(ts.length:Int):=amM;have hI2:=hI.o;rw[ake,akA,atN]at hI2;have h':=h.o;rw[<- hI2]at h';replace h':=hid h';clear hI hI2 hR;refine wk ?_;exact ac h'.o
end Go.Proofs.YtdnfjhflkkpokaaGreatDoor.Av
set_option maxRecDepth 100000
namespace Go.Proofs.YtdnfjhflkkpokaaGreatDoor.Av
open Go
variable {L:List Blk}{K:ajq}
def Mj:LSO:=[Aj 4]
def Mi:LSO:=[Aa 7 0,Af 8 7,Ad 9 0]
def Mh:LSO:=[Al 10 9 8]
def Mg:LSO:=[Am 11 1 7 9,Ab 12 1 11,Aa 6 12]
def Mf:LSO:=[Aa 13 6,Aa 14 1,AD 15 13 14]
def Me:LSO:=[A6 4]
def Md:LSO:=[Ah 16 9 1,Aa 9 16]
def Mc:LSO:=[Aj 4]
def JG:aQ:=⟨17,(amF Mj [] (.seq (amF Mi [] (amI 0 (amF Mh [] (.seq (amJ 10 0) (.seq (.block 1 (amF Mg Cm (amF Mf Cm (amH 15 (.sreg Me []))))) (.sreg Md Cl)))))) (amF Mc [] .ret))),[(.tmp 4)]⟩
attribute [push_cast] Mj Mi Mh Mg Mf Me Md Mc
theorem VE:amK 48=amL JG:=amO
attribute [push_cast] JG
set_option maxHeartbeats 8000000
set_option maxRecDepth 100000
theorem ai9{l:List (List UInt8)}{k:Nat}(h:k<l.length):(l.map AV.str).getD k .undef=.str (l.getD k []):=by rw[ajO,ajO];simp[h]
theorem agp{xs:List (List UInt8)}{cap:Option Nat}{s:List UInt8}(hn:xs.length<=1000000000000)(h:K (.bool (xs.contains s)) L):
  ajp 48 [.sl (xs.map AV.str) xs.length cap,.str s] L K:=by
 replace h:=hid h;have hg:=hid (λk (q:k<xs.length)=>ai9 q);have hl:(xs.map AV.str).length=xs.length:=amN;obtain⟨X,hX⟩:=ajl (xs.map AV.str);rw[hX]at hg hl⊢;clear hX;refine ajo VE ?_;refine aq (λn T' L'=>∃k:Nat,n=xs.length-k/\k<=xs.length/\T'=[(9,.int .i64 (k:Int)),(8,.int .i64 xs.length),(7,.sl X xs.length cap),(1,.str s)]/\L=L'/\Hid (∀j,j<k->xs.getD j []≠s)) (CutS (b:=ajs _)) ⟨0,rfl,aju _,rfl,rfl,hid amN⟩ ?_;rintro _ _ L' ⟨k,rfl,hk,rfl,e,hr⟩;subst e;by_cases hlt:k<xs.length;have g1:(k:Int)<(xs.length:Int):=amM;have g2:=ajn k amM;have e3:=hg.o k hlt;have e4:k<X.length:=amM;obtain⟨x,hx⟩:=ajl (xs.getD k []);rw[hx]at e3;by_cases hq:x=s;have e:xs.contains s=true:=by rw[akN,<- hq,<- hx];simp[hlt]
 rw[e]at h;replace hx:=hid hx;subst hq;clear e;refine wk ?_;exact ac h.o;have hr2:Hid (∀j,j<k+1->xs.getD j []≠s):=hid (λj hj=>by rcases ajT j k with h|h;exact hr.o j h;have:j=k:=amM;subst this;rw[hx];exact hq)
 clear hx hr;refine wk ?_;exact amR amM amP ⟨k+1,rfl,hlt,rfl,rfl,hr2⟩;have g1:¬(k:Int)<(xs.length:Int):=amM;have e:xs.contains s=false:=by simp only[aku,decide_eq_false_iff_not];intro hs;obtain⟨j,hj,e⟩:=akk.1 hs;exact hr.o j amM (by simp[hj,e])
 rw[e]at h;clear hr e;refine wk ?_;exact ac h.o
theorem ae2(n:List UInt8):∀(ts:List Typ) (i:Nat),(atN (ts.map (·.1)) n i=-1/\fS ts n=none)\/∃k:Nat,k<ts.length/\atN (ts.map (·.1)) n i=((i+k:Nat):Int)/\fS ts n=some (ts.getD k me)
 |[],i=>.inl ⟨rfl,rfl⟩
 | t::ts,i=>by
   by_cases e:ag t.1=ag n
   .exact .inr ⟨0,amN,by simp[atN,e],by simp[fS,e]⟩
   .have e2:fS (t::ts) n=fS ts n:=(by simp[fS,e]);have e3:atN ((t::ts).map (·.1)) n i=atN (ts.map (·.1)) n (i+1):=(by simp[atN,e]);rw[e2,e3];rcases ae2 n ts (i+1)with h|⟨k,h1,h2,h3⟩
    .exact .inl h
    .exact .inr ⟨k+1,by simpa using h1,by rw[h2];omega,by rw[h3];simp⟩
def aeM(o:Bool)(names:List (List UInt8)):Bool:=((decide (names=[]) && !o) ||(names.contains [42] && !o)) ||(names.contains [43]&&o)
theorem afW{ts:List Typ}{capT:Option Nat}{c2:List AV}{n2:Nat}{cap2:Option Nat}(hts:ts.length<=1100000/\∀t∈ts,a8 t.1){l:List Atr}{cl:Option Nat}(hl:l.length<=1100000)(hz:∀a∈l,a8 a.1/\a.2.length<=1100000){names:List (List UInt8)}{cn:Option Nat}(hnl:names.length<=1100000)(hnz:∀n∈names,a8 n){tonly:Bool}{L:List Blk}{K:ajq}(h:K (.sl (aB (cW ts names tonly l)) (cW ts names tonly l).length none) L):
  ajp 19 [.agg [.sl (cq ts) ts.length capT,.sl c2 n2 cap2],.sl (aB l) l.length cl,.sl (names.map AV.str) names.length cn,.bool tonly] L K:=by
 have hat:Hid (∀{n:List UInt8},a8 n->∀{L:List Blk}{K:ajq},K (.int .i64 (atN (ts.map (·.1)) n 0)) L->ajp 41 [.sl (cq ts) ts.length capT,.str n] L K):=@hid _ (λ{n} hn {L K} q=>aiU amM hts.2 hn q);have kk6:Hid (∀{s:List UInt8}{L:List Blk}{K:ajq},K (.bool (names.contains s)) L->ajp 48 [.sl (names.map AV.str) names.length cn,.str s] L K):=@hid _ (λ{s L K} q=>agp amM q);have hge:Hid (∀k,k<ts.length->(cq ts).getD (k*4+3) .undef=.bool (ts.getD k me).2.2.2/\k*4+3<(cq ts).length):=hid (λk hk=>⟨by have h3:=congrArg (λl=>l[3]?) (qC hk);simp only[akj (show 3<4 by omega),aki]at h3;rw[ajO,h3];rfl,by rw[tK];omega⟩)
 obtain⟨TS,hTS⟩:=ajl (cq ts);obtain⟨tl,htl⟩:=ajl (ts.length);rw[hTS,htl]at hat hge⊢;have hty:=hid (λn=>ae2 n ts 0);rw[htl]at hty;obtain⟨hasS,hhs⟩:=ajl (names.contains [42]);obtain⟨hasP,hhp⟩:=ajl (names.contains [43]);have htl2:tl<=1100000:=amM;replace h:=hid h;replace hz:=hid hz;replace hnz:=hid hnz;clear hts hTS htl;refine ajo Tt ?_;refine bK (l:=[]) (n:=0) 9 2 rfl (ajX 2).symm ?_;rw[show(L++[Blk.cells [.sl TS tl capT,.sl c2 n2 cap2]]).length=L.length+1 from by simp];refine aq (λm T' L'=>∃(k z:Nat) (C:List AV) (X:List Blk),m=l.length-k/\k<=l.length/\z<=k/\Hid (C=aB (cW ts names tonly (l.take k))/\z=(cW ts names tonly (l.take k)).length)/\T'=[(19,.int .i64 (k:Int)),(18,.int .i64 l.length),(17,.sl (aB l) l.length cl),(9,.gsl C z (L.length+1) 2),(4,.ptr L.length 0),(2,.sl (names.map AV.str) names.length cn),(3,.bool tonly)]/\L'=L++(.cells [.sl TS tl capT,.sl c2 n2 cap2] :: .spare z 2::X)) amQ ⟨0,0,[],[],rfl,aju _,ajs _,hid ⟨rfl,rfl⟩,rfl,amN⟩ ?_;rintro _ _ _ ⟨k,z,C,X,rfl,hk,hzk,hC,rfl,rfl⟩;by_cases hlt:k<l.length
 .have g1:(k:Int)<(l.length:Int):=amM;have g2:=ajn k amM;have e3:=iw hlt;have e4:k*2+2<=(aB l).length:=(by rw[ir];omega);obtain⟨⟨nm,vs⟩,ha⟩:∃a,l.getD k ([],[])=a:=⟨_,rfl⟩;have hm:(nm,vs)∈l:=(by rw[<- ha];simp[hlt]);have htk:l.take (k+1)=l.take k++[(nm,vs)]:=(by rw[ajN hlt,<- ha];simp[hlt]);have hvs:=hz.o _ hm;rw[ha]at e3;simp only[atA]at e3 hvs;have kk1:Hid (Ctr Tryz.prog 41 [.sl TS tl capT,.str nm] (.int .i64 (atN (ts.map (·.1)) nm 0))):=@hid _ (λ{L K} q=>hat.o hvs.1 q);have kk3:Hid (Ctr Tryz.prog 49 [.str nm] (.str (ag nm))):=@hid _ (λ{L K} q=>bu hvs.1 q);have hs:cW ts names tonly (l.take (k+1))=cW ts names tonly (l.take k)++(if Fv ts names (nm,vs)=true then[(nm,if tonly then[]else vs)]else[]):=by rw[htk,cW,cW,alV,ajV];congr 1;simp only[alM,List.filter_nil];cases Fv ts names (nm,vs)<;>cases tonly<;>rfl
  obtain⟨o,ho⟩:=ajl (opM ts nm);have hw:Fv ts names (nm,vs)=(aeM o names ||names.any λn=>decide (ag n=ag nm)):=(by rw[<- ada,aeM,ho]);have e0:decide ((names.length:Int)=0)=decide (names=[]):=(by cases names<;>simp<;>omega);obtain⟨b0,hb0⟩:=ajl (decide (names=[]));have hdb:aeM o names=(((b0 && !o) ||(hasS && !o)) ||(hasP&&o)):=(by rw[aeM,hb0,hhs,hhp]);obtain⟨DB,hDB⟩:=ajl (aeM o names);rw[hDB]at hw hdb;rw[hw]at hs;rw[hb0]at e0;obtain⟨fn,hfn⟩:=ajl (ag nm);rw[hfn]at kk3 hs;have hty2:=hty.o nm;obtain⟨iv,hiv⟩:=ajl (atN (ts.map (·.1)) nm 0);rw[hiv]at kk1 hty2;replace hs:=hid hs;replace hfn:=hid hfn;replace hdb:=hid hdb;have kk2:Hid (Ctr Tryz.prog 48 [.sl (names.map AV.str) names.length cn,.str [42]] (.bool hasS)):=@hid _ (λ{L K} q=>kk6.o (by rw[hhs];exact q));have kk7:Hid (Ctr Tryz.prog 48 [.sl (names.map AV.str) names.length cn,.str [43]] (.bool hasP)):=@hid _ (λ{L K} q=>kk6.o (by rw[hhp];exact q));clear kk6 hw hDB hiv hb0 ha hm htk hvs hhs hhp;rcases hty2 with⟨rfl,ht2⟩|⟨i,hi,rfl,ht2⟩
  case' inl =>
   have hof:o=false:=(by rw[<- ho,opM,ht2];rfl);subst hof;clear ho ht2
  case' inr =>
   rw[akw]at kk1;have e5:=hge.o i hi;obtain⟨e5,e6⟩:=e5;have hof:(ts.getD i me).2.2.2=o:=(by rw[<- ho,opM,ht2];rfl);rw[hof]at e5;have e7:(i:Int)<(tl:Int):=amM;have e8:decide (0<=(i:Int))=true:=decide_eq_true amM;clear ho ht2 hof
  all_goals
   refine wk ?_;refine aq (λm T' L'=>∃(j:Nat) (w:Bool),m=names.length-j/\j<=names.length/\Hid (w=(DB ||(names.take j).any λn=>decide (ag n=fn)))/\T'=[(62,.int .i64 (j:Int)),(61,.int .i64 names.length),(60,.sl (names.map AV.str) names.length cn),(14,.bool w),(11,.ptr (L.length+(X.length+1+1)) 0),(19,.int .i64 (k:Int)),(18,.int .i64 l.length),(17,.sl (aB l) l.length cl),(9,.gsl C z (L.length+1) 2),(4,.ptr L.length 0),(2,.sl (names.map AV.str) names.length cn),(3,.bool tonly)]/\L'=L++(.cells [.sl TS tl capT,.sl c2 n2 cap2] :: .spare z 2::(X++[.cells [.str nm,.sl (vs.map AV.str) vs.length none]]))) amQ ⟨0,_,rfl,aju _,hid (by rw[hdb.o];simp),rfl,rfl⟩ ?_;clear kk1 kk2 kk7 hdb;rintro _ _ _ ⟨j,w,rfl,hj,hw,rfl,rfl⟩;by_cases hjl:j<names.length
   .have j1:(j:Int)<(names.length:Int):=amM;have j2:=ajn j amM;obtain⟨n,hn⟩:=ajl (names.getD j []);have j3:(names.map AV.str).getD j .undef=.str n:=(by rw[<- hn];simp[hjl]);have j4:j<(names.map AV.str).length:=(by simpa using hjl);have hrn:=hnz.o n (by rw[<- hn];simp[hjl]);have kk4:Hid (Ctr Tryz.prog 49 [.str n] (.str (ag n))):=@hid _ (λ{L K} q=>bu hrn q);have htj:names.take (j+1)=names.take j++[n]:=(by rw[ajN hjl,<- hn];simp[hjl]);obtain⟨f4,hf4⟩:=ajl (ag n);rw[hf4]at kk4;have hw2:Hid ((w ||decide (f4=fn))=(DB ||(names.take (j+1)).any λn=>decide (ag n=fn))):=hid (by rw[htj,alD,hw.o,<- hf4,Bool.or_assoc];simp);clear hw htj hn hrn hf4 hC hs;refine wk ?_;exact amR amM amP ⟨j+1,_,rfl,hjl,hw2,rfl,rfl⟩
   .have j1:¬(j:Int)<(names.length:Int):=amM;have hw2:=hw.o;rw[aj3 amM]at hw2;have hs2:=hs.o;rw[<- hw2]at hs2;clear hw hw2 hs;cases w with
    | false =>
      have hC2:=hid (show C=aB (cW ts names tonly (l.take (k+1)))/\z=(cW ts names tonly (l.take (k+1))).length by rw[hs2];simpa using hC.o);clear hC hs2;refine wk ?_;exact amR amM amP ⟨k+1,z,C,_,rfl,hlt,amM,hC2,rfl,rfl⟩
    | true =>
      have fv:AV.frzL (vs.map AV.str)=vs.map AV.str:=gu vs;cases tonly with
      | false =>
        have hC2:=hid (show C++[.str nm,.sl (vs.map AV.str) vs.length none]=aB (cW ts names false (l.take (k+1)))/\z+1=(cW ts names false (l.take (k+1))).length by rw[hs2,hC.o.1,hC.o.2];simp[aB,atA]);clear hC hs2;refine wk ?_;exact amR amM amP ⟨k+1,z+1,_,_,rfl,hlt,amM,hC2,rfl,rfl⟩
      | true =>
        have hC2:=hid (show C++[.str nm,.sl [] 0 none]=aB (cW ts names true (l.take (k+1)))/\z+1=(cW ts names true (l.take (k+1))).length by rw[hs2,hC.o.1,hC.o.2];simp[aB,atA]);clear hC hs2;refine wk ?_;exact amR amM amP ⟨k+1,z+1,_,_,rfl,hlt,amM,hC2,rfl,rfl⟩
 have hke:k=l.length:=amM;have g1:¬(k:Int)<(l.length:Int):=amM;have hC2:=hC.o;rw[hke,ajL]at hC2;replace hC2:=hid hC2;clear hC hke hlt;refine wk ?_;refine aJ ?_;simp only[AV.frz];rw[hC2.o.1,dM,hC2.o.2];exact ab (by simp only[AV.refs,gX]) h.o
theorem agb(hA:Hid (Ctr Tryz.prog 9 [] (.bool true))){l:List Atr}{cl:Option Nat}{names:List (List UInt8)}{cn:Option Nat}{tonly:Bool}(hcl:Hid (∀{vs:List (List UInt8)}{c:Option Nat},vs.length<=1100000->∀{L:List Blk}{K:ajq},K (.sl (vs.map AV.str) vs.length none) L->ajp 47 [.sl (vs.map AV.str) vs.length c] L K))(hl:(l.length:Int)<=9223372036854775807)(hz:∀a∈l,a8 a.1/\(a.2.length:Int)<=9223372036854775807)(hn:(names.length:Int)<=9223372036854775807)(hnz:∀n∈names,a8 n){L:List Blk}{K:ajq}(h:∀L',K (.bool true) L'):
  ajp 4 [.sl (aB l) l.length cl,.sl (names.map AV.str) names.length cn,.bool tonly] L K:=by
 have kk1:Hid (Ctr Tryz.prog 13 [.sl (aB l) l.length cl] (.bool (XR l))):=@hid _ (λ{L K} q=>ag7 hl (λa ha=>(hz a ha).2) q);obtain⟨TS,hTS⟩:=ajl (cq aN);obtain⟨tl,htl⟩:=ajl (aN.length);obtain⟨CS,hCS⟩:=ajl (Zm);have kk2:Hid (Ctr Tryz.prog 15 [] (.agg [.sl TS tl none,.sl CS 9 none])):=@hid _ (λ{L K} q=>aaD (by rw[hTS,hCS,htl];exact q));have kk7:=@hA;obtain⟨fw,hfw⟩:=ajl (XR l);rw[hfw]at kk1;replace h:=hid h;clear hA;have hi:Hid (fw=true->names.length<=30->∃(R:List Atr) (code:Int),Hid (Ctr Tryz.prog 14 [.agg [.sl TS tl none,.sl CS 9 none],.sl (aB l) l.length cl] (.tup [.sl (aB R) R.length none,.int .i64 code]))/\Hid (code=0->∃W:List Atr,
   (∀{L:List Blk}{K:ajq},K (.sl (aB R) R.length none) L->ajp 16 [.sl (aB R) R.length none] L K) /\
   (∀{L:List Blk}{K:ajq},K (.sl (aB W) W.length none) L->ajp 17 [.agg [.sl TS tl none,.sl CS 9 none],.sl (aB R) R.length none,.sl (names.map AV.str) names.length cn,.bool tonly] L K) /\
   (∀{L:List Blk}{K:ajq},K (.sl (aB W) W.length none) L->ajp 19 [.agg [.sl TS tl none,.sl CS 9 none],.sl (aB R) R.length none,.sl (names.map AV.str) names.length cn,.bool tonly] L K) /\
   (∀{L:List Blk}{K:ajq},K (.bool true) L->ajp 18 [.sl (aB W) W.length none,.sl (aB W) W.length none] L K) /\
   (∀{L:List Blk}{K:ajq},K (.bool true) L->ajp 18 [.sl (aB R) R.length none,.sl (aB R) R.length none] L K))):=hid (by
  intro e1 e2;rw[e1]at hfw;obtain⟨f1,f2⟩:=XQ hfw;have hbd:=Z7 (ts:=aN) (B:=60) (l:=l) (out:=[]) (i:=0) amN amN (λa ha=>(f2 a ha).1);have hin:=@abj aN l [] (ahB aN);have hmk:∀{L:List Blk}{K:ajq},K (.tup [.sl (aB (mf aN [] l).1) (mf aN [] l).1.length none,.int .i64 (mf aN [] l).2]) L->ajp 14 [.agg [.sl TS tl none,.sl CS 9 none],.sl (aB l) l.length cl] L K:=λ{L K} q=>by rw[<- hTS,<- hCS,<- htl];exact aa8 jt amM (λa ha=>⟨(hz a ha).1,by have:=(f2 a ha).1;omega⟩) rfl q
  obtain⟨⟨R,code⟩,hR⟩:∃p,mf aN [] l=p:=⟨_,rfl⟩;rw[hR]at hbd hin;rw[hR]at hmk;simp only at hbd hin;have b1:R.length<=1000:=amM;have b2:∀a∈R,a.2.length<=100000:=λa ha=>by have:=hbd.2 a ha;omega
  refine⟨R,code,@hid _ @hmk,hid λec=>?_⟩;have b3:∀a∈R,a8 a.1:=λa ha=>(acr jt (hin ec) ha).1
  refine⟨cW aN names tonly R,?_,?_,?_,?_,?_⟩
  .exact λ{L K} q=>aa7 amM (λa ha=>by have:=b2 a ha;omega) q
  .exact λ{L K} q=>by rw[<- hTS,<- hCS,<- htl];exact adW ⟨jt.1,jt.2.1⟩ amM (λa ha=>⟨b3 a ha,by have:=b2 a ha;omega⟩) amM hnz hcl q
  .exact λ{L K} q=>by rw[<- hTS,<- hCS,<- htl];exact afW ⟨jt.1,jt.2.1⟩ amM (λa ha=>⟨b3 a ha,by have:=b2 a ha;omega⟩) amM hnz q
  .refine λ{L K} q=>adG (by unfold cW;rw[ajR];have:=ak9 (Fv aN names) R;omega) (λa ha=>?_) q
   unfold cW at ha;obtain⟨x,hx,rfl⟩:=ajy.1 ha;have:=b2 x ((aka.1 hx).1);simp only;split
   .simp
   .omega
  .exact λ{L K} q=>adG amM (λa ha=>by have:=b2 a ha;omega) q)
 clear hfw hTS htl hCS hcl hz hnz;refine aa JL (by simp[jy]) ?_;simp only[jy,am];by_cases hc:fw=true/\names.length<=30;rotate_left;have g1:(!fw ||decide ((30:Int)<(names.length:Int)))=true:=by rcases fw with _|_;rfl;simp only[alc,akE,decide_eq_true_eq];simp only[true_and]at hc;omega
 clear hc hi;refine wk ?_;exact ac (h.o _);obtain⟨rfl,c2⟩:=hc;have g1:¬(30:Int)<(names.length:Int):=amM;obtain⟨R,code,kk3,hq⟩:=hi.o rfl c2;clear hi;by_cases hcode:code=0;rotate_left;clear hq;refine wk ?_;exact ac (h.o _);subst hcode;obtain⟨W,q1,q2,q3,q4,q5⟩:=hq.o rfl;have kk4:=@hid _ @q1;have kk5:=@hid _ @q2;have kk6:=@hid _ @q3;have ka:=@kk7;clear q1 q2 q3 hq kk7;refine wk ?_;clear kk1 kk3;have kk7:=@ka;have kk1:=@hid _ @q4;have kk3:=@hid _ @q5;clear ka q4 q5;refine wk ?_;exact ac (h.o _)
end Go.Proofs.YtdnfjhflkkpokaaGreatDoor.Av
