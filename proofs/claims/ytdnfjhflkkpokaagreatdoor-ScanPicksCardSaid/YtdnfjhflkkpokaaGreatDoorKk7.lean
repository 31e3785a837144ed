/- Joined texts of the walk, made small by a program. -/
import Derived.Test.YtdnfjhflkkpokaaGreatDoorKk6
import Derived.Test.YtdnfjhflkkpokaaGreatDoorKk5
import Derived.Test.YtdnfjhflkkpokaaGreatDoorKk4
import Derived.Test.YtdnfjhflkkpokaaGreatDoorRows
import Derived.KernelRfl
import Derived.Sort.Walk0
set_option linter.unusedSimpArgs false
set_option linter.unusedVariables false
namespace Go.Proofs.YtdnfjhflkkpokaaGreatDoor.Av
open Go
set_option maxHeartbeats 8000000
set_option maxRecDepth 100000
abbrev Typ:=List UInt8×Int×Bool×Bool
def md:List Atr->List UInt8->List (List UInt8)
 |[],_=>[]
 |a::t,n=>if ag a.1=ag n then a.2 else md t n
def oS(n:List UInt8)(vs:List (List UInt8)):Bool->List Atr->List Atr
 |done,[]=>if done=true then[]else[(n,vs)]
 |done,a::t=>(if done=false/\¬ag a.1<ag n then[(n,vs)]else[])++(if ag n≠ag a.1 then[a]else[])++oS n vs (done || !decide (ag a.1<ag n)) t
def iy(syn:Int)(v:List UInt8):List UInt8:=(sX syn v).getD []
def inM(syn:Int)(l:List (List UInt8))(n:List UInt8):Bool:=l.any λv=>decide (iy syn v=n)
def ik(syn:Int)(v:List UInt8):Bool->List (List UInt8)->List (List UInt8)
 |done,[]=>if done=true then[]else[v]
 |done,x::t=>(if done=false/\iy syn v<iy syn x then[v]else[])++x::ik syn v (done ||decide (iy syn v<iy syn x)) t
def fX(syn:Int)(single:Bool):List (List UInt8)->List (List UInt8)->List (List UInt8)×Int
 |l,[]=>if single=true/\1<l.length then([],19)else(l,0)
 | l,v::vs=>match sX syn v with
   |none=>([],21)
   |some n=>if inM syn l n=true then([],20)else fX syn single (ik syn v false l) vs
def fS(ts:List Typ)(n:List UInt8):Option Typ:=ts.find? λt=>decide (ag t.1=ag n)
def mf(ts:List Typ):List Atr->List Atr->List Atr×Int
 |out,[]=>(out,0)
 | out,a::t=>match fS ts a.1 with
   |none=>([],17)
   | some ty=>if a.2=[] then ([],19) else
     if(fX ty.2.1 ty.2.2.1 (md out a.1) a.2).2≠0 then([],(fX ty.2.1 ty.2.2.1 (md out a.1) a.2).2)
     else mf ts (oS ty.1 (fX ty.2.1 ty.2.2.1 (md out a.1) a.2).1 (fX ty.2.1 ty.2.2.1 (md out a.1) a.2).1.isEmpty out) t
section
variable {α:Type}(key:α->List UInt8)
def tg(l:List α)(k:List UInt8):Nat:=(l.takeWhile λa=>decide (key a<k)).length
theorem xF(a:α)(l:List α)(k:List UInt8):tg key (a::l) k=if key a<k then tg key l k+1 else 0:=by unfold tg;rw[List.takeWhile_cons];by_cases h:key a<k;simp[h];simp[h]
end
theorem Od(syn:Int)(v:List UInt8):∀l,ik syn v true l=l
 |[]=>rfl
 |x::t=>by rw[ik,if_neg amN];simp[Od syn v t]
theorem UP(syn:Int)(v:List UInt8):∀l:List (List UInt8),inM syn l (iy syn v)=false->ik syn v false l=l.take (tg (iy syn) l (iy syn v))++v::l.drop (tg (iy syn) l (iy syn v))
 |[],_=>rfl
 | x::t,h=>by
   simp only[inM,List.any_cons,alC,decide_eq_false_iff_not]at h;rw[ik,xF];by_cases hx:iy syn x<iy syn v
   .have hx2:¬iy syn v<iy syn x:=λe=>akI _ (alG e hx)
    rw[if_pos hx,if_neg (λe=>hx2 e.2),decide_eq_false hx2];simp only[al6,aj0,ald,alR,akd];rw[UP syn v t (by simpa[inM]using h.2)]
   .have hx2:iy syn v<iy syn x:=by
     rcases alU.1 (akR.1 hx)with e|e
     .exact e
     .exact absurd e.symm h.1
    rw[if_neg hx,if_pos ⟨rfl,hx2⟩,decide_eq_true hx2];simp[Od]
theorem YC{α:Type}(l:List α)(c:Nat)(v:α):(l.take c++v::l.drop c).Perm (v::l):=by refine List.perm_middle.trans ?_;rw[ak1]
theorem Rs{ts:List Typ}{n:List UInt8}{ty:Typ}(h:fS ts n=some ty):ty∈ts/\ag ty.1=ag n:=by unfold fS at h;exact⟨ak6 h,by simpa using ak7 h⟩
set_option maxHeartbeats 8000000
set_option maxRecDepth 100000
theorem acS{syn:Int}{single:Bool}{l:List (List UInt8)}{v:List UInt8}{vs:List (List UInt8)}(h0:(fX syn single l (v::vs)).2=0):
  (sX syn v).isSome=true/\inM syn l (iy syn v)=false/\fX syn single l (v::vs)=fX syn single (ik syn v false l) vs:=by
 rw[fX]at h0⊢;rcases hv:sX syn v with _|n;rw[hv]at h0;cases h0;rw[hv]at h0;simp only at h0⊢;have hk:iy syn v=n:=by simp[iy,hv]
 split;rename_i hc;rw[if_pos hc]at h0;cases h0;rename_i hc;exact⟨rfl,by rw[hk];simpa using hc,rfl⟩
theorem ad9{syn:Int}{v:List UInt8}{l:List (List UInt8)}(h:inM syn l (iy syn v)=false):(ik syn v false l).length=l.length+1:=by rw[UP syn v l h,(YC _ _ _).length_eq,ajz]
theorem VW{syn:Int}{single:Bool}:∀{vs l:List (List UInt8)},(fX syn single l vs).2=0->(fX syn single l vs).1.length=l.length+vs.length
 | [],l,h0=>by
   rw[fX]at h0⊢;split
   .rename_i hc;rw[if_pos hc]at h0;cases h0
   .rfl
 |v::vs,l,h0=>by obtain⟨h1,h2,h3⟩:=acS h0;rw[h3]at h0⊢;rw[VW h0,ad9 h2,ajz];omega
variable {L:List Blk}{K:ajq}
def Fj(l:List UInt8):Bool:=l.any λc=>c != 32
def O1(t:List UInt8)(k:Nat):List UInt8:=if Fj (t.drop k)=true then bY (t.take k)else dy (bY (t.take k))
theorem W3{t:List UInt8}{k:Nat}(h:k<t.length):t.drop k=t.getD k 0::t.drop (k+1):=by rw[ajY h,ajO,ajF h];rfl
theorem U2(c:UInt8)(l:List UInt8):Fj (c::l)=(c != 32 ||Fj l):=rfl
theorem iF(b:List UInt8)(c:UInt8):dy (b++[c])=if c=32 then b else b++[c]:=by simp[dy]
theorem UW(t:List UInt8):∀k,k<=t.length->bY (t.take k)≠[]->(Fo (bY (t.take k))=true↔t.getD (k-1) 0=32)
 |0,_,h=>by simp[bY]at h
 | k+1,hk,h=>by
   have ih:=UW t k amM;rw[xP (show k<t.length by omega)]at h⊢;rw[show k+1-1=k by omega];unfold aM at h⊢;split
   .rename_i e;exact⟨λ_=>e.1,λ_=>e.2⟩
   .simp[Fo]
theorem ab7{t:List UInt8}{k:Nat}(h:k<t.length):O1 t (k+1) =
  if Fj (t.drop k)=false\/(t.getD k 0=32/\(O1 t k=[]\/t.getD (k-1) 0=32))then O1 t k else O1 t k++[t.getD k 0]:=by
 have hd:=W3 h;have hl:=UW t k amM;unfold O1;rw[xP h,hd,U2];obtain⟨c,hc⟩:=ajl (t.getD k 0);obtain⟨p,hp⟩:=ajl (bY (t.take k));rw[hc];rw[hp]at hl⊢;have he:p=[]->Fo p=true:=λe=>by rw[e];rfl
 by_cases h32:c=32;subst h32;by_cases hn:Fj (t.drop (k+1))=true;simp only[hn,bne_self_eq_false,akE,if_true,aM,true_and,akx,false_or];by_cases hp0:p=[];simp[hp0,Fo];simp[hp0,hl hp0];have hn':Fj (t.drop (k+1))=false:=by simpa using hn
 simp only[hn',bne_self_eq_false,akE,ajK,if_false,true_or,if_true];unfold aM;split;rfl;rename_i e;rw[iF,if_pos rfl];unfold dy;rw[if_neg];intro e2;exact e ⟨rfl,by simp[Fo,e2]⟩;have hb:(c != 32)=true:=by simpa using h32
 simp only[hb,alf,if_true,h32,false_and,or_false,akx,if_false];have:aM p c=p++[c]:=by rw[aM,if_neg λe=>h32 e.1]
 rw[this,iF,if_neg h32];split<;>rfl
theorem ab6(t:List UInt8):O1 t 0=[]:=by unfold O1;split<;>simp[bY,dy]
theorem adS(t:List UInt8):O1 t t.length=dy (bY t):=by simp[O1,Fj]
theorem adR(t:List UInt8)(k:Nat):(O1 t k).length<=k:=by have:=oN t k;unfold O1;split;exact this;unfold dy;split;simp;omega;exact this
theorem xO{s:List UInt8}(hs:(s.length:Int)<=100000)(h:K (.str (bT s)) L):ajp 135 [.str s] L K:=by
 replace h:=hid h;refine aa TH (by simp[yt]) ?_;simp only[yt,am];obtain⟨t,ht⟩:=ajl (ag s);have htl:(t.length:Int)<=100000:=by rw[<- ht];simpa[ag]using hs
 have hfin:=hid (show O1 t t.length=bT s by rw[adS,bT,ht]);have kk1:=@amT _ _ _ _ (kB hs);refine wk ?_;refine bK (l:=[]) (n:=0) 4 1 rfl (ajX 1).symm ?_;refine aq (λn T' L'=>∃(k:Nat) (b:List UInt8) (v:List AV) (m:Nat),n=t.length-k/\k<=t.length/\b=O1 t k/\v=u8s b/\m=b.length/\T'=[(5,.int .i64 (k:Int)),(4,.gsl v m L.length 1),(3,.str t),(2,.str [])]/\L'=L++[.spare m 1]) amQ ⟨0,[],[],0,rfl,aju _,(ab6 t).symm,rfl,rfl,rfl,rfl⟩ ?_;rintro _ _ _ ⟨k,b,v,m,rfl,hk,hb,rfl,rfl,rfl,rfl⟩;replace hb:=hid hb;by_cases hlt:k<t.length
 .have h1:(k:Int)<(t.length:Int):=amM;have h2:=ajn k amM;refine wk ?_;have hbl:b.length<=k:=(by rw[hb.o];exact adR t k);have hub:(u8s b).length=b.length:=(by simp[u8s]);have hsucc:=hid (ab7 hlt);refine aq (λn T' L'=>∃(j:Nat) (later:Bool),n=t.length-j/\j<=t.length/\(later=true->Fj (t.drop k)=true)/\(later=false->Fj (t.drop k)=Fj (t.drop j))/\T'=[(7,.int .i64 (j:Int)),(6,.bool later),(5,.int .i64 (k:Int)),(4,.gsl (u8s b) b.length L.length 1),(3,.str t),(2,.str [])]/\L'=L++[.spare b.length 1]) amQ ⟨k,false,rfl,amM,amN,amN,rfl,rfl⟩ ?_;rintro _ _ _ ⟨j,later,rfl,hj,hla,hlb,rfl,rfl⟩;replace hla:=hid hla;replace hlb:=hid hlb;obtain⟨c,hc⟩:=ajl (t.getD k 0);rw[hc]at hsucc;have hc':((t[k]?.getD 0))=c:=(by rw[<- hc,ajO]);cases later;by_cases hjl:j<t.length;have g1:(j:Int)<(t.length:Int):=amM;have g2:=ajn j amM;have hd:=hid (W3 hjl);obtain⟨x,hx⟩:=ajl (t.getD j 0);rw[hx]at hd;refine wk ?_;have hx32:(x != 32) = !decide ((x.toNat:Int)=32):=by have:(x.toNat:Int)=32↔x=32:=⟨λh=>alp.1 (by have:(32:UInt8).toNat=32:=rfl;omega),λh=>by rw[h];rfl⟩;by_cases h:x=32<;>simp[h,this]
  have hnb:=hlb.o rfl;rw[hd.o,U2,hx32]at hnb;refine amR amM amP ⟨j+1, !decide ((x.toNat:Int)=32),rfl,hjl,λe=>by rw[hnb,e];rfl,λe=>by rw[hnb,e];rfl,rfl,rfl⟩;have g1:¬(j:Int)<(t.length:Int):=amM;have hn:Fj (t.drop k)=false:=(by rw[hlb.o rfl,alh amM];rfl);replace hsucc:=hid (show O1 t (k+1)=b by rw[hsucc.o,if_pos (.inl hn),hb.o]);refine wk ?_;exact amR amM amP ⟨k+1,b,_,b.length,rfl,hlt,hsucc.o.symm,rfl,rfl,rfl,rfl⟩
  .have hn:Fj (t.drop k)=true:=hla.o rfl;have hs2:=hsucc.o;rw[hn]at hs2;simp only[akx,false_or,<- hb.o]at hs2;replace hs2:=hid hs2;have g6:b.length≠0->(1:Int)<=(k:Int):=λh=>amM
   replace g6:=hid g6;have g7:=hid λh:1<=k=>show IntKind.i64.wrap ((k:Int)-1)=(k:Int)-1 from ae amM amM
   have u32:∀x:UInt8,(x.toNat:Int)=32↔x=32:=λx=>⟨λh=>alp.1 (by have:(32:UInt8).toNat=32:=rfl;omega),λh=>by rw[h];rfl⟩
   replace u32:=hid u32
   repeat' first
    |refine cA ?_
    | (first|refine bG amO ?_|refine ba amO ?_|refine be ?_|refine dN ?_|refine cD (fun _=>?_)|refine aU ?_|refine bI ?_)
      refine sm ?_
    | (first|refine bC amO ?_|refine bz ?_|refine bd ?_|refine bH ?_|refine cI (aT ?_))
      refine sl ?_
    |exact cE
    |first|apply cF|apply bD|apply cG|apply bE|apply cH|apply bF
    |refine bh ?_
    |refine bc ?_
    |first|refine bf rfl ?_|refine bg rfl ?_|refine aI rfl ?_ ?_|refine bm rfl (λ_=>?_) (λ_=>?_)|refine bj rfl (λ_=>?_) (λ_=>?_)
    |((first|refine aG (λ_=>?_) (λ_=>?_)|refine aS (λ_=>?_) (λ_=>?_))<;>try refine sm ?_)
    |refine And.intro trivial ?_
    |refine And.intro amM ?_
    |refine br rfl (λ_=>?_) (λ_=>?_)
    |refine And.intro ?_ ?_
   rename_i hz;rw[g7.o amM];omega;rename_i hz;rw[g7.o amM];omega;rename_i hq;have hcond:c=32/\(b=[]\/t.getD (k-1) 0=32):=by refine⟨(u32.o c).1 hq.1,?_⟩;rcases hq.2 with e|e;exact .inl (aj4.1 amM);by_cases hb0:b=[];exact .inl hb0;have hk1:1<=k:=(by have:=akh.2 hb0;omega);rw[g7.o hk1,show((k:Int)-1).toNat=k-1 by omega]at e;exact .inr ((u32.o _).1 e)
   exact amR amM amP ⟨k+1,b,_,b.length,rfl,hlt,by rw[hs2.o,if_pos hcond],rfl,rfl,rfl,rfl⟩;rename_i hq;have hcond:¬(c=32/\(b=[]\/t.getD (k-1) 0=32)):=λ⟨e1,e2⟩=>hq (by refine⟨(u32.o c).2 e1,?_⟩;by_cases hb0:b=[];exact .inl (by rw[hb0];rfl);have hk1:1<=k:=(by have:=akh.2 hb0;omega);rcases e2 with e|e;exact absurd e hb0;refine .inr ?_;rw[g7.o hk1,show((k:Int)-1).toNat=k-1 by omega];exact(u32.o _).2 e)
   rw[show u8s b++[AV.int IntKind.u8 (c.toNat:Int)]=u8s (b++[c])by simp[u8s]];exact amR amM amP ⟨k+1,b++[c],_,b.length+1,rfl,hlt,by rw[hs2.o,if_neg hcond],rfl,amN,rfl,rfl⟩
 have hke:k=t.length:=amM;subst hke;have h1:¬(t.length:Int)<(t.length:Int):=amM;have e1:=iP b;have e2:=ii b;have e3:=hid (show b=bT s by rw[hb.o,hfin.o]);refine wk ?_;refine ab rfl ?_;rw[e3.o];exact h.o
end Go.Proofs.YtdnfjhflkkpokaaGreatDoor.Av
set_option maxRecDepth 100000
namespace Go.Proofs.YtdnfjhflkkpokaaGreatDoor.Av
open Go
variable {s typ b:List UInt8}{cap:Option Nat}{n k i:Nat}{a c:UInt8}{r:Rdn}{d:List Rdn}
def HW:LSO:=[Aj 2]
def HV:LSO:=[Aa 6 0,Ai 7 49 6,Aa 3 7]
def HU:LSO:=[Aa 8 3,Ax 9 8,AJ 10 9 1,Aa 11 10,.grp none 11 true
 [Ae 12 11 3,og 13 11 true (.len true (tm 12)),og 14 11 true (.bin .leq (tm 13) (iv 32))]
 15 (tm 14),Aa 4 15]
def HT:LSO:=[Ad 5 0]
def HS:LSO:=[Aa 16 5,Aa 17 3,Ax 18 17,Al 19 16 18,Aa 20 19,.grp none 20 true
 [Ae 21 20 4]
 22 (tm 21)]
def HR:LSO:=[Aa 25 3,Aa 26 5,AK 27 25 26,
 o1 28 (.call 133 [(tm 27),(.av (.str [97,98,99,100,101,102,103,104,105,106,107,108,109,110,111,112,113,114,115,116,117,118,119,120,121,122]))]),Aa 29 28,.grp none 29 false
 [Ag 30 29 5,AF 31 29 30 0,Ag 32 29 31,.grp (some (29,false)) 32 true
 [Ae 33 32 3,Ae 34 32 5,Bi 35 32 33 34,og 36 32 true (.call 133 [(tm 35),(.av (.str [48,49,50,51,52,53,54,55,56,57,45]))])]
 37 (tm 36)]
 38 (tm 37),Aa 4 38]
def HQ:LSO:=[Aa 23 5,Ah 24 23 1,Aa 5 24]
def HP:LSO:=[Aa 39 4,Aa 2 39]
def ym:aQ:=⟨40,(amF HW [] (amF HV Cm (amF HU Cq (.seq (amF HT [] (amI 0 (.seq (amF HS Cq (amJ 22 0)) (.seq (.block 1 (.sreg HR Cr)) (.sreg HQ Cm))))) (amF HP Cl .ret))))),[(.tmp 2)]⟩
attribute [push_cast] HW HV HU HT HS HR HQ HP
theorem TD:amK 86=amL ym:=amO
def PF:LSO:=[Aj 4]
def PE:LSO:=[Ad 5 0]
def PD:LSO:=[Aa 6 5,Aa 7 1,Ax 8 7,Al 9 6 8]
def PC:LSO:=[Aa 12 1,Aa 13 5,AK 14 12 13,Aa 15 0,AD 16 14 15]
def PB:LSO:=[A6 4]
def PA:LSO:=[Aa 10 5,Ah 11 10 1,Aa 5 11]
def Pz:LSO:=[Aj 4]
def Oz:aQ:=⟨17,(amF PF [] (.seq (amF PE [] (amI 0 (.seq (amF PD Cp (amJ 9 0)) (.seq (.block 1 (amF PC Co (amH 16 (.sreg PB [])))) (.sreg PA Cm))))) (amF Pz [] .ret))),[(.tmp 4)]⟩
attribute [push_cast] PF PE PD PC PB PA Pz
theorem We:amK 133=amL Oz:=amO
def MJ:LSO:=[Aj 4]
def MI:LSO:=[Aa 7 0,Af 8 7,Ad 9 0]
def MH:LSO:=[Al 10 9 8]
def MG:LSO:=[Am 11 2 7 9,Ar 12 2 11,Bj 6,An 2 6 12]
def MF:LSO:=[Ac 13 0 6,Ab 14 1 13,Ai 15 49 14,Aa 16 1,Ai 17 49 16,AD 18 15 17]
def ME:LSO:=[A6 4]
def MD:LSO:=[Ah 19 9 1,Aa 9 19]
def MC:LSO:=[Aj 4]
def JJ:aQ:=⟨20,(amF MJ [] (.seq (amF MI [] (amI 0 (amF MH [] (.seq (amJ 10 0) (.seq (.block 1 (amF MG Cm (amF MF Cq (amH 18 (.sreg ME []))))) (.sreg MD Cl)))))) (amF MC [] .ret))),[(.tmp 4)]⟩
attribute [push_cast] MJ MI MH MG MF ME MD MC
theorem VH:amK 87=amL JJ:=amO
def El:LSO:=[Ak 2,Ad 3 0]
def Ek:LSO:=[Aa 12 0,Ax 13 12,A9 14 13 4096]
def Ej:LSO:=[Ak 2,Ad 3 5]
def Ei:LSO:=[Ak 4]
def Eh:LSO:=[Ad 5 0]
def Eg:LSO:=[Aa 15 0,Ax 16 15,A9 17 16 0]
def Ef:LSO:=[Ak 6]
def Ee:LSO:=[Aa 18 4,Af 19 18,Ao 20 19 32]
def Ed:LSO:=[Ak 2,Ad 3 9]
def Ec:LSO:=[Aa 21 6,Af 22 21,Ao 23 22 8]
def wL:LSO:=[Ak 2,Ad 3 9]
def wK:LSO:=[Aa 24 5,Aa 7 24]
def wJ:LSO:=[Aa 25 7,Aa 26 0,Ax 27 26,Al 28 25 27,Aa 29 28,.grp none 29 true
 [Ae 30 29 0,Ae 31 29 7,Bi 32 29 30 31,og 33 29 true (.bin .neq (tm 32) (.av (.int .u8 61)))]
 34 (tm 33)]
def wI:LSO:=[Aa 35 7,Ah 36 35 1,Aa 7 36]
def wH:LSO:=[Aa 37 7,Aa 38 0,Ax 39 38,AD 40 37 39,Aa 41 40,.grp none 41 false
 [Ag 42 41 0,Ag 43 41 5,Ag 44 41 7,og 45 41 false (.slS (tm 42) (some (tm 43)) (some (tm 44))),AH 46 41 86 45,Bq 47 41 46]
 48 (tm 47)]
def wG:LSO:=[Ak 2,Ad 3 4]
def wF:LSO:=[Aa 49 0,Aa 50 5,Aa 51 7,BY 52 49 50 51,o1 53 (.build [(.str []),(.str [])] [(0,(1,(tm 52)))]),Bj 8,An 2 8 53]
def wD:LSO:=[Aa 54 6,Ac 55 0 8,Ab 56 1 55,Au 57 87 54 56]
def wC:LSO:=[Ak 2,Ad 3 21]
def wB:LSO:=[Aa 59 0,Aa 60 7,Ah 61 60 1,Au 62 219 59 61,Aa 58 62,Ap 63 58,Aq 64 58,Br 65 58,Aa 9 63,Aa 10 64,Aa 11 65]
def wz:LSO:=[Aa 66 11,A7 67 66]
def wy:LSO:=[Ak 2,Ad 3 4]
def ww:LSO:=[Aa 68 9,Ac 69 1 8,An 1 69 68]
def wu:LSO:=[Aa 70 6,Ar 71 2 8,BC 72 71,BD 73 70 72,Aa 6 73]
def wt:LSO:=[Aa 74 10,Aa 5 74]
def wq:LSO:=[Aa 75 5,Aa 76 0,Ax 77 76,AD 78 75 77,Aa 79 78,.grp none 79 false
 [Ag 80 79 0,Ag 81 79 5,B4 82 79 80 81,og 83 79 false (.bin .eql (tm 82) (.av (.int .u8 44)))]
 84 (tm 83)]
def wp:LSO:=[Aa 85 5,Ah 86 85 1,Aa 5 86]
def wo:LSO:=[Aa 87 4,Aa 88 6,Bf 89 88,Bd 90 87 89,Aa 4 90]
def wn:LSO:=[Aa 91 5,Aa 92 0,Ax 93 92,AD 94 91 93]
def wm:LSO:=[Aa 95 4,Aa 2 95,Ad 3 0]
def wl:LSO:=[Aa 96 5,Ah 97 96 1,Aa 5 97]
def wj:LSO:=[Ak 2,Ad 3 0]
def tB:aQ:=⟨98,(amF El [] (.seq (amF Ek Cm (amH 14 (.sreg Ej []))) (amF Ei [] (amF Eh [] (.seq (amI 0 (.seq (amF Eg Cm (amJ 17 0)) (.block 1 (amF Ef [] (.seq (amF Ee Cm (amH 20 (.sreg Ed []))) (.seq (amI 2 (.block 3 (.seq (amF Ec Cm (amH 23 (.sreg wL []))) (amF wK Cl (.seq (amI 4 (.seq (amF wJ Cq (amJ 34 4)) (.block 5 (.sreg wI Cm)))) (.seq (amF wH Cq (amH 48 (.sreg wG []))) (amF wF Cq (.seq (amF wD Cp (amH 57 (.sreg wC []))) (amF wB [true,true,true,false,false,false,false,false,false,false,false] (.seq (amF wz Cl (amH 67 (.sreg wy []))) (amF ww [false,false] (amF wu Co (amF wt Cl (.seq (amF wq Cq (amG 84 (.exit 2) .skip)) (.sreg wp Cm))))))))))))))) (amF wo Co (.seq (amF wn Cp (amH 94 (.sreg wm Cs))) (.sreg wl Cm))))))))) (amF wj [] .ret)))))),[(.tmp 2),(.tmp 3)]⟩
attribute [push_cast] El Ek Ej Ei Eh Eg Ef Ee Ed Ec wL wK wJ wI wH wG wF wD wC wB wz wy ww wu wt wq wp wo wn wm wl wj
theorem RV:amK 188=amL tB:=amO
def Dv:LSO:=[Aw 4,Ad 5 0,Aj 6]
def Du:LSO:=[Ak 7]
def Dt:LSO:=[A6 8]
def Ds:LSO:=[Aa 13 1,Aa 14 0,Ax 15 14,Al 16 13 15,Aa 17 16,.grp none 17 true
 [Ae 18 17 0,Ae 19 17 1,Bi 20 17 18 19,og 21 17 true (.bin .neq (tm 20) (.av (.int .u8 44)))]
 22 (tm 21),Aa 23 22,.grp none 23 true
 [Ae 24 23 0,Ae 25 23 1,Bi 26 23 24 25,og 27 23 true (.bin .neq (tm 26) (.av (.int .u8 43)))]
 28 (tm 27)]
def Dr:LSO:=[Aa 29 0,Aa 30 1,AK 31 29 30,Aa 9 31]
def Dq:LSO:=[Aa 32 1,Ah 33 32 1,Aa 1 33]
def Dp:LSO:=[Aa 34 1,Aa 35 0,Ax 36 35,AD 37 34 36,Aa 38 37,.grp none 38 false
 [Ag 39 38 0,Ag 40 38 1,B4 41 38 39 40,og 42 38 false (.bin .eql (tm 41) (.av (.int .u8 44)))]
 43 (tm 42),Aa 44 43,.grp none 44 false
 [Ag 45 44 0,Ag 46 44 1,B4 47 44 45 46,og 48 44 false (.bin .eql (tm 47) (.av (.int .u8 43)))]
 49 (tm 48),Aa 10 49]
def Do:LSO:=[Aa 50 9,o1 51 (.bin .eql (tm 50) (.av (.int .u8 92)))]
def Dn:LSO:=[Aa 52 1,Aa 53 0,Ax 54 53,Al 55 52 54,Aa 56 55,.grp none 56 true
 [Ae 57 56 0,Ae 58 56 1,Bi 59 56 57 58,og 60 56 true (.call 133 [(tm 59),(.av (.str [34,43,44,59,60,62,92,32,35,61]))])]
 61 (tm 60)]
def Dm:LSO:=[Aa 62 7,Aa 63 0,Aa 64 1,AK 65 63 64,AZ 66 65,AU 67 62 66,Aa 7 67]
def vG:LSO:=[Aa 68 1,Ah 69 68 1,Aa 1 69]
def vF:LSO:=[Aa 70 1,Ah 71 70 2,Aa 72 0,Ax 73 72,o1 74 (.bin .gtr (tm 71) (tm 73))]
def vE:LSO:=[Aw 4,Ad 5 0,Aj 6]
def vD:LSO:=[Aa 76 0,Aa 77 1,Aa 78 1,Ah 79 78 2,BY 80 76 77 79,Ai 81 237 80,Aa 75 81,Ap 82 75,Aq 83 75,Aa 11 82,Aa 12 83]
def vC:LSO:=[Aa 84 12,A7 85 84]
def vB:LSO:=[Aw 4,Ad 5 0,Aj 6]
def vA:LSO:=[Aa 86 7,Aa 87 11,BN 88 87 0,AZ 89 88,AU 90 86 89,Aa 7 90]
def vz:LSO:=[Aa 91 1,Ah 92 91 2,Aa 1 92]
def vy:LSO:=[Aa 93 9,BL 94 93,Aa 95 94,.grp none 95 false
 [Ag 96 95 9,og 97 95 false (.call 133 [(tm 96),(.av (.str [34,59,60,62]))])]
 98 (tm 97),Aa 99 98,.grp none 99 false
 [Ag 100 99 8,Ag 101 99 100,.grp (some (99,false)) 101 true
 [Ae 102 101 9,og 103 101 true (.call 133 [(tm 102),(.av (.str [32,35]))])]
 104 (tm 103)]
 105 (tm 104),Aa 106 105,.grp none 106 false
 [Ag 107 106 10,Ag 108 106 107,.grp (some (106,false)) 108 true
 [Ae 109 108 9,B3 110 108 109]
 111 (tm 110)]
 112 (tm 111)]
def vx:LSO:=[Aw 4,Ad 5 0,Aj 6]
def vw:LSO:=[Aa 113 7,Aa 114 9,AZ 115 114,AU 116 113 115,Aa 7 116]
def vv:LSO:=[Aj 8]
def vu:LSO:=[Aa 117 7,Be 118 117,Aa 119 1,Aa 4 118,Aa 5 119,A6 6]
def tx:aQ:=⟨120,(amF Dv [] (amF Du [] (amF Dt [] (.seq (amI 0 (.seq (amF Ds Ct (amJ 28 0)) (.block 1 (amF Dr Cp (amF Dq Cm (amF Dp Cz (.seq (amF Do Cl (amG 51 (amF Dn Cq (amG 61 (amF Dm Cr (.sreg vG Cm)) (.seq (amF vF Co (amH 74 (.sreg vE []))) (amF vD CP (.seq (amF vC Cl (amH 85 (.sreg vB []))) (amF vA Cq (.sreg vz Cm))))))) (.seq (amF vy Ct (amH 112 (.sreg vx []))) (.sreg vw Co)))) (.sreg vv [])))))))) (amF vu CA .ret))))),[(.tmp 4),(.tmp 5),(.tmp 6)]⟩
attribute [push_cast] Dv Du Dt Ds Dr Dq Dp Do Dn Dm vG vF vE vD vC vB vA vz vy vx vw vv vu
theorem RS:amK 219=amL tx:=amO
def sJ:LSO:=[Aw 2]
def sI:LSO:=[Ak 3]
def sH:LSO:=[Ad 4 0]
def sG:LSO:=[Aa 6 4,Aa 7 0,Ax 8 7,Al 9 6 8]
def sF:LSO:=[Aa 12 0,Aa 13 4,AK 14 12 13,Aa 5 14]
def sE:LSO:=[Aa 15 5,BL 16 15]
def sD:LSO:=[Aa 17 3,o1 18 (.app 1 1 1 [(.int .u8 0)] (tm 17) (.av (.str [92,48,48]))),Aa 3 18]
def sB:LSO:=[Aa 19 5,o1 20 (.call 133 [(tm 19),(.av (.str [34,43,44,59,60,62,92]))]),Aa 21 20,.grp none 21 false
 [Ag 22 21 4,AO 23 21 22 0,Ag 24 21 23,.grp (some (21,false)) 24 true
 [Ae 25 24 5,og 26 24 true (.call 133 [(tm 25),(.av (.str [32,35]))])]
 27 (tm 26)]
 28 (tm 27),Aa 29 28,.grp none 29 false
 [Ag 30 29 4,og 31 29 false (.bin .add (tm 30) (iv 1)),Ag 32 29 0,B1 33 29 32,Bp 34 29 31 33,Ag 35 29 34,.grp (some (29,false)) 35 true
 [Ae 36 35 5,B3 37 35 36]
 38 (tm 37)]
 39 (tm 38)]
def sA:LSO:=[Aa 40 3,o1 41 (.bslice false 1 1 [(.int .u8 0)] [(0,(1,(.av (.int .u8 92))))]),AU 42 40 41,Aa 3 42]
def sy:LSO:=[Aa 43 3,Aa 44 5,AZ 45 44,AU 46 43 45,Aa 3 46]
def pP:LSO:=[Aa 10 4,Ah 11 10 1,Aa 4 11]
def pO:LSO:=[Aa 47 3,Be 48 47,Aa 2 48]
def mq:aQ:=⟨49,(amF sJ [] (amF sI [] (.seq (amF sH [] (amI 0 (.seq (amF sG Cp (amJ 9 0)) (.seq (.block 1 (amF sF Cp (.seq (amF sE Cl (amG 16 (amF sD Cm (.exit 1)) .skip)) (.seq (amF sB Cq (amG 39 (.sreg sA Cp) .skip)) (.sreg sy Co))))) (.sreg pP Cm))))) (amF pO Cm .ret)))),[(.tmp 2)]⟩
attribute [push_cast] sJ sI sH sG sF sE sD sB sA sy pP pO
theorem Oy:amK 134=amL mq:=amO
def HO:LSO:=[Aw 2]
def HN:LSO:=[Aw 3]
def HM:LSO:=[Aa 8 0,Af 9 8,Ad 10 0]
def HL:LSO:=[Al 11 10 9]
def HK:LSO:=[Aa 12 10,Am 13 1 8 10,Ab 14 1 13,Aa 4 12,Aa 5 14]
def HJ:LSO:=[Aa 15 4,A9 16 15 0]
def HI:LSO:=[Aa 17 3,o1 18 (.bin .add (tm 17) (.av (.str [44]))),Aa 3 18]
def HH:LSO:=[Aa 19 5,Af 20 19,Ad 21 0]
def HG:LSO:=[Al 22 21 20]
def HF:LSO:=[Aa 23 21,Am 24 2 19 21,Ar 25 2 24,Bj 7,Aa 6 23,An 2 7 25]
def DC:LSO:=[Aa 26 6,A9 27 26 0]
def DA:LSO:=[Aa 28 3,o1 29 (.bin .add (tm 28) (.av (.str [43]))),Aa 3 29]
def Dz:LSO:=[Aa 30 3,Ac 31 0 7,Ab 32 1 31,Bo 33 30 32,o1 34 (.bin .add (tm 33) (.av (.str [61]))),Ac 35 1 7,Ab 36 1 35,Ai 37 134 36,Bo 38 34 37,Aa 3 38]
def Dy:LSO:=[Ah 39 21 1,Aa 21 39]
def Dx:LSO:=[Ah 40 10 1,Aa 10 40]
def Dw:LSO:=[Aa 41 3,Aa 2 41]
def yl:aQ:=⟨42,(amF HO [] (amF HN [] (.seq (amF HM [] (amI 0 (amF HL [] (.seq (amJ 11 0) (.seq (.block 1 (amF HK Cv (.seq (amF HJ Cl (amG 16 (.sreg HI Cm) .skip)) (amF HH [] (amI 2 (amF HG [] (.seq (amJ 22 2) (.seq (.block 3 (amF HF Cv (.seq (amF DC Cl (amG 27 (.sreg DA Cm) .skip)) (.sdreg Dz [.pure,.pure,(.read 0 0),.pure,.pure,.pure,(.read 0 0),(.read 0 0)] Cu)))) (.sreg Dy Cl))))))))) (.sreg Dx Cl)))))) (amF Dw Cl .ret)))),[(.tmp 2)]⟩
attribute [push_cast] HO HN HM HL HK HJ HI HH HG HF DC DA Dz Dy Dx Dw
theorem TC:amK 88=amL yl:=amO
def Eb:LSO:=[Aw 2,Ad 3 0]
def Ea:LSO:=[Ad 4 0]
def D9:LSO:=[Aa 9 0,Af 10 9,Ad 11 0]
def D8:LSO:=[Al 12 11 10]
def D7:LSO:=[Aa 13 11,Am 14 1 9 11,Ab 15 1 14,Aa 5 13,Aa 6 15]
def D6:LSO:=[Aa 16 5,Ao 17 16 32]
def D5:LSO:=[Aw 2,Ad 3 9]
def D4:LSO:=[Aa 18 6,Af 19 18,Ao 20 19 0]
def D0:LSO:=[Aw 2,Ad 3 2]
def DZ:LSO:=[Aa 21 6,Af 22 21,Ad 23 0]
def wi:LSO:=[Al 24 23 22]
def wg:LSO:=[Aa 25 23,Am 26 2 21 23,Ar 27 2 26,Bj 8,Aa 7 25,An 2 8 27]
def wc:LSO:=[Aa 28 7,Ao 29 28 8]
def wb:LSO:=[Aw 2,Ad 3 9]
def wa:LSO:=[Ac 30 0 8,Ab 31 1 30,Ai 32 86 31,A7 33 32]
def v8:LSO:=[Aw 2,Ad 3 20]
def v7:LSO:=[Aa 34 6,Aa 35 7,Cb 36 34 35,Ac 37 0 8,Ab 38 1 37,Au 39 87 36 38]
def v6:LSO:=[Aw 2,Ad 3 21]
def vZ:LSO:=[Aa 40 4,Ac 41 1 8,Ab 42 1 41,Ax 43 42,o1 44 (.minmax false [(tm 43),(iv 5000)]),Bo 45 40 44,Aa 4 45]
def vY:LSO:=[Ah 46 23 1,Aa 23 46]
def vX:LSO:=[Ah 47 11 1,Aa 11 47]
def vW:LSO:=[Aa 48 4,A9 49 48 4096,Aa 50 49,.grp none 50 false
 [Ag 51 50 0,AH 52 50 88 51,B1 53 50 52,AF 54 50 53 4096]
 55 (tm 54)]
def vV:LSO:=[Aw 2,Ad 3 5]
def vU:LSO:=[Aa 56 0,Ai 57 88 56,Aa 2 57,Ad 3 0]
def tA:aQ:=⟨58,(amF Eb [] (amF Ea [] (.seq (amF D9 [] (amI 0 (amF D8 [] (.seq (amJ 12 0) (.seq (.block 1 (amF D7 Cv (.seq (amF D6 Cl (amH 17 (.sreg D5 []))) (.seq (amF D4 Cm (amH 20 (.sreg D0 []))) (amF DZ [] (amI 2 (amF wi [] (.seq (amJ 24 2) (.seq (.block 3 (amF wg Cv (.seq (amF wc Cl (amH 29 (.sreg wb []))) (.seq (amF wa Cp (amH 33 (.sreg v8 []))) (.seq (.seq (.sdreg v7 [.pure,.pure,(.read 0 0),.pure,(.read 0 0)] Cq) (amH 39 (.sreg v6 []))) (.sreg vZ Cr)))))) (.sreg vY Cl)))))))))) (.sreg vX Cl)))))) (.seq (amF vW Cp (amH 55 (.sreg vV []))) (amF vU Cx .ret))))),[(.tmp 2),(.tmp 3)]⟩
attribute [push_cast] Eb Ea D9 D8 D7 D6 D5 D4 D0 DZ wi wg wc wb wa v8 v7 v6 vZ vY vX vW vV vU
theorem RU:amK 37=amL tA:=amO
def DM:LSO:=[Ak 2]
def DL:LSO:=[Ak 3]
def DK:LSO:=[Aa 12 0,Af 13 12,Ad 14 0]
def DJ:LSO:=[Al 15 14 13]
def DI:LSO:=[Am 16 1 12 14,Ab 17 1 16,Aa 5 17]
def DH:LSO:=[Ak 6]
def DG:LSO:=[Aa 18 5,Af 19 18,Ad 20 0]
def DF:LSO:=[Al 21 20 19]
def DE:LSO:=[Am 22 2 18 20,Ar 23 2 22,Bj 8,An 2 8 23]
def DD:List (aw×Kd):=
 [A0 24 0 8,A3 25 1 24 0 1,AY 26 49 25 0 1,A0 27 1 8,A3 28 1 27 0 1,AY 29 135 28 0 1,od 30 (.build [(.str []),(.str [])] [(0,(1,(tm 26))),(1,(1,(tm 29)))]) .pure,
 od 9 (.alloc [(.str []),(.str [])]) .eff]
def vH:List aw :=
 [⟨none,(.store 2 (tm 9) (tm 30)),none⟩]
def vT:LSO:=[Aa 31 6,Af 32 31,Aa 10 32]
def vS:LSO:=[Aa 33 10,A9 34 33 0,Aa 35 34,.grp none 35 true
 [Ae 36 35 6,Ae 37 35 10,Ce 38 35 37 1,Bh 39 35 2 36 38,Ay 40 35 0 39,Az 41 35 1 40,og 42 35 true (.bin .add (tm 41) (.av (.str [61]))),Ae 43 35 6,Ae 44 35 10,Ce 45 35 44 1,
 Bh 46 35 2 43 45,Ay 47 35 1 46,Az 48 35 1 47,Bu 49 35 134 48,og 50 35 true (.bin .add (tm 42) (tm 49)),Ay 51 35 0 9,Az 52 35 1 51,
 og 53 35 true (.bin .add (tm 52) (.av (.str [61]))),Ay 54 35 1 9,Az 55 35 1 54,Bu 56 35 134 55,og 57 35 true (.bin .add (tm 53) (tm 56)),
 og 58 35 true (.bin .gtr (tm 50) (tm 57))]
 59 (tm 58)]
def vR:LSO:=[Aa 60 10,Bc 61 60 1,Aa 10 61]
def vQ:LSO:=[Ak 11]
def vP:LSO:=[Aa 62 11,Aa 63 6,Aa 64 10,Cb 65 63 64,BD 66 62 65,Aa 11 66]
def vO:LSO:=[Aa 67 11,Ar 68 2 9,BC 69 68,BD 70 67 69,Aa 11 70]
def vN:LSO:=[Aa 71 11,Aa 72 6,Aa 73 10,o1 74 (.slV 2 (tm 72) (some (tm 73)) none none),BD 75 71 74,Aa 11 75]
def vM:LSO:=[Aa 76 11,Aa 6 76]
def vL:LSO:=[Ah 77 20 1,Aa 20 77]
def vK:LSO:=[Aa 78 3,Aa 79 6,Bf 80 79,Bd 81 78 80,Aa 3 81]
def vJ:LSO:=[Ah 82 14 1,Aa 14 82]
def vI:LSO:=[Aa 83 3,Aa 2 83]
def tz:aQ:=⟨84,(amF DM [] (amF DL [] (.seq (amF DK [] (amI 0 (amF DJ [] (.seq (amJ 15 0) (.seq (.block 1 (amF DI Cm (amF DH [] (.seq (amF DG [] (amI 2 (amF DF [] (.seq (amJ 21 2) (.seq (.block 3 (amF DE Cm (.seq (.dregM DD vH Ct) (amF vT Cm (.seq (amI 4 (.seq (.seq (.sdreg vS [.pure,.pure,.pure,.pure,.pure,.pure,(.read 0 0),.pure,(.read 0 0),.pure,.pure,.pure,.pure,(.read 0 0),.pure,(.read 0 0),(.read 0 0),.pure,.pure,(.read 0 0),.pure,.pure,(.read 0 0),(.read 0 0),.pure] Cp) (amJ 59 4)) (.block 5 (.sreg vR Cm)))) (amF vQ [] (amF vP Cq (amF vO Co (amF vN Cq (.sreg vM Cl)))))))))) (.sreg vL Cl)))))) (.sreg vK Co))))) (.sreg vJ Cl)))))) (amF vI Cl .ret)))),[(.tmp 2)]⟩
attribute [push_cast] DM DL DK DJ DI DH DG DF DE DD vH vT vS vR vQ vP vO vN vM vL vK vJ vI
theorem RT:amK 90=amL tz:=amO
def Ik:LSO:=[Aw 2,Ad 3 0]
def Ij:LSO:=[Aa 7 0,Ai 8 37 7,Aa 6 8,Ap 9 6,Aq 10 6,Aa 4 9,Aa 5 10]
def Ii:LSO:=[Aa 11 5,A8 12 11 0]
def Ih:LSO:=[Aa 13 5,Aw 2,Aa 3 13]
def Ig:LSO:=[Aa 14 0,Ai 15 90 14,Ai 16 88 15,Aa 2 16,Ad 3 0]
def yr:aQ:=⟨17,(amF Ik [] (amF Ij Cr (.seq (amF Ii Cl (amH 12 (.sreg Ih Cs))) (amF Ig Cv .ret)))),[(.tmp 2),(.tmp 3)]⟩
attribute [push_cast] Ik Ij Ii Ih Ig
theorem TG:amK 89=amL yr:=amO
def MO:LSO:=[Aw 2,Ad 3 0]
def MN:LSO:=[Aa 7 0,Ai 8 188 7,Aa 6 8,Ap 9 6,Aq 10 6,Aa 4 9,Aa 5 10]
def MM:LSO:=[Aa 11 5,A8 12 11 0]
def ML:LSO:=[Aa 13 5,Aw 2,Aa 3 13]
def MK:LSO:=[Aa 14 4,Ai 15 89 14,Ap 16 15,Aq 17 15,Aa 2 16,Aa 3 17]
def JK:aQ:=⟨18,(amF MO [] (amF MN Cw (.seq (amF MM Cl (amH 12 (.sreg ML Cs))) (amF MK C3 .ret)))),[(.tmp 2),(.tmp 3)]⟩
attribute [push_cast] MO MN MM ML MK
theorem VI:amK 140=amL JK:=amO
attribute [push_cast] ym Oz JJ tx mq yl tA tz yr JK
variable {L:List Blk}{K:ajq}
set_option maxHeartbeats 8000000
set_option maxRecDepth 100000
theorem kP{l:List UInt8}{x:UInt8}(hn:l.length<=1100000)(h:K (.bool (l.contains x)) L):
  ajp 133 [.int .u8 x.toNat,.str l] L K:=by
 replace h:=hid h;refine ajo We ?_;refine aq (λn T' L'=>∃(i:Nat),n=l.length-i/\i<=l.length/\Hid (∀j,j<i->l.getD j 0≠x)/\T'=[(5,.int .i64 (i:Int)),(0,.int .u8 x.toNat),(1,.str l)]/\L=L') (CutS (b:=ajs _)) ⟨0,rfl,aju _,hid amN,rfl,rfl⟩ ?_;rintro _ _ _ ⟨i,rfl,hi,hno,rfl,rfl⟩;by_cases hlt:i<l.length;have h1:(i:Int)<(l.length:Int):=amM;have h2:=ajn i amM;obtain⟨p,hp⟩:=ajl (l.getD i 0);by_cases hpq:p=x;have hc:l.contains x=true:=by rw[akN,<- hpq,<- hp,ajO,ajF hlt];exact aky _
 have h':=h.o;rw[hc]at h';replace h':=hid h';clear hc;subst hpq;refine wk ?_;exact ac h'.o;have k1:¬(p.toNat:Int)=(x.toNat:Int):=λe=>hpq ((bv p x).1 e)
 have hp':=hid hp;refine wk ?_;refine amR amM (CutS (b:=ajs _)) ⟨i+1,rfl,hlt,hid λj hj=>?_,rfl,rfl⟩;rcases ajT j i with e|e;exact hno.o j e;have:j=i:=amM;subst this;rw[hp];exact hpq;have hke:i=l.length:=amM;subst hke;have h1:¬(l.length:Int)<(l.length:Int):=amM;have hc:l.contains x=false:=by rw[<- alq,akN];intro hm;obtain⟨j,hj,e⟩:=akk.1 hm;exact hno.o j hj (by simp[hj,e])
 have h':=h.o;rw[hc]at h';replace h':=hid h';clear hc;refine wk ?_;exact ac h'.o
abbrev lX:List UInt8:=[97,98,99,100,101,102,103,104,105,106,107,108,109,110,111,112,113,114,115,116,117,118,119,120,121,122]
abbrev W4:List UInt8:=[48,49,50,51,52,53,54,55,56,57,45]
theorem agi:∀n:_root_.Fin 256,lX.contains (eI (UInt8.ofNat n.val))=l5 (n.val:Int)/\(lX.contains (eI (UInt8.ofNat n.val)) ||W4.contains (eI (UInt8.ofNat n.val)))=OQ (n.val:Int):=by decide +kernel
theorem XC(c:UInt8):lX.contains (eI c)=l5 (c.toNat:Int)/\(lX.contains (eI c) ||W4.contains (eI c))=OQ (c.toNat:Int):=by have:=agi ⟨c.toNat,c.toNat_lt⟩;simpa using this
def okC(j:Nat)(c:UInt8):Bool:=lX.contains (eI c) ||(decide (0<j)&&W4.contains (eI c))
theorem adp(s:List UInt8):ix s=true↔(1<=s.length/\s.length<=32)/\∀j,j<s.length->okC j (s.getD j 0)=true:=by
 simp only[ix,ajv,decide_eq_true_eq,ajE];constructor;rintro⟨⟨⟨h1,h2⟩,h3⟩,h4⟩;refine⟨⟨h1,h2⟩,λj hj=>?_⟩;obtain⟨e1,e2⟩:=XC (s.getD j 0);by_cases h0:j=0;subst h0;rw[okC,e1,h3];rfl;have hm:s.getD j 0∈s:=by simp[hj]
 have:=h4 _ hm;rw[<- e2]at this;rw[okC,show decide (0<j)=true by simp;omega,aj7];exact this;rintro⟨⟨h1,h2⟩,h3⟩;refine⟨⟨⟨h1,h2⟩,?_⟩,λc hc=>?_⟩;have:=h3 0 amM;rw[okC]at this;simp only[Nat.lt_irrefl,decide_false,akp,al6]at this;rw[<- (XC _).1];exact this;obtain⟨j,hj,rfl⟩:=akk.1 hc;have:=h3 j hj;have e:s.getD j 0=s[j]:=by simp[hj]
 rw[e,okC]at this;rw[<- (XC _).2];cases hl:lX.contains (eI s[j])with
 |true=>rfl
 | false =>
   rw[hl,akE,ajv]at this;rw[this.2];rfl
theorem Ys(hs:(s.length:Int)<=140737488351232)(h:K (.bool (ix s)) L):ajp 86 [.str s] L K:=by
 replace h:=hid h;obtain⟨t,ht⟩:=ajl (ag s);have htl:t.length=s.length:=by rw[<- ht];simp[ag]
 have hg:∀j,j<s.length->t.getD j 0=eI (s.getD j 0):=λj hj=>by rw[<- ht];simp[ag,hj]
 replace htl:=hid htl;replace hg:=hid hg;have hit:=hid (adp s);refine ajo TD ?_;refine bu hs ?_;rw[ht];refine amU ?_;refine aq (λn T' L'=>∃(i:Nat) (b:Bool),n=s.length+1-i/\i<=s.length/\Hid (b=true↔(1<=s.length/\s.length<=32)/\∀j,j<i->okC j (s.getD j 0)=true)/\T'=[(5,.int .i64 (i:Int)),(4,.bool b),(3,.str t)]/\L=L') (CutS (b:=ajs _)) ⟨0,_,rfl,aju _,hid (by have:=htl.o;simp;omega),rfl,rfl⟩ ?_;rintro _ _ _ ⟨i,b,rfl,hi,hb,rfl,rfl⟩;have htl':=htl.o;by_cases hlt:i<s.length
 .have g1:(i:Int)<(t.length:Int):=amM;have g2:=ajn i amM;have g3:=hg.o i hlt;obtain⟨c,hc⟩:=ajl (s.getD i 0);rw[hc]at g3;replace hc:=hid hc;clear htl';cases b with
  | false =>
    have hf:ix s=false:=by rw[<- alq,hit.o];intro⟨q1,q2⟩;have:=hb.o.2 ⟨q1,λj hj=>q2 j amM⟩;cases this
    have h':=h.o;rw[hf]at h';replace h':=hid h';clear hf;refine wk ?_;exact ac h'.o
  | true =>
    have hnext:okC i c=true↔((1<=s.length/\s.length<=32)/\∀j,j<i+1->okC j (s.getD j 0)=true):=by
     have hb1:=hb.o.1 rfl;constructor
     .intro e;refine⟨hb1.1,λj hj=>?_⟩;rcases ajT j i with q|q
      .exact hb1.2 j q
      .have:j=i:=amM;subst this;rw[hc.o];exact e
     .rintro⟨_,e⟩;have:=e i amM;rwa[hc.o]at this
    replace hnext:=hid hnext;have hok:okC i c=(lX.contains (eI c) ||(decide (0<i)&&W4.contains (eI c))):=rfl;replace hok:=hid hok;refine wk ?_;refine kP amN ?_;cases hl:lX.contains (eI c)with
    | true =>
      have hk:=hid (show okC i c=true by rw[hok.o,hl];rfl);refine amU ?_;exact amR amM (CutL (b:=ajs _)) ⟨i+1,true,rfl,hlt,hid (by rw[<- hnext.o,hk.o]),rfl,rfl⟩
    | false =>
      by_cases h0:i=0
      .have hk:=hid (show okC i c=false by rw[hok.o,hl,h0];rfl);have k0:¬(0:Int)<(i:Int):=amM;clear h0;refine amU ?_;exact amR amM (CutL (b:=ajs _)) ⟨i+1,false,rfl,hlt,hid (by rw[<- hnext.o,hk.o]),rfl,rfl⟩
      .have hk:=hid (show okC i c=W4.contains (eI c)by rw[hok.o,hl,show decide (0<i)=true by simp;omega];simp);have k0:(0:Int)<(i:Int):=amM;clear h0;refine sk ?_
       repeat' first
        |refine cA ?_
        | (first|refine bG amO ?_|refine ba amO ?_|refine be ?_|refine dN ?_|refine cD (fun _=>?_)|refine aU ?_|refine bI ?_)
          refine sm ?_
        | (first|refine bC amO ?_|refine bz ?_|refine bd ?_|refine bH ?_|refine cI (aT ?_))
          refine sl ?_
        |exact cE
        |first|apply cF|apply bD|apply cG|apply bE|apply cH|apply bF
        |refine bh ?_
        |refine bc ?_
        |first|refine bf rfl ?_|refine bg rfl ?_|refine aI rfl ?_ ?_|refine bm rfl (λ_=>?_) (λ_=>?_)|refine bj rfl (λ_=>?_) (λ_=>?_)
        |((first|refine aG (λ_=>?_) (λ_=>?_)|refine aS (λ_=>?_) (λ_=>?_))<;>try refine sm ?_)
        |refine And.intro trivial ?_
        |refine And.intro amM ?_
        |refine br rfl (λ_=>?_) (λ_=>?_)
        |refine And.intro ?_ ?_
       refine bi (kP amN ⟨rfl,rfl⟩) ?_;refine sk ?_
       repeat' first
        |refine cA ?_
        | (first|refine bG amO ?_|refine ba amO ?_|refine be ?_|refine dN ?_|refine cD (fun _=>?_)|refine aU ?_|refine bI ?_)
          refine sm ?_
        | (first|refine bC amO ?_|refine bz ?_|refine bd ?_|refine bH ?_|refine cI (aT ?_))
          refine sl ?_
        |exact cE
        |first|apply cF|apply bD|apply cG|apply bE|apply cH|apply bF
        |refine bh ?_
        |refine bc ?_
        |first|refine bf rfl ?_|refine bg rfl ?_|refine aI rfl ?_ ?_|refine bm rfl (λ_=>?_) (λ_=>?_)|refine bj rfl (λ_=>?_) (λ_=>?_)
        |((first|refine aG (λ_=>?_) (λ_=>?_)|refine aS (λ_=>?_) (λ_=>?_))<;>try refine sm ?_)
        |refine And.intro trivial ?_
        |refine And.intro amM ?_
        |refine br rfl (λ_=>?_) (λ_=>?_)
        |refine And.intro ?_ ?_
       exact amR amM (CutL (b:=ajs _)) ⟨i+1,W4.contains (eI c),rfl,hlt,hid (by rw[<- hnext.o,hk.o]),rfl,rfl⟩
 have hke:i=s.length:=amM;subst hke;have g1:¬(s.length:Int)<(t.length:Int):=amM;have hfin:b=ix s:=by have e:=hb.o.trans hit.o.symm;cases b<;>cases hs':ix s<;>simp_all
 have h':=h.o;rw[<- hfin]at h';replace h':=hid h';clear hfin;clear htl';refine wk ?_;exact ac h'.o
theorem aa6(hs:(s.length:Int)<=100000)(h:K (.bool (ix s)) L):ajp 86 [.str s] L K:=Ys amM h
theorem adN{r:List Ava}(hn:r.length<=100000)(h1:∀a∈r,(a.1.length:Int)<=100000)(h2:(typ.length:Int)<=100000)(h:K (.bool (jB r typ)) L):
  ajp 87 [ZU r cap,.str typ] L K:=by
 replace h:=hid h;replace h1:=hid h1;refine ajo VH ?_;refine aq (λn T' L'=>∃(k:Nat) (Z:List Blk),n=r.length-k/\k<=r.length/\Hid (jB (r.take k) typ=false)/\T'=[(9,.int .i64 (k:Int)),(8,.int .i64 r.length),(7,ZU r cap),(1,.str typ)]/\L'=L++Z) amQ ⟨0,[],rfl,aju _,hid rfl,rfl,amN⟩ ?_;rintro _ _ _ ⟨k,Z,rfl,hk,hf,rfl,rfl⟩;by_cases hlt:k<r.length;have g1:(k:Int)<(r.length:Int):=amM;have g2:=ajn k amM;have e1:=fL hlt;have e2:k*2+2<=(aL r).length:=by rw[cJ];omega
 obtain⟨⟨ty,va⟩,ha⟩:∃a,r.getD k ([],[])=a:=⟨_,rfl⟩;have ham:(ty,va)∈r:=by rw[<- ha];simp[hlt]
 have htk:r.take (k+1)=r.take k++[(ty,va)]:=by rw[ajN hlt,<- ha];simp[hlt]
 rw[ha]at e1;simp only[mu]at e1;have hs:jB (r.take (k+1)) typ=decide (ag ty=ag typ):=by have:=hf.o;simp only[jB]at this⊢;rw[htk,alD,this];simp
 have ha1:=h1.o _ ham;simp only at ha1;have hall:ag ty=ag typ->jB r typ=true:=λe=>akX.2 ⟨_,ham,by simpa using e⟩
 replace hall:=hid hall;replace hs:=hid hs;clear ha ham htk;by_cases hq:ag ty=ag typ;have h':=h.o;rw[hall.o hq]at h';replace h':=hid h';have kk1:=@amT _ _ _ _ (kB ha1);have kk2:=@amT _ _ _ _ (kB h2);refine wk ?_;exact ab rfl h'.o;have kk1:=@amT _ _ _ _ (kB ha1);have kk2:=@amT _ _ _ _ (kB h2);refine wk ?_;exact amR amM amP ⟨k+1,_,rfl,hlt,hid (by rw[hs.o];simpa using hq),rfl,rfl⟩;have hke:k=r.length:=amM;subst hke;have g1:¬(r.length:Int)<(r.length:Int):=amM;have hn':=hf.o;rw[ajL]at hn';have h':=h.o;rw[hn']at h';replace h':=hid h';clear hn';refine wk ?_;exact ab rfl h'.o
theorem j9(hs:s.length<=100000)(h:K (.str (fN s)) L):ajp 134 [.str s] L K:=by
 replace h:=hid h;refine ajo Oy ?_;refine bK (l:=[]) (n:=0) 3 1 rfl (ajX 1).symm ?_;refine aq (λn T' L'=>∃(i m:Nat) (b:List UInt8),n=s.length-i/\i<=s.length/\m<=3*i/\Hid (m=b.length/\b++wrL s.length i (s.drop i)=fN s)/\T'=[(4,.int .i64 (i:Int)),(3,.gsl (u8s b) m L.length 1),(0,.str s)]/\L'=L++[.spare m 1]) amQ ⟨0,0,[],rfl,aju _,amM,hid ⟨rfl,rfl⟩,rfl,rfl⟩ ?_;rintro _ _ _ ⟨i,m,b,rfl,hi,hm,hb,rfl,rfl⟩;by_cases hlt:i<s.length
 .have g1:(i:Int)<(s.length:Int):=amM;have g2:=ajn i amM;obtain⟨c,hc⟩:=ajl (s.getD i 0);have hdr:=jY hlt;rw[hc]at hdr;have hb2:=hb.o.2;rw[hdr]at hb2;simp only[wrL]at hb2;clear hdr;replace hb2:=hid hb2;obtain⟨p1,hp1⟩:=ajl (([34,43,44,59,60,62,92]:List UInt8).contains c);obtain⟨p2,hp2⟩:=ajl (([32,35]:List UInt8).contains c);have hq1:p1=true↔c∈([34,43,44,59,60,62,92]:List UInt8):=(by rw[<- hp1,akN]);have hq2:p2=true↔(c=32\/c=35):=(by rw[<- hp2,akN];simp);replace hq1:=hid hq1;replace hq2:=hid hq2
  repeat' first
   |refine cA ?_
   | (first|refine bG amO ?_|refine ba amO ?_|refine be ?_|refine dN ?_|refine cD (fun _=>?_)|refine aU ?_|refine bI ?_|refine kP amN ?_|refine bQ (kP amN ⟨rfl,rfl⟩) (kP amN ⟨rfl,rfl⟩) ?_|refine bi (kP amN ⟨rfl,rfl⟩) ?_)
     refine sm ?_
   | (first|refine bC amO ?_|refine bz ?_|refine bd ?_|refine bH ?_|refine cI (aT ?_))
     refine sl ?_
   |exact cE
   |first|apply cF|apply bD|apply cG|apply bE|apply cH|apply bF
   |refine bh ?_
   |refine bc ?_
   |first|refine bf rfl ?_|refine bg rfl ?_|refine aI rfl ?_ ?_|refine bm rfl (λ_=>?_) (λ_=>?_)|refine bj rfl (λ_=>?_) (λ_=>?_)
   |((first|refine aG (λ_=>?_) (λ_=>?_)|refine aS (λ_=>?_) (λ_=>?_))<;>try refine sm ?_)
   |refine And.intro trivial ?_
   |refine And.intro amM ?_
   |refine br rfl (λ_=>?_) (λ_=>?_)
   |refine And.intro ?_ ?_
  rfl;omega;rename_i h0;have hc0:=(bv c 0).1 h0;rw[show u8s b++AV.frzL (u8s [92,48,48])=u8s (b++[92,48,48])by simp[u8s,AV.frzL,AV.frz]];refine amR amM amP ⟨i+1,m+3,b++[92,48,48],rfl,hlt,amM,hid ⟨by simp[hb.o.1],?_⟩,rfl,rfl⟩;rw[<- hb2.o,wrB,if_pos hc0,ajD];rename_i h0 h1;have hc0:¬c=0:=λe=>h0 ((bv c 0).2 e)
  have hq:(i=0/\(c=32\/c=35))\/(i+1=s.length/\c=32)\/c∈[34,43,44,59,60,62,92]:=by simp only[akc,ajv,decide_eq_true_eq]at h1;rcases h1 with(e|⟨e1,e2⟩)|⟨e1,e2⟩;exact .inr (.inr (hq1.o.1 e));exact .inl ⟨amM,hq2.o.1 e2⟩;exact .inr (.inl ⟨amM,(bv c 32).1 e2⟩)
  rw[show u8s b++[AV.int IntKind.u8 92,AV.int IntKind.u8 (c.toNat:Int)]=u8s (b++[92,c])by simp[u8s]];refine amR amM amP ⟨i+1,m+1+1,b++[92,c],rfl,hlt,amM,hid ⟨by simp[hb.o.1],?_⟩,rfl,rfl⟩;rw[<- hb2.o,wrB,if_neg hc0,if_pos hq,ajD];rename_i h0 h1;have hc0:¬c=0:=λe=>h0 ((bv c 0).2 e)
  have hq:¬((i=0/\(c=32\/c=35))\/(i+1=s.length/\c=32)\/c∈[34,43,44,59,60,62,92]):=λhq=>by rw[<- alq]at h1;refine h1 ?_;simp only[akc,ajv,decide_eq_true_eq];rcases hq with⟨e1,e2⟩|⟨e1,e2⟩|e;exact .inl (.inr ⟨amM,hq2.o.2 e2⟩);exact .inr ⟨amM,(bv c 32).2 e2⟩;exact .inl (.inl (hq1.o.2 e))
  rw[show u8s b++[AV.int IntKind.u8 (c.toNat:Int)]=u8s (b++[c])by simp[u8s]];refine amR amM amP ⟨i+1,m+1,b++[c],rfl,hlt,amM,hid ⟨by simp[hb.o.1],?_⟩,rfl,rfl⟩;rw[<- hb2.o,wrB,if_neg hc0,if_neg hq,ajD]
 have hke:i=s.length:=amM;subst hke;have g1:¬(s.length:Int)<(s.length:Int):=amM;have e1:=iP b;have e2:=ii b;have e:=hb.o.2;rw[ake,wrL,aj6]at e;have h':=h.o;rw[<- e]at h';replace h':=hid h';clear e;refine wk ?_;exact ab rfl h'.o
def acH(n:Nat):Nat:=if n<10 then 48+n else 87+n
theorem FC(hn:n<16)(h:K (.int .u8 (acH n:Nat)) L):ajp 248 [.int .u8 n] L K:=by unfold acH at h;refine aa RW (by simp[tC]) ?_;simp only[tC,am];by_cases h1:n<10;rw[if_pos h1]at h;replace h:=hid h;have k1:(n:Int)<10:=amM;have k2:IntKind.u8.wrap (48+(n:Int))=48+(n:Int):=cZ amM amM;clear h1;refine wk ?_;refine ac ?_;simpa using h.o;rw[if_neg h1]at h;replace h:=hid h;have k1:¬(n:Int)<10:=amM;have k2:IntKind.u8.wrap (97+(n:Int))=97+(n:Int):=cZ amM amM;have k3:IntKind.u8.wrap (97+(n:Int)-10)=97+(n:Int)-10:=cZ amM amM;clear h1;refine wk ?_;refine ac ?_;have:=h.o;rwa[show((87+n:Nat):Int)=97+(n:Int)-10 by omega]at this
theorem ago:∀(a:_root_.Fin 256) (x:_root_.Fin 16),(acH x.val=(eI (UInt8.ofNat a.val)).toNat)↔jp (UInt8.ofNat a.val)=some x.val:=by decide +kernel
theorem aiy{x:Nat}(hx:x<16):((acH x:Nat):Int)=((eI a).toNat:Int)↔jp a=some x:=by have:=ago ⟨a.toNat,a.toNat_lt⟩ ⟨x,hx⟩;simp only[UInt8.ofNat_toNat]at this;rw[<- this];omega
def aaj(a b:UInt8)(k:Nat):Prop:=jp a=some (k/16)/\jp b=some (k%16)
theorem acs{b:UInt8}(h:aaj a b k):Q4 a b=some (UInt8.ofNat k):=by obtain⟨h1,h2⟩:=h;simp only[Q4,h1,h2];congr 2;omega
theorem act{b:UInt8}(h:∀j,j<256->¬aaj a b j):Q4 a b=none:=by unfold Q4;rcases h1:jp a with _|x;rfl;rcases h2:jp b with _|y;rfl;have:=J3 h1;have:=J3 h2;exact absurd ⟨by rw[h1];congr 1;omega,by rw[h2];congr 1;omega⟩ (h (16*x+y) amM)
theorem abY{b:UInt8}(h:K (Oj a b) L):ajp 237 [.str [a,b]] L K:=by
 obtain⟨p,hp⟩:=ajl (eI a);obtain⟨q,hq⟩:=ajl (eI b);have hf:ag [a,b]=[p,q]:=by simp[ag,hp,hq]
 have hl:[p,q].length=2:=rfl;have hl':[a,b].length=2:=rfl;have ha:[p,q].getD 0 0=p:=rfl;have hb:[p,q].getD 1 0=q:=rfl;have d1:Int.tmod 2 2=0:=by decide
 replace h:=hid h;refine ajo RX ?_;refine kB amN ?_;rw[hf];refine amU ?_;refine bK (l:=[]) (n:=0) 4 1 rfl (ajX 1).symm ?_;refine aq (λn T' L'=>(n=1/\T'=[(6,.int .i64 0),(4,.gsl [] 0 L.length 1),(5,.str [p,q]),(0,.str [a,b])]/\L'=L++[.spare 0 1])\/(n=0/\∃(x:UInt8) (w:List AV),Hid (Q4 a b=some x/\w=u8s [x])/\T'=[(6,.int .i64 2),(4,.gsl w 1 L.length 1),(5,.str [p,q]),(0,.str [a,b])]/\L'=L++[.spare 1 1])) (n0:=1) (T0:=[(6,.int .i64 0),(4,.gsl [] 0 L.length 1),(5,.str [p,q]),(0,.str [a,b])]) (L0:=L++[.spare 0 1]) amQ (.inl ⟨rfl,rfl,rfl⟩) ?_;rintro _ _ _ (⟨rfl,rfl,rfl⟩|⟨rfl,x,w,hx,rfl,rfl⟩);refine wk ?_;refine aq (λn T' L'=>(∃k:Nat,n=257-k/\k<=256/\Hid (∀j,j<k->¬aaj a b j)/\T'=[(8,.int .i64 (k:Int)),(7,.bool false),(6,.int .i64 0),(4,.gsl [] 0 L.length 1),(5,.str [p,q]),(0,.str [a,b])]/\L'=L++[.spare 0 1])\/(n=0/\∃(x:UInt8) (k:Nat) (w:List AV),k<=256/\Hid (Q4 a b=some x/\w=u8s [x])/\T'=[(8,.int .i64 (k:Int)),(7,.bool true),(6,.int .i64 0),(4,.gsl w 1 L.length 1),(5,.str [p,q]),(0,.str [a,b])]/\L'=L++[.spare 1 1])) (n0:=257) (T0:=[(8,.int .i64 0),(7,.bool false),(6,.int .i64 0),(4,.gsl [] 0 L.length 1),(5,.str [p,q]),(0,.str [a,b])]) (L0:=L++[.spare 0 1]) amQ (.inl ⟨0,rfl,amM,hid amN,rfl,rfl⟩) ?_;rintro _ _ _ (⟨k,rfl,hk,hno,rfl,rfl⟩|⟨rfl,x,k,w,hk,hx,rfl,rfl⟩);by_cases hlt:k<256;have g1:(k:Int)<256:=amM;have g2:=ajn k amM;have g3:IntKind.u8.wrap (k:Int)=(k:Int):=cZ amM amM;obtain⟨u,hu⟩:=ajl (k/16);obtain⟨v,hv⟩:=ajl (k%16);have hu16:u<16:=amM;have hv16:v<16:=amM;have g4:IntKind.i64.wrap (Int.tdiv (k:Int) 16)=(u:Int):=by rw[Int.tdiv_eq_ediv_of_nonneg amM,ae amM amM];omega
 have g5:IntKind.u8.wrap (u:Int)=(u:Int):=cZ amM amM;have g6:Int.tmod (k:Int) 16=(v:Int):=by rw[amo amM];omega
 have g7:IntKind.u8.wrap (v:Int)=(v:Int):=cZ amM amM;have m1:=aiy (a:=a) hu16;have m2:=aiy (a:=b) hv16;rw[hp]at m1;rw[hq]at m2;have mk:aaj a b k↔jp a=some u/\jp b=some v:=by unfold aaj;rw[hu,hv]
 replace hu:=hid hu;replace hv:=hid hv;replace mk:=hid mk;have nxt:=hid λ(e:¬aaj a b k)=>show ∀j,j<k+1->¬aaj a b j from λj hj=>by rcases ajT j k with e'|e';exact hno.o j e';rw[show j=k by omega];exact e
 by_cases h1:jp a=some u;have k1:=m1.2 h1;by_cases h2:jp b=some v;have k2:=m2.2 h2;have hx:=acs (mk.o.2 ⟨h1,h2⟩);have hkk:((UInt8.ofNat k).toNat:Int)=(k:Int):=by simp;omega
 replace hkk:=hid hkk;replace hx:=hid hx;clear m1 m2 h1 h2;have kk1:=@amT _ _ _ _ (FC hu16);have kk2:=@amT _ _ _ _ (FC hv16);refine wk ?_;refine amR amM amP (.inr ⟨rfl,UInt8.ofNat k,k+1,_,amM,hid ⟨hx.o,?_⟩,rfl,rfl⟩);simp only[u8s,List.map,hkk.o];have k2:¬((acH v:Nat):Int)=(q.toNat:Int):=λe=>h2 (m2.1 e)
 have hn:=hid (nxt.o λe=>h2 (mk.o.1 e).2);clear m1 m2 h1 h2;have kk1:=@amT _ _ _ _ (FC hu16);have kk2:=@amT _ _ _ _ (FC hv16);refine wk ?_;exact amR amM amP (.inl ⟨k+1,rfl,amM,hn,rfl,rfl⟩);have k1:¬((acH u:Nat):Int)=(p.toNat:Int):=λe=>h1 (m1.1 e)
 have hn:=hid (nxt.o λe=>h1 (mk.o.1 e).1);clear m1 m2 h1;have kk1:=@amT _ _ _ _ (FC hu16);refine wk ?_;exact amR amM amP (.inl ⟨k+1,rfl,amM,hn,rfl,rfl⟩);have hke:k=256:=amM;subst hke;have h':=h.o;simp only[Oj,act hno.o]at h';replace h':=hid h';have g1:¬((256:Nat):Int)<256:=amM;refine wk ?_;exact ab rfl h'.o;by_cases hlt:(k:Int)<256;refine wk ?_;exact amR amM amP (.inr ⟨rfl,x,w,hx,rfl,rfl⟩);refine wk ?_;exact amR amM amP (.inr ⟨rfl,x,w,hx,rfl,rfl⟩);have h':=h.o;simp only[Oj,hx.o.1]at h';replace h':=hid h';rw[hx.o.2];have e1:=iP [x];have e2:=ii [x];refine wk ?_;exact ab rfl h'.o
def j7(b:List UInt8)(bl:Bool)(s:List UInt8):Option (List UInt8×List UInt8):=match gH b bl s with
 |some (v,r,true)=>some (v,r)
 |_=>none
def ZL(n:Nat)(o:Option (List UInt8×List UInt8)):AV:=match o with
 |none=>.tup [.str [],.int .i64 0,.bool false]
 |some (v,r)=>.tup [.str v,.int .i64 ((n-r.length:Nat):Int),.bool true]
theorem abE(h:c=44\/c=43):j7 b false (c::s)=some (b,c::s):=by simp only[j7,oM h];rfl
theorem ZK(h:c=44\/c=43):j7 b true (c::s)=none:=by simp only[j7,oM h];rfl
theorem adh :j7 b false []=some (b,[]):=by simp only[j7,kI];rfl
theorem abG :j7 b true []=none:=by simp only[j7,kI];rfl
theorem adi{bl:Bool}(h:¬(c=44\/c=43))(h2:c≠92)(hb:c=0\/c∈([34,59,60,62]:List UInt8)\/(b=[]/\(c=32\/c=35))):j7 b bl (c::s)=none:=by simp only[j7,j8 h h2,if_pos hb]
theorem Uh{bl:Bool}(h:¬(c=44\/c=43))(h2:c≠92)(hb:¬(c=0\/c∈([34,59,60,62]:List UInt8)\/(b=[]/\(c=32\/c=35)))):j7 b bl (c::s)=j7 (b++[c]) (decide (c=32)) s:=by simp only[j7,j8 h h2,if_neg hb]
theorem TX{x:UInt8}{L:List Blk}{K:ajq}(h:K (.bool (oR.contains x)) L):ajp 133 [.int .u8 x.toNat,.str oR] L K:=kP amN h
theorem Xm{a b c d x:UInt8}{L:List Blk}{K:ajq}(h:K (.bool ([a,b,c,d].contains x)) L):ajp 133 [.int .u8 x.toNat,.str [a,b,c,d]] L K:=kP amN h
theorem Xn{a b x:UInt8}{L:List Blk}{K:ajq}(h:K (.bool ([a,b].contains x)) L):ajp 133 [.int .u8 x.toNat,.str [a,b]] L K:=kP amN h
theorem adH{at0:Nat}(hs:s.length<=100000)(hat:at0<=s.length)(h:K (ZL s.length (j7 [] false (s.drop at0))) L):ajp 219 [.str s,.int .i64 (at0:Int)] L K:=by
 obtain⟨R,hR⟩:=ajl (j7 [] false (s.drop at0));rw[hR]at h;replace h:=hid h;refine ajo RS ?_;refine bK (l:=[]) (n:=0) 7 1 rfl (ajX 1).symm ?_;refine aq (λn T' L'=>∃(i m:Nat) (b:List UInt8) (bl fb:Bool),n=s.length-i/\i<=s.length/\m<=i/\Hid (m=b.length/\j7 b bl (s.drop i)=R/\(bl=true->i<s.length/\s.getD i 0≠44/\s.getD i 0≠43)/\(fb=true↔b=[]))/\T'=[(8,.bool fb),(1,.int .i64 (i:Int)),(7,.gsl (u8s b) m L.length 1),(0,.str s)]/\L'=L++[.spare m 1]) amQ ⟨at0,0,[],false,true,rfl,hat,amM,hid ⟨rfl,hR,amN,amN⟩,rfl,rfl⟩ ?_;rintro _ _ _ ⟨i,m,b,bl,fb,rfl,hi,hm,hI,rfl,rfl⟩;have e1:=iP b;have e2:=ii b;by_cases hlt:i<s.length
 .have g1:(i:Int)<(s.length:Int):=amM;have g2:=ajn i amM;obtain⟨c,hc⟩:=ajl (s.getD i 0);have hdr:=jY hlt;rw[hc]at hdr;have hb2:=hI.o.2.1;rw[hdr]at hb2;by_cases hcc:c=44\/c=43;have hbl:bl=false:=by
   cases bl with
   |false=>rfl
   | true =>
     obtain⟨_,n1,n2⟩:=hI.o.2.2.1 rfl;rw[hc]at n1 n2;rcases hcc with e|e
     .exact absurd e n1
     .exact absurd e n2
  subst hbl;rw[abE hcc]at hb2;have h':=h.o;rw[<- hb2]at h';simp only[ZL]at h';rw[<- hdr,akQ,show s.length-(s.length-i)=i by omega]at h';replace h':=hid h';have k1:((c.toNat:Int)=44)\/((c.toNat:Int)=43):=hcc.imp (bv c 44).2 (bv c 43).2;clear hb2 hcc hdr;rcases k1 with k1|k1;refine wk ?_;exact ab rfl h'.o;refine wk ?_;exact ab rfl h'.o
  .have k1:¬(c.toNat:Int)=44:=λe=>hcc (.inl ((bv c 44).1 e))
   have k2:¬(c.toNat:Int)=43:=λe=>hcc (.inr ((bv c 43).1 e))
   by_cases h92:c=92;subst h92;have g3:IntKind.i64.wrap ((i:Int)+1+1)=(i:Int)+1+1:=ae amM amM;have g4:IntKind.i64.wrap ((i:Int)+1+2)=(i:Int)+1+2:=ae amM amM;have t1:((i:Int)+1).toNat=i+1:=amM;have t3:((i:Int)+1+2).toNat=i+3:=amM;by_cases h1:i+1<s.length;have f1:(i:Int)+1<(s.length:Int):=amM;have f0:¬(i:Int)+1=(s.length:Int):=amM;obtain⟨d,hd⟩:=ajl (s.getD (i+1) 0);have hdr1:=jY h1;rw[hd]at hdr1;rw[hdr1]at hb2;by_cases hsp:d∈oR;simp only[j7,tJ hsp]at hb2;have f2:oR.contains d=true:=akN.2 hsp;clear hdr hdr1 hcc;replace hb2:=hid hb2;have kk1:=@hid _ @TX;have kk2:=@hid _ @Xm;have kk3:=@hid _ @Xn;refine wk ?_;rw[show u8s b++[AV.int IntKind.u8 (d.toNat:Int)]=u8s (b++[d])by simp[u8s]];exact amR amM amP ⟨i+1+1,m+1,b++[d],false,false,rfl,h1,amM,hid ⟨by simp[hI.o.1],hb2.o,amN,amN⟩,rfl,rfl⟩;have f2:oR.contains d=false:=by rw[<- alq,akN];exact hsp
   by_cases h2:i+2<s.length;have f3:¬(s.length:Int)<(i:Int)+1+2:=amM;have f4:(i:Int)+1<=(i:Int)+1+2:=amM;have f5:(i:Int)+1+2<=(s.length:Int):=amM;have f6:(0:Int)<=(i:Int)+1:=amM;obtain⟨e,he⟩:=ajl (s.getD (i+2) 0);have hdr2:=jY h2;rw[he]at hdr2;rw[hdr2]at hb2;simp only[j7,Fx hsp]at hb2;have hcut:(s.drop (i+1)).take (i+3-(i+1))=[d,e]:=by rw[hdr1,hdr2,show i+3-(i+1)=2 by omega];rfl
   clear hdr hdr1 hdr2 hcc;replace hb2:=hid hb2;have kk1:=@hid _ @TX;have kk2:=@hid _ @Xm;have kk3:=@hid _ @Xn;refine wk ?_;refine abY ?_;rcases hx:Q4 d e with _|x;rw[show Oj d e=.tup [.str [],.bool false]by simp only[Oj,hx]];have h':=h.o;rw[<- hb2.o,hx]at h';simp only[ZL]at h';replace h':=hid h';clear hx;refine amU ?_;exact ab rfl h'.o;rw[show Oj d e=.tup [.str [x],.bool true]by simp only[Oj,hx]];have hb3:=hb2.o;rw[hx]at hb3;simp only at hb3;replace hb3:=hid hb3;have q1:[x].getD 0 0=x:=rfl;clear hx hb2;refine amU ?_;rw[show u8s b++[AV.int IntKind.u8 (x.toNat:Int)]=u8s (b++[x])by simp[u8s]];exact amR amM amP ⟨i+1+2,m+1,b++[x],false,false,rfl,h2,amM,hid ⟨by simp[hI.o.1],hb3.o,amN,amN⟩,rfl,rfl⟩;have f3:(s.length:Int)<(i:Int)+1+2:=amM;have hnil:s.drop (i+1+1)=[]:=alh amM;rw[hnil]at hb2;simp only[j7,JW hsp]at hb2;have h':=h.o;rw[<- hb2]at h';replace h':=hid h';clear hdr hdr1 hb2 hcc;have kk1:=@hid _ @TX;have kk2:=@hid _ @Xm;have kk3:=@hid _ @Xn;refine wk ?_;exact ab rfl h'.o;have f1:¬(i:Int)+1<(s.length:Int):=amM;have f0:(i:Int)+1=(s.length:Int):=amM;have f3:(s.length:Int)<(s.length:Int)+2:=amM;have f4:¬(s.length:Int)<(s.length:Int):=amM;have g5:IntKind.i64.wrap (s.length:Int)=(s.length:Int):=ae amM amM;have g6:IntKind.i64.wrap ((s.length:Int)+2)=(s.length:Int)+2:=ae amM amM;have hnil:s.drop (i+1)=[]:=alh amM;rw[hnil]at hb2;simp only[j7,JX]at hb2;have h':=h.o;rw[<- hb2]at h';replace h':=hid h';clear hdr hb2 hcc;have kk1:=@hid _ @TX;have kk2:=@hid _ @Xm;have kk3:=@hid _ @Xn;refine wk ?_;exact ab rfl h'.o
   .have k3:¬(c.toNat:Int)=92:=λe=>h92 ((bv c 92).1 e)
    obtain⟨p1,hp1⟩:=ajl (([34,59,60,62]:List UInt8).contains c);obtain⟨p2,hp2⟩:=ajl (([32,35]:List UInt8).contains c);have hq1:p1=true↔c∈([34,59,60,62]:List UInt8):=(by rw[<- hp1,akN]);have hq2:p2=true↔(c=32\/c=35):=(by rw[<- hp2,akN];simp);replace hq1:=hid hq1;replace hq2:=hid hq2;have h0:=hid (bv c 0);have h32:=hid (bv c 32);have hfb:=hid hI.o.2.2.2;obtain⟨lst,hlst⟩:∃lst:Bool,decide (i+1<s.length->s.getD (i+1) 0=44\/s.getD (i+1) 0=43)=lst:=⟨_,rfl⟩;have hbad:=hid λ(e:c=0\/c∈([34,59,60,62]:List UInt8)\/(b=[]/\(c=32\/c=35)))=>(show R=none by rw[<- hb2,adi hcc h92 e])
    have hend:=hid λ(e:lst=true/\c=32)=>(show R=none by by_cases eb:c=0\/c∈([34,59,60,62]:List UInt8)\/(b=[]/\(c=32\/c=35));exact hbad.o eb;rw[<- hb2,Uh hcc h92 eb,e.2];have el:=of_decide_eq_true (hlst.trans e.1);simp only[decide_true];by_cases h1:i+1<s.length;rw[jY h1,ZK (el h1)];rw[alh amM,abG])
    have hgo:=hid λ(e:¬(c=0\/c∈([34,59,60,62]:List UInt8)\/(b=[]/\(c=32\/c=35))))=>(show j7 (b++[c]) (decide (c=32)) (s.drop (i+1))=R by rw[<- hb2,Uh hcc h92 e])
    replace hlst:=hid hlst;clear hdr hb2 hcc;have bad:R=none->Fin L (.tup [.str [],.int .i64 0,.bool false]) (L++[.spare m 1]) K:=λe=>ab rfl (by have h':=h.o;rwa[e]at h')
    replace bad:=hid bad;by_cases h1:i+1<s.length
    .have f1:(i:Int)+1<(s.length:Int):=amM;have f0:¬(i:Int)+1=(s.length:Int):=amM;have t1:((i:Int)+1).toNat=i+1:=amM;obtain⟨d,hd⟩:=ajl (s.getD (i+1) 0);have hlst2:=hid (show lst=true↔((d.toNat:Int)=44\/(d.toNat:Int)=43)by rw[<- hlst.o,decide_eq_true_eq,hd,show(44:Int)=((44:UInt8).toNat:Int)from rfl,show(43:Int)=((43:UInt8).toNat:Int)from rfl,bv,bv];exact⟨λe=>e h1,λe _=>e⟩)
     repeat' first
      |refine cA ?_
      | (first|refine bG amO ?_|refine ba amO ?_|refine be ?_|refine dN ?_|refine cD (fun _=>?_)|refine aU ?_|refine bI ?_|refine kP amN ?_|refine bQ (kP amN ⟨rfl,rfl⟩) (kP amN ⟨rfl,rfl⟩) ?_|refine bi (kP amN ⟨rfl,rfl⟩) ?_)
        refine sm ?_
      | (first|refine bC amO ?_|refine bz ?_|refine bd ?_|refine bH ?_|refine cI (aT ?_))
        refine sl ?_
      |exact cE
      |first|apply cF|apply bD|apply cG|apply bE|apply cH|apply bF
      |refine bh ?_
      |refine bc ?_
      |first|refine bf rfl ?_|refine bg rfl ?_|refine aI rfl ?_ ?_|refine bm rfl (λ_=>?_) (λ_=>?_)|refine bj rfl (λ_=>?_) (λ_=>?_)
      |((first|refine aG (λ_=>?_) (λ_=>?_)|refine aS (λ_=>?_) (λ_=>?_))<;>try refine sm ?_)
      |refine And.intro trivial ?_
      |refine And.intro amM ?_
      |refine br rfl (λ_=>?_) (λ_=>?_)
      |refine And.intro ?_ ?_
     rename_i hx;refine bad.o ?_;simp only[akc,ajv,decide_eq_true_eq]at hx;rcases hx with((e|e)|⟨e,e'⟩)|e;exact hbad.o (.inl (h0.o.1 e));exact hbad.o (.inr (.inl (hq1.o.1 e)));exact hbad.o (.inr (.inr ⟨hfb.o.1 e,hq2.o.1 e'⟩));exact hend.o ⟨hlst2.o.2 e.1,h32.o.1 e.2⟩;rename_i hx;rw[<- alq]at hx;simp only[akc,ajv,decide_eq_true_eq]at hx;rw[show u8s b++[AV.int IntKind.u8 (c.toNat:Int)]=u8s (b++[c])by simp[u8s]];refine amR amM amP ⟨i+1,m+1,b++[c],decide (c=32),false,rfl,hlt,amM,hid ⟨by simp[hI.o.1],?_,λe=>?_,amN⟩,rfl,rfl⟩;refine hgo.o λe=>hx ?_
     rcases e with e|e|⟨e,e'⟩;exact .inl (.inl (.inl (h0.o.2 e)));exact .inl (.inl (.inr (hq1.o.2 e)));exact .inl (.inr ⟨hfb.o.2 e,hq2.o.2 e'⟩);have e32:=h32.o.2 (of_decide_eq_true e);refine⟨h1,?_,?_⟩;intro e4;exact hx (.inr ⟨.inl (by rw[<- hd,e4];rfl),e32⟩);intro e4;exact hx (.inr ⟨.inr (by rw[<- hd,e4];rfl),e32⟩)
    .have f1:¬(i:Int)+1<(s.length:Int):=amM;have f0:(i:Int)+1=(s.length:Int):=amM;have g5:IntKind.i64.wrap (s.length:Int)=(s.length:Int):=ae amM amM;have hlst2:=hid (show lst=true by rw[<- hlst.o,decide_eq_true_eq];exact λe=>absurd e h1)
     repeat' first
      |refine cA ?_
      | (first|refine bG amO ?_|refine ba amO ?_|refine be ?_|refine dN ?_|refine cD (fun _=>?_)|refine aU ?_|refine bI ?_|refine kP amN ?_|refine bQ (kP amN ⟨rfl,rfl⟩) (kP amN ⟨rfl,rfl⟩) ?_|refine bi (kP amN ⟨rfl,rfl⟩) ?_)
        refine sm ?_
      | (first|refine bC amO ?_|refine bz ?_|refine bd ?_|refine bH ?_|refine cI (aT ?_))
        refine sl ?_
      |exact cE
      |first|apply cF|apply bD|apply cG|apply bE|apply cH|apply bF
      |refine bh ?_
      |refine bc ?_
      |first|refine bf rfl ?_|refine bg rfl ?_|refine aI rfl ?_ ?_|refine bm rfl (λ_=>?_) (λ_=>?_)|refine bj rfl (λ_=>?_) (λ_=>?_)
      |((first|refine aG (λ_=>?_) (λ_=>?_)|refine aS (λ_=>?_) (λ_=>?_))<;>try refine sm ?_)
      |refine And.intro trivial ?_
      |refine And.intro amM ?_
      |refine br rfl (λ_=>?_) (λ_=>?_)
      |refine And.intro ?_ ?_
     rename_i hx;refine bad.o ?_;simp only[akc,ajv,decide_eq_true_eq]at hx;rcases hx with((e|e)|⟨e,e'⟩)|e;exact hbad.o (.inl (h0.o.1 e));exact hbad.o (.inr (.inl (hq1.o.1 e)));exact hbad.o (.inr (.inr ⟨hfb.o.1 e,hq2.o.1 e'⟩));exact hend.o ⟨hlst2.o,h32.o.1 e⟩;rename_i hx;rw[<- alq]at hx;simp only[akc,ajv,decide_eq_true_eq]at hx;rw[show u8s b++[AV.int IntKind.u8 (c.toNat:Int)]=u8s (b++[c])by simp[u8s]];refine amR amM amP ⟨i+1,m+1,b++[c],decide (c=32),false,rfl,hlt,amM,hid ⟨by simp[hI.o.1],?_,λe=>?_,amN⟩,rfl,rfl⟩;refine hgo.o λe=>hx ?_
     rcases e with e|e|⟨e,e'⟩;exact .inl (.inl (.inl (h0.o.2 e)));exact .inl (.inl (.inr (hq1.o.2 e)));exact .inl (.inr ⟨hfb.o.2 e,hq2.o.2 e'⟩);have e32:=h32.o.2 (of_decide_eq_true e);exact absurd (.inr e32) hx
 have hke:i=s.length:=amM;subst hke;have g1:¬(s.length:Int)<(s.length:Int):=amM;have hbl:bl=false:=by
  cases bl with
  |false=>rfl
  |true=>exact absurd (hI.o.2.2.1 rfl).1 amM
 subst hbl;have h':=h.o;rw[<- hI.o.2.1,ake,adh]at h';simp only[ZL,aj9,alz]at h';replace h':=hid h';refine wk ?_;exact ab rfl h'.o
theorem adj:∀(n:Nat){s b:List UInt8}{bl:Bool}{v r:List UInt8}{ok:Bool},s.length<=n->gH b bl s=some (v,r,ok)->r <:+ s:=by
 intro n;induction n with
 | zero =>
   intro s b bl v r ok hn h;obtain rfl:=aj4.1 (Nat.le_zero.1 hn);rw[kI]at h;cases h;exact als _
 | succ n ih =>
   intro s b bl v r ok hn h;cases s with
   |nil=>rw[kI]at h;cases h;exact als _
   | cons c s =>
     simp only[ajz]at hn;by_cases hc:c=44\/c=43
     .rw[oM hc]at h;cases h;exact als _
     by_cases h92:c=92
     .subst h92;cases s with
      |nil=>rw[JX]at h;cases h
      | cons d s =>
        by_cases hd:d∈oR
        .rw[tJ hd]at h;exact(ih (by simp at hn;omega) h).trans ((alF _ _).trans (alF _ _))
        .cases s with
         |nil=>rw[JW hd]at h;cases h
         | cons e s =>
           rw[Fx hd]at h;split at h
           .cases h
           .exact(ih (by simp at hn;omega) h).trans ((alF _ _).trans ((alF _ _).trans (alF _ _)))
     .rw[j8 hc h92]at h;split at h
      .cases h
      .exact(ih amM h).trans (alF _ _)
theorem abF{v r:List UInt8}(h:j7 [] false s=some (v,r)):gH [] false s=some (v,r,true):=by unfold j7 at h;split at h;rename_i e;cases h;exact e;cases h
theorem WI(f:Nat)(out:List Rdn)(now:Rdn)(s:List UInt8):qA (f+1) out now s=if out.length=32\/now.length=8 then([],9)else match jr s with
  |none=>([],4)
  | some (typ,rest)=>if ix typ=false then ([],4) else if jB now typ=true then ([],21) else match j7 [] false rest with
    |none=>([],4)
    | some (v,r2)=>match r2 with
      |[]=>(out++[now++[(typ,v)]],0)
      |c::s'=>if c=44 then qA f (out++[now++[(typ,v)]]) [] s' else qA f out (now++[(typ,v)]) s':=by
 rw[qA];congr 1;rcases jr s with _|⟨typ,rest⟩;rfl;simp only;congr 1;congr 1;unfold j7;rcases gH [] false rest with _|⟨v,r2,ok⟩;rfl;cases ok<;>rfl
theorem acL{j:Nat}(hij:i<=j)(hj:j<s.length)(hc:s.getD j 0≠61)(h:jr (s.drop i)=(jr (s.drop j)).map λp=>((s.drop i).take (j-i)++p.1,p.2)):
  jr (s.drop i)=(jr (s.drop (j+1))).map λp=>((s.drop i).take (j+1-i)++p.1,p.2):=by
 rw[h,jY hj];simp only[jr,if_neg hc];have ht:(s.drop i).take (j+1-i)=(s.drop i).take (j-i)++[s.getD j 0]:=by rw[show j+1-i=(j-i)+1 by omega,ajN (by simp;omega)];congr 2;simp[show i+(j-i)=j by omega,hj]
 rw[ht];rcases jr (s.drop (j+1))with _|⟨a,b⟩;rfl;simp
theorem af4(hr:r.length=n)(hn:n<=8)(h1:∀a∈r,a.1.length<=32)(h2:typ.length<=4096)(h:K (.bool (jB r typ)) L):
  ajp 87 [.gsl (aL r) n i 2,.str typ] L K:=by
 subst hr;exact gZ (by simpa only[AV.frzL,AV.frz,fK]using adN (cap:=none) amM (λa ha=>by have:=h1 a ha;omega) amM h)
theorem abX{z:Int}{at0:Nat}(hz:z=(at0:Int))(hs:s.length<=100000)(hat:at0<=s.length)(h:K (ZL s.length (j7 [] false (s.drop at0))) L):ajp 219 [.str s,.int .i64 z] L K:=by subst hz;exact adH hs hat h
theorem Ur(h:K (Tf (da s)) L):ajp 188 [.str s] L K:=by
 refine aa RV (by simp[tB]) ?_;simp only[tB,am];by_cases h1:4096<s.length;have f1:(4096:Int)<(s.length:Int):=amM;rw[da,if_pos h1]at h;replace h:=hid h;clear h1;refine wk ?_;exact aJ (ac h.o);have f1:¬(4096:Int)<(s.length:Int):=amM;rw[da,if_neg h1]at h;have hs:=hid (show s.length<=4096 by omega);clear h1;obtain⟨R,hR⟩:=ajl ((if s=[]then([],0)else qA (s.length+1) [] [] s));rw[hR]at h;replace h:=hid h;replace hR:=hid hR;refine wk ?_;refine bK (l:=[]) (n:=0) 4 1 rfl (ajX 1).symm ?_;refine aq (λn T' L'=>∃(f m i:Nat) (out:List Rdn) (X:List Blk),f=n/\i<=s.length/\m<=32/\Hid (s≠[]->s.length-i<f/\qA f out [] (s.drop i)=R)/\Hid (s=[]->out=[])/\Hid (m=out.length)/\L'[L.length]?=some (.spare m 1)/\T'=[(5,.int .i64 (i:Int)),(4,.gsl (out.map ah) m L.length 1),(0,.str s)]/\L'=L++X) amQ ⟨s.length+1,0,0,[],[.spare 0 1],rfl,aju _,amM,hid (λe=>⟨amM,by have:=hR.o;rw[if_neg e]at this;simpa using this⟩),hid (λ_=>rfl),hid rfl,amN,rfl,rfl⟩ ?_;rintro _ _ _ ⟨f,m,i,out,X,rfl,hi,hm32,hI,hI0,hm,ho,rfl,rfl⟩;by_cases h0:s=[];have h':=h.o;rw[<- hR.o,if_pos h0]at h';replace h':=hid h';have f2:¬(0:Int)<(s.length:Int):=by rw[h0];simp
 clear h0;refine wk ?_;exact aJ (ab rfl h'.o);obtain⟨hf,hp⟩:=hI.o h0;have f2:(0:Int)<(s.length:Int):=by have:=akh.2 h0;omega
 clear hI hI0 hR h0;have hB:L.length<(L++X).length:=(ajr.1 ho).1;by_cases hlim:m=32;obtain⟨f,rfl⟩:∃g,f=g+1:=⟨f-1,amM⟩;rw[WI,if_pos (.inl (by rw[<- hm.o];exact hlim))]at hp;have h':=h.o;rw[<- hp]at h';replace h':=hid h';have k:(m:Int)=32:=amM;clear hp hlim hf;refine wk ?_;exact gS h'.o;have k1:¬(m:Int)=32:=amM;replace hp:=hid hp;refine wk ?_;refine aq (λn T' L'=>∃(g i:Nat) (now:Rdn) (v:AV) (Z:List Blk),g=n/\g<=f/\i<=s.length/\now.length<=8/\Hid (s.length-i<g/\qA g out now (s.drop i)=R/\(∀a∈now,a.1.length<=32)/\ah8 L.length now v L')/\L'[L.length]?=some (.spare m 1)/\X.length<=Z.length/\T'=[(6,v),(5,.int .i64 (i:Int)),(4,.gsl (out.map ah) m L.length 1),(0,.str s)]/\L'=L++Z) amQ ⟨f,i,[],_,X,rfl,ajs _,hi,amN,hid ⟨hf,hp.o,amN,.inl ⟨rfl,rfl,rfl⟩⟩,ho,ajs _,rfl,rfl⟩ ?_;clear hp hf ho hi;rintro _ _ _ ⟨g,i,now,v,X1,rfl,hgf,hi,hn8,hI,ho,hXZ,rfl,rfl⟩;obtain⟨hf,hp,ht,hv⟩:=hI.o;clear hI;obtain⟨g,rfl⟩:∃g',g=g'+1:=⟨g-1,amM⟩;have hB1:L.length<(L++X1).length:=(ajr.1 ho).1;refine Ya 6 2 L.length rfl hB1 hv λp Y hBi hpi=>?_
 rw[ajD]at hpi⊢;have ho2:(L++(X1++Y))[L.length]?=some (.spare m 1):=by rw[<- ajD,ajw hB1];exact ho
 have hXZ2:X.length<=(X1++Y).length:=by simp;omega
 generalize X1++Y=Z at hpi ho2 hXZ2⊢;clear ho hB1 hv hXZ X1 Y;replace hXZ2:=hid hXZ2;have hpl:=(ajr.1 hpi).1;have hol:=(ajr.1 ho2).1;have hz:p-L.length≠0:=amM;obtain⟨c,hc⟩:∃c:Nat,now.length=c:=⟨_,rfl⟩;rw[WI]at hp;rw[hc]at hp hpi hn8⊢;rw[ajA]at hpl hol;replace hz:=hid hz;replace hpl:=hid hpl;replace hol:=hid hol;by_cases hlim2:c=8;rw[if_pos (.inr hlim2)]at hp;have h':=h.o;rw[<- hp]at h';replace h':=hid h';have k:(c:Int)=8:=amM;clear hp hlim2;refine wk ?_;exact gS h'.o;rw[if_neg (by rw[<- hm.o];omega)]at hp;have k2:¬(c:Int)=8:=amM;replace hp:=hid hp;replace ht:=hid ht;replace hf:=hid hf;refine wk ?_;refine aq (λn T' L'=>∃j:Nat,n=s.length-j/\i<=j/\j<=s.length/\Hid (jr (s.drop i)=(jr (s.drop j)).map λp=>((s.drop i).take (j-i)++p.1,p.2))/\T'=[(7,.int .i64 (j:Int)),(6,.gsl (aL now) c p 2),(5,.int .i64 (i:Int)),(4,.gsl (out.map ah) m L.length 1),(0,.str s)]/\L'=L++Z) amQ ⟨i,rfl,ajs _,hi,hid (by rcases jr (s.drop i)with _|⟨a,b⟩<;>simp),rfl,rfl⟩ ?_;rintro _ _ _ ⟨j,rfl,hij,hj,hcut,rfl,rfl⟩;by_cases hjl:j<s.length;rotate_left;have hje:j=s.length:=amM;subst hje;have g1:¬(s.length:Int)<(s.length:Int):=amM;have e:=hcut.o;rw[ake]at e;simp only[jr,aj8]at e;have h':=h.o;rw[<- hp.o,e]at h';simp only at h';replace h':=hid h';clear e;refine wk ?_;exact gS h'.o;have g1:(j:Int)<(s.length:Int):=amM;have g2:=ajn j amM;obtain⟨x,hx⟩:=ajl (s.getD j 0);by_cases h61:x=61;rotate_left;have g3:¬(x.toNat:Int)=61:=λe=>h61 ((bv x 61).1 e)
 have hcut':=hid (acL hij hjl (by rw[hx];exact h61) hcut.o);clear h61;refine wk ?_;exact amR amM amP ⟨j+1,rfl,amM,hjl,hcut',rfl,rfl⟩;subst h61;have g3:((61:UInt8).toNat:Int)=61:=rfl;have hcutS:jr (s.drop i)=some ((s.drop i).take (j-i),s.drop (j+1)):=by rw[hcut.o,jY hjl,hx];simp[jr]
 clear hcut;obtain⟨typ,htyp⟩:=ajl ((s.drop i).take (j-i));have htl:typ.length<=4096:=by rw[<- htyp];have:=hs.o;simp;omega
 have htl3:(typ.length:Int)<=100000:=amM;rw[htyp]at hcutS;have hp2:=hp.o;rw[hcutS]at hp2;simp only at hp2;have g4:¬(j:Int)=(s.length:Int):=amM;have g5:(i:Int)<=(j:Int):=amM;have g6:(j:Int)<=(s.length:Int):=amM;replace hp2:=hid hp2;clear hcutS hp;cases hty:ix typ with
 | false =>
   have h':=h.o;rw[<- hp2.o,if_pos hty]at h';replace h':=hid h';have kk1:=@amT _ _ _ _ (aa6 htl3);refine wk ?_;exact gS h'.o
 |true =>
 have hp3:=hp2.o;rw[if_neg (by rw[hty];simp)]at hp3;replace hp3:=hid hp3;clear hp2;have hpn:=hid (show p≠L.length+Z.length by have:=hpl.o;omega);have b1:∀b,(L++(Z++[b]))[p]?=some (.spare c 2):=λb=>by rw[<- ajD,ajw (ajr.1 hpi).1];exact hpi
 have b2:∀A b,(L++(Z++[b])).set p A=L++(Z.set (p-L.length) A++[b]):=λA b=>by rw[ajZ _ _ amM,ak3 _ _ (by have:=hpl.o;omega)]
 have b3:∀A b,(L++(Z.set (p-L.length) A++[b]))[L.length]?=some (.spare m 1):=λA b=>by rw[<- b2,ajJ amM,<- ajD,ajw (ajr.1 ho2).1];exact ho2
 have b4:∀A b,(L++(Z.set (p-L.length) A++[b]))[p]?=some A:=λA b=>by rw[<- b2,aj1,if_pos rfl,if_pos (by have:=hpl.o;simp;omega)]
 have hsl:(i:Int).toNat=i:=amM;have kk1:=@amT _ _ _ _ (aa6 htl3);refine wk ?_;refine af4 hc hn8 ht.o amM ?_;cases hha:jB now typ with
 | true =>
   have h':=h.o;rw[<- hp3.o,if_pos hha]at h';replace h':=hid h';refine amU ?_;exact gS h'.o
 |false =>
 have hp4:=hp3.o;rw[if_neg (by rw[hha];simp)]at hp4;replace hp4:=hid hp4;clear hp3;refine amU ?_;refine abX (at0:=j+1) amM (by have:=hs.o;omega) hjl ?_;rcases hvl:j7 [] false (s.drop (j+1))with _|⟨w,r2⟩;have h':=h.o;rw[<- hp4.o,hvl]at h';simp only at h';replace h':=hid h';simp only[ZL];refine amU ?_;exact gS h'.o;have hp5:=hp4.o;rw[hvl]at hp5;simp only at hp5;have hsuf:=adj _ (ajs _) (abF hvl);have hsd:r2=s.drop (s.length-r2.length):=List.suffix_iff_eq_drop.1 (hsuf.trans (List.drop_suffix _ _));have hl2:r2.length<=s.length-(j+1):=by have:=hsuf.length_le;simpa using this
 obtain⟨t,ht0⟩:=ajl (s.length-r2.length);rw[ht0]at hsd;have htj:j<t:=amM;have hts:t<=s.length:=amM;simp only[ZL,ht0];replace hp5:=hid hp5;clear hp4 hvl hsuf;replace hsd:=hid hsd;have q1:(c+1)*32<=140737488355328:=amM;have q2:c+1<=140737488355328:=amM;have q3:(m+1)*24<=140737488355328:=amM;have q4:m+1<=140737488355328:=amM;have e1:aL now++[AV.str typ,AV.str w]=aL (now++[(typ,w)]):=(Xd _ _ _).symm;have e2:out.map ah++[AV.sl (AV.frzL (aL now++[AV.str typ,AV.str w])) (c+1) none]=(out++[now++[(typ,w)]]).map ah:=by rw[e1,fK,ajV];simp[hc]
 have e3:(out++[now++[(typ,w)]]).length=m+1:=by simp[hm.o]
 have e4:(now++[(typ,w)]).length=c+1:=by simp[hc]
 have e5:∀a∈now++[(typ,w)],a.1.length<=32:=λa ha=>by rcases ajx.1 ha with h|h;exact ht.o a h;rw[ajI.1 h];exact tL hty
 have s4:∀(W:List Blk) A,(L++W).set L.length A=L++W.set 0 A:=λW A=>by rw[ajZ _ _ (ajs _),ale]
 have g7:IntKind.i64.wrap ((t:Int)+1)=(t:Int)+1:=ae (by have:=hs.o;omega) (by have:=hs.o;omega);replace e1:=hid e1;replace e2:=hid e2;replace e3:=hid e3;replace e4:=hid e4;replace e5:=hid e5;cases r2 with
 | nil =>
   have h':=h.o;rw[<- hp5.o]at h';simp only at h';replace h':=hid h';have hte:t=s.length:=(by simp at ht0;omega);subst hte;refine amU ?_;rw[e2.o];refine aJ (ab ?_ ?_)
   .simp only[AV.frz,AV.frzL,aY,AV.refs,AV.refsL,dX,alo]
   .simp only[AV.frz,AV.frzL,aY];have:=h'.o;simp only[Tf,e3.o]at this;exact this
 | cons x s' =>
   simp only at hp5;have htl2:t<s.length:=(by simp at ht0 hl2;omega);have k3:¬(t:Int)=(s.length:Int):=amM;have k4:(t:Int)<(s.length:Int):=amM;have hxd:=hsd.o;rw[jY htl2]at hxd;obtain⟨hx1,hx2⟩:=List.cons.inj hxd;have hx3:=hx1.symm;replace hx2:=hid hx2;clear hxd hx1;by_cases hx:x=44
   .subst hx;refine amU ?_;rw[e2.o];refine amR ?_ (CutS (b:=?_)) ⟨g,m+1,t+1,out++[now++[(typ,w)]],_,rfl,htl2,?_,hid λ_=>⟨?_,?_⟩,hid λe=>?_,hid e3.o.symm,?_,rfl,rfl⟩
    .omega
    .simp
    .have:=hm.o;omega
    .have:=hf.o;omega
    .rw[<- hx2.o,<- hp5.o,if_pos rfl]
    .rw[e]at htl2;simp at htl2
    .rw[<- s4,aj1,if_pos rfl,if_pos amN]
   .have q6:¬(x.toNat:Int)=44:=λe=>hx ((bv x 44).1 e)
    refine amU ?_;rw[e1.o];refine amR ?_ (CutS (b:=?_)) ⟨g,t+1,now++[(typ,w)],_,_,rfl,?_,htl2,?_,hid ⟨?_,?_,e5.o,.inr ⟨p,hBi,by rw[e4.o],by rw[e4.o];exact b4 _ _⟩⟩,b3 _ _,?_,rfl,rfl⟩
    .omega
    .have:=hXZ2.o;simp;omega
    .omega
    .rw[e4.o];omega
    .have:=hf.o;omega
    .rw[<- hx2.o,<- hp5.o,if_neg hx]
    .have:=hXZ2.o;simp;omega
theorem RJ(sep x:List UInt8):∀xs:List (List UInt8),Lib.join (xs++[x]) sep=if xs=[]then x else Lib.join xs sep++sep++x
 |[]=>by simp[Lib.join,List.intercalate]
 |[y]=>by simp[Lib.join,List.intercalate]
 |y::z::l=>by have ih:=RJ sep x (z::l);rw[if_neg amN]at ih⊢;have e1:Lib.join (y::z::l++[x]) sep=y++(sep++Lib.join (z::l++[x]) sep):=(by simp[Lib.join,List.intercalate]);have e2:Lib.join (y::z::l) sep=y++(sep++Lib.join (z::l) sep):=(by simp[Lib.join,List.intercalate]);rw[e1,ih,e2];simp
theorem TW{d:List Rdn}{cap:Option Nat}(hn:d.length<=1000)(hr:∀r∈d,r.length<=1000/\∀a∈r,a.1.length<=10000/\a.2.length<=10000){L:List Blk}{K:ajq}(h:K (.str (aP false d)) L):
  ajp 88 [.sl (d.map ah) d.length cap] L K:=by
 replace h:=hid h;have hat:=hid (λk=>@kc d k);replace hr:=hid hr;refine ajo TC ?_;refine aq (λn T' L'=>∃(i:Nat) (acc:List UInt8) (Z:List Blk),n=d.length-i/\i<=d.length/\acc.length<=i*50000000/\Hid (acc=Lib.join ((d.take i).map (cP false)) [44])/\T'=[(10,.int .i64 (i:Int)),(9,.int .i64 d.length),(8,.sl (d.map ah) d.length cap),(3,.str acc)]/\L'=L++Z) amQ ⟨0,[],[],rfl,aju _,amN,hid (by simp[Lib.join]),rfl,amN⟩ ?_;rintro _ _ _ ⟨i,acc,X,rfl,hi,hal,hacc,rfl,rfl⟩;by_cases hlt:i<d.length
 .have g1:(i:Int)<(d.length:Int):=amM;have g2:=ajn i amM;have e2:=hat.o i hlt;have hrm:d.getD i []∈d:=(by rw[ajO,ajF hlt];exact aky _);have hrl:=hr.o _ hrm;obtain⟨r,hri⟩:=ajl (d.getD i []);have htk:d.take (i+1)=d.take i++[r]:=(by rw[ajN hlt,<- hri];simp[hlt]);rw[hri]at e2 hrl;clear hri hrm;obtain⟨hrl1,hrl2⟩:=hrl;replace hrl2:=hid hrl2;obtain⟨B,hB⟩:=ajl ((if 0<i then acc++[44]else acc));have hBl:B.length<=i*50000000+1:=by rw[<- hB];split;exact ajU (Nat.le_of_eq amN) (Nat.add_le_add_right hal 1);exact ajU hal (Nat.le_add_right _ _)
  have hfin:B++cP false r=Lib.join ((d.take (i+1)).map (cP false)) [44]:=by rw[htk,ajV,List.map_singleton,RJ,<- hacc.o,<- hB];by_cases h0:0<i;rw[if_pos h0,if_neg];intro e;rcases List.take_eq_nil_iff.1 (amB.1 e)with e|e;omega;rw[e]at hlt;simp at hlt;have:i=0:=amM;subst this;simp at hal;simp[hal]
  replace hfin:=hid hfin;replace hB:=hid hB;replace htk:=hid htk;have hb0:(i:Int)<=1000:=amM;have hab:((acc.length+1:Nat):Int)<=9223372036854775807:=amM
  iterate 12 first
   |refine cA ?_
   | (first|refine bG amO ?_|refine ba amO ?_|refine be ?_|refine dN ?_|refine cD (fun _=>?_)|refine aU ?_|refine bI ?_)
     simp(config:={maxSteps:=2000000}) only[Kon,push_cast,reduceIte,Nat.reduceEqDiff,Nat.reduceAdd,Nat.reduceMul,Nat.reduceSub,Nat.reduceLT,Nat.reduceLeDiff,Int.reduceLT,Int.reduceLE,Int.reduceAdd,Int.reduceSub,Int.reduceNeg,Int.reduceToNat,Int.reduceEq,reduceCtorEq, *]
   | (first|refine bC amO ?_|refine bz ?_|refine bd ?_|refine bH ?_|refine cI (aT ?_))
     simp only[push_cast,reduceIte,Nat.reduceEqDiff,Nat.reduceAdd,Nat.reduceMul,Nat.reduceSub,Nat.reduceLT,Nat.reduceLeDiff,Int.reduceLT,Int.reduceLE,Int.reduceAdd,Int.reduceSub,Int.reduceNeg,Int.reduceToNat,Int.reduceEq,reduceCtorEq, *]
   |exact cE
   |first|apply cF|apply bD|apply cG|apply bE|apply cH|apply bF
   |refine bh ?_
   |refine bc ?_
   |first|refine bf rfl ?_|refine bg rfl ?_|refine aI rfl ?_ ?_|refine bm rfl (λ_=>?_) (λ_=>?_)|refine bj rfl (λ_=>?_) (λ_=>?_)
   |((first|refine aG (λ_=>?_) (λ_=>?_)|refine aS (λ_=>?_) (λ_=>?_))<;>try simp(config:={maxSteps:=2000000}) only[Kon,push_cast,reduceIte,Nat.reduceEqDiff,Nat.reduceAdd,Nat.reduceMul,Nat.reduceSub,Nat.reduceLT,Nat.reduceLeDiff,Int.reduceLT,Int.reduceLE,Int.reduceAdd,Int.reduceSub,Int.reduceNeg,Int.reduceToNat,Int.reduceEq,reduceCtorEq, *])
   |refine And.intro trivial ?_
   |refine And.intro amM ?_
   |refine br rfl (λ_=>?_) (λ_=>?_)
   |refine And.intro ?_ ?_
  refine Ud (λT2 L2=>T2=[(3,.str B),(5,ah r),(10,.int .i64 (i:Int)),(9,.int .i64 d.length),(8,.sl (d.map ah) d.length cap)]/\L2=L++X) ?_ ?_;by_cases h0:0<i;have k0:(0:Int)<(i:Int):=amM;have hB':=hB.o;rw[if_pos h0]at hB';subst hB';clear h0;refine wk ?_;exact tH _ _ amP ⟨rfl,rfl⟩;have k0:¬(0:Int)<(i:Int):=amM;have hB':=hB.o;rw[if_neg h0]at hB';subst hB';clear h0;refine wk ?_;exact tH _ _ amP ⟨rfl,rfl⟩;rintro _ _ ⟨rfl,rfl⟩ -;refine wk ?_;refine aq (λn T' L'=>∃(k:Nat) (acc2:List UInt8) (Z:List Blk),n=r.length-k/\k<=r.length/\acc2.length<=i*50000000+1+k*40002/\X.length<=Z.length/\Hid (acc2=B++Lib.join ((r.take k).map (avT false)) [43])/\T'=[(21,.int .i64 (k:Int)),(20,.int .i64 r.length),(19,ah r),(10,.int .i64 (i:Int)),(9,.int .i64 d.length),(8,.sl (d.map ah) d.length cap),(3,.str acc2)]/\L'=L++Z) amQ ⟨0,B,X,rfl,aju _,amM,ajs _,hid (by simp[Lib.join]),rfl,rfl⟩ ?_;rintro _ _ _ ⟨k,acc2,Z,rfl,hk,hal2,hXZ,hacc2,rfl,rfl⟩;replace hXZ:=hid hXZ;by_cases hkl:k<r.length
  .have g3:(k:Int)<(r.length:Int):=amM;have g4:=ajn k amM;have e3:=fL hkl;have e4:k*2+2<=(aL r).length:=(by rw[cJ];omega);obtain⟨⟨ty,va⟩,ha⟩:∃a,r.getD k ([],[])=a:=⟨_,rfl⟩;have ham:(ty,va)∈r:=(by rw[<- ha];simp[hkl]);have htk2:r.take (k+1)=r.take k++[(ty,va)]:=(by rw[ajN hkl,<- ha];simp[hkl]);rw[ha]at e3;simp only[mu]at e3;have hva:=hrl2.o _ ham;simp only at hva;have hva':va.length<=100000:=amM;have hwl:=OL va.length va 0;obtain⟨wv,hwv⟩:=ajl (fN va);have hwl2:wv.length<=30000:=(by rw[<- hwv];unfold fN;omega);have hty:=hva.1;obtain⟨B2,hB2⟩:=ajl ((if 0<k then acc2++[43]else acc2));have hB2l:B2.length<=i*50000000+1+k*40002+1:=by rw[<- hB2];split;exact ajU (Nat.le_of_eq amN) (Nat.add_le_add_right hal2 1);exact ajU hal2 (Nat.le_add_right _ _)
   have hnew:B2++ty++[61]++wv=B++Lib.join ((r.take (k+1)).map (avT false)) [43]:=by rw[htk2,ajV,List.map_singleton,RJ,<- hB2];have e0:avT false (ty,va)=ty++[61]++wv:=(by simp[avT,hwv]);by_cases h0:0<k;rw[if_pos h0,if_neg,hacc2.o,e0];simp;intro e;rcases List.take_eq_nil_iff.1 (amB.1 e)with e|e;omega;rw[e]at hkl;simp at hkl;have:k=0:=amM;subst this;have:=hacc2.o;simp only[akW,akA]at this;rw[if_neg amM,this,e0];simp[Lib.join]
   replace hnew:=hid hnew;have hBn:(B2++ty++[61]++wv).length=B2.length+ty.length+1+wv.length:=(by simp only[ajA,ajz,aj9]);have hBn2:(B2++ty++[61]++wv).length<=i*50000000+1+(k+1)*40002:=(by rw[hBn];omega);replace hB2:=hid hB2;clear hwl ha ham hva htk2;have hkb:k<1000:=amM;have b0:((acc2.length+1:Nat):Int)<=9223372036854775807:=amM;have b1:((B2.length+ty.length:Nat):Int)<=9223372036854775807:=amM;have b2:((B2.length+ty.length+1:Nat):Int)<=9223372036854775807:=amM;have b3:((B2.length+ty.length+1+wv.length:Nat):Int)<=9223372036854775807:=amM;simp only[Int.natCast_add,Int.cast_ofNat_Int]at b0 b1 b2 b3
   iterate 12 first
    |refine cA ?_
    | (first|refine bG amO ?_|refine ba amO ?_|refine be ?_|refine dN ?_|refine cD (fun _=>?_)|refine aU ?_|refine bI ?_)
      simp(config:={maxSteps:=2000000}) only[Kon,push_cast,reduceIte,Nat.reduceEqDiff,Nat.reduceAdd,Nat.reduceMul,Nat.reduceSub,Nat.reduceLT,Nat.reduceLeDiff,Int.reduceLT,Int.reduceLE,Int.reduceAdd,Int.reduceSub,Int.reduceNeg,Int.reduceToNat,Int.reduceEq,reduceCtorEq, *]
    | (first|refine bC amO ?_|refine bz ?_|refine bd ?_|refine bH ?_|refine cI (aT ?_))
      simp only[push_cast,reduceIte,Nat.reduceEqDiff,Nat.reduceAdd,Nat.reduceMul,Nat.reduceSub,Nat.reduceLT,Nat.reduceLeDiff,Int.reduceLT,Int.reduceLE,Int.reduceAdd,Int.reduceSub,Int.reduceNeg,Int.reduceToNat,Int.reduceEq,reduceCtorEq, *]
    |exact cE
    |first|apply cF|apply bD|apply cG|apply bE|apply cH|apply bF
    |refine bh ?_
    |refine bc ?_
    |first|refine bf rfl ?_|refine bg rfl ?_|refine aI rfl ?_ ?_|refine bm rfl (λ_=>?_) (λ_=>?_)|refine bj rfl (λ_=>?_) (λ_=>?_)
    |((first|refine aG (λ_=>?_) (λ_=>?_)|refine aS (λ_=>?_) (λ_=>?_))<;>try simp(config:={maxSteps:=2000000}) only[Kon,push_cast,reduceIte,Nat.reduceEqDiff,Nat.reduceAdd,Nat.reduceMul,Nat.reduceSub,Nat.reduceLT,Nat.reduceLeDiff,Int.reduceLT,Int.reduceLE,Int.reduceAdd,Int.reduceSub,Int.reduceNeg,Int.reduceToNat,Int.reduceEq,reduceCtorEq, *])
    |refine And.intro trivial ?_
    |refine And.intro amM ?_
    |refine br rfl (λ_=>?_) (λ_=>?_)
    |refine And.intro ?_ ?_
   refine Ud (λT2 L2=>T2=[(3,.str B2),(7,.ptr (L.length+Z.length) 0),(21,.int .i64 (k:Int)),(20,.int .i64 r.length),(19,ah r),(10,.int .i64 (i:Int)),(9,.int .i64 d.length),(8,.sl (d.map ah) d.length cap)]/\L2=L++(Z++[.cells [.str ty,.str va]])) ?_ ?_;by_cases h0:0<k;have k0:(0:Int)<(k:Int):=amM;have hB':=hB2.o;rw[if_pos h0]at hB';subst hB';clear h0;refine wk ?_;exact tH _ _ amP ⟨rfl,rfl⟩;have k0:¬(0:Int)<(k:Int):=amM;have hB':=hB2.o;rw[if_neg h0]at hB';subst hB';clear h0;refine wk ?_;exact tH _ _ amP ⟨rfl,rfl⟩;rintro _ _ ⟨rfl,rfl⟩ -;have kk1:=@amT _ _ _ _ (j9 hva');refine wk ?_;exact amR amM (CutL (b:=by have:=hXZ.o;simp;omega)) ⟨k+1,B2++ty++[61]++wv,_,rfl,hkl,hBn2,by have:=hXZ.o;simp;omega,hnew,rfl,rfl⟩
  have hke:k=r.length:=amM;subst hke;have g3:¬(r.length:Int)<(r.length:Int):=amM;have hfl:acc2.length<=(i+1)*50000000:=by rw[alJ];clear hal hBl hab;generalize i*50000000=M at hal2⊢;omega
  have e:=hacc2.o;rw[ajL,show Lib.join (r.map (avT false)) [43]=cP false r by simp[cP],hfin.o]at e;replace e:=hid e;refine wk ?_;exact amR amM amP ⟨i+1,acc2,_,rfl,hlt,hfl,e,rfl,rfl⟩
 have hke:i=d.length:=amM;subst hke;have g1:¬(d.length:Int)<(d.length:Int):=amM;have e:=hacc.o;rw[ajL]at e;have h':=h.o;simp only[aP]at h';rw[<- e]at h';replace h':=hid h';clear hacc e;refine wk ?_;exact ab rfl h'.o
def OX(r:Rdn):Nat:=(r.map λa=>min a.2.length 5000).sum
def Te(d:List Rdn):Nat:=(d.map OX).sum
theorem ac9(n:Nat):∀(s:List UInt8) (i:Nat),s.length<=(wrL n i s).length
 |[],_=>amN
 | c::s,i=>by
   have h1:=ac9 n s (i+1);have h2:1<=(wrB i n c).length:=by
    unfold wrB;split
    .simp
    .split<;>simp
   simp only[wrL,ajA,ajz];omega
theorem XF(sep:List UInt8):∀xs:List (List UInt8),(xs.map List.length).sum<=(Lib.join xs sep).length
 |[]=>by simp[Lib.join]
 |[x]=>by simp[Lib.join,List.intercalate]
 |x::y::l=>by have h1:=XF sep (y::l);have e:Lib.join (x::y::l) sep=x++(sep++Lib.join (y::l) sep):=(by simp[Lib.join,List.intercalate]);rw[e];simp only[ajP,akG,ajA]at h1⊢;omega
theorem afX(r:Rdn):OX r<=(cP false r).length:=by
 have h1:OX r<=((r.map (avT false)).map List.length).sum:=by
  induction r with
  |nil=>simp[OX]
  | cons a r ih =>
    have h2:=ac9 a.2.length a.2 0;have h3:min a.2.length 5000<=(avT false a).length:=by simp only[avT,ajK,if_false,ajA,fN];omega
    simp only[OX,ajP,akG]at ih⊢;omega
 have h2:=XF [43] (r.map (avT false));simp only[cP,ajK,if_false];omega
theorem afC(d:List Rdn):Te d<=(aP false d).length:=by
 have h1:Te d<=((d.map (cP false)).map List.length).sum:=by
  induction d with
  |nil=>simp[Te]
  | cons a r ih =>
    have h2:=afX a;simp only[Te,ajP,akG]at ih⊢;omega
 have h2:=XF [44] (d.map (cP false));simp only[aP];omega
theorem Xz:∀{l:List Nat}{x:Nat},x∈l->x<=l.sum
 |[],_,h=>by cases h
 | y::l,x,h=>by
   rw[akG];rcases ajM.1 h with rfl|h
   .omega
   .have:=Xz h;omega
theorem adD(h:Te d<=4096):∀r∈d,∀a∈r,a.2.length<=4096:=λr hr a ha=>by
 have h1:OX r<=Te d:=by unfold Te;exact Xz (alT hr)
 have h2:min a.2.length 5000<=OX r:=by unfold OX;exact Xz (alT (f:=λa:Ava=>min a.2.length 5000) ha)
 omega
theorem aef(h:∀r∈d,∀a∈r,a.2.length<=4096):xr d=false:=by unfold xr Jp;rw[alr];intro r hr;simp only[alq,alr,decide_eq_true_eq];intro a ha;have:=h r hr a ha;omega
theorem af3(hr:r.length=n)(hn:n<=8)(h1:∀a∈r,a.1.length<=32)(h2:typ.length<=32)(h:K (.bool (jB r typ)) L):
  ajp 87 [.sl (aL r) n cap,.str typ] L K:=by
 subst hr;exact adN amM (λa ha=>by have:=h1 a ha;omega) amM h
theorem gO(hn:d.length<=1100000)(hr:∀r∈d,r.length<=1100000/\∀a∈r,(a.1.length:Int)<=140737488351232)(h:K (iQ (prS d)) L):ajp 37 [.sl (d.map ah) d.length cap] L K:=by
 obtain⟨R,hR⟩:=ajl (prS d);rw[hR]at h;replace h:=hid h;have hat:=hid (λk=>@kc d k);replace hr:=hid hr;have hbad:il 0 d≠0->R=([],il 0 d):=λe=>by rw[<- hR,prS,if_pos e]
 replace hbad:=hid hbad;replace hR:=hid hR;refine ajo RU ?_;refine aq (λn T' L'=>∃(i:Nat) (c:Int) (X:List Blk),n=d.length-i/\i<=d.length/\i<=32/\Hid (c=(Te (d.take i):Nat)/\c<=40000*i)/\Hid (il i (d.drop i)=il 0 d)/\T'=[(11,.int .i64 (i:Int)),(10,.int .i64 d.length),(9,.sl (d.map ah) d.length cap),(4,.int .i64 c),(0,.sl (d.map ah) d.length cap)]/\L'=L++X) amQ ⟨0,0,[],rfl,aju _,amM,hid ⟨rfl,amM⟩,hid rfl,rfl,amN⟩ ?_;rintro _ _ _ ⟨i,c,X,rfl,hi,hi32,hc,he,rfl,rfl⟩;by_cases hlt:i<d.length
 .have g1:(i:Int)<(d.length:Int):=amM;have g2:=ajn i amM;have e2:=hat.o i hlt;have hrm:d.getD i []∈d:=(by rw[ajO,ajF hlt];exact aky _);obtain⟨hrl,hrt⟩:=hr.o (d.getD i []) hrm;obtain⟨r,hri⟩:=ajl (d.getD i []);have hdr:d.drop i=r::d.drop (i+1):=(by rw[ajY hlt,<- hri];simp[hlt]);have hdt:d.take (i+1)=d.take i++[r]:=(by rw[ajN hlt,<- hri];simp[hlt]);rw[hri]at e2 hrl hrt;have he2:=he.o;rw[hdr,il]at he2;clear hdr hri hrm;replace hrt:=hid hrt;replace hdt:=hid hdt;by_cases h32:i=32;rw[if_pos h32]at he2;have h':=h.o;rw[hbad.o (by rw[<- he2];decide),<- he2]at h';replace h':=hid h';have k1:(i:Int)=32:=amM;have g1':(32:Int)<(d.length:Int):=amM;clear h32 he2;refine wk ?_;exact ab rfl h'.o;rw[if_neg h32]at he2;have k1:¬(i:Int)=32:=amM;by_cases hr0:r=[];rw[if_pos hr0]at he2;subst hr0;have h':=h.o;rw[hbad.o (by rw[<- he2];decide),<- he2]at h';replace h':=hid h';clear h32 he2;refine wk ?_;exact ab rfl h'.o;rw[if_neg hr0]at he2;have k2:¬(r.length:Int)=0:=(by have:=akh.2 hr0;omega);have herr:∀e:Int,du [] r=e->e≠0->K (.tup [.str [],.int .i64 e]) L:=λe a1 a2=>by rw[if_pos (by rw[a1];exact a2),a1]at he2;have h':=h.o;rwa[hbad.o (by rw[<- he2];exact a2),<- he2]at h'
  replace herr:=hid herr;replace he2:=hid he2;clear h32;refine wk ?_;refine aq (λn T' L'=>∃(k:Nat) (c':Int) (Y:List Blk),n=r.length-k/\k<=r.length/\k<=8/\Hid (c'=c+(OX (r.take k):Nat)/\0<=c'/\c'<=40000*i+5000*k)/\Hid (du (r.take k) (r.drop k)=du [] r/\∀a∈r.take k,a.1.length<=32)/\T'=[(23,.int .i64 (k:Int)),(22,.int .i64 r.length),(21,ah r),(6,ah r),(11,.int .i64 (i:Int)),(10,.int .i64 d.length),(9,.sl (d.map ah) d.length cap),(4,.int .i64 c'),(0,.sl (d.map ah) d.length cap)]/\L'=L++(X++Y)) amQ ⟨0,c,[],rfl,aju _,amM,hid ⟨by simp[OX],by have:=hc.o;omega,by have:=hc.o;omega⟩,hid ⟨rfl,amN⟩,rfl,amN⟩ ?_;rintro _ _ _ ⟨k,c',Y,rfl,hk,hk8,hc',hrow,rfl,rfl⟩;by_cases hkl:k<r.length
  .have g3:(k:Int)<(r.length:Int):=amM;have g4:=ajn k amM;have e3:=fL hkl;have e4:k*2+2<=(aL r).length:=(by rw[cJ];omega);obtain⟨⟨ty,va⟩,ha⟩:∃a,r.getD k ([],[])=a:=⟨_,rfl⟩;have ham:(ty,va)∈r:=(by rw[<- ha];simp[hkl]);have hdk:r.drop k=(ty,va)::r.drop (k+1):=(by rw[ajY hkl,<- ha];simp[hkl]);have htk:r.take (k+1)=r.take k++[(ty,va)]:=(by rw[ajN hkl,<- ha];simp[hkl]);rw[ha]at e3;simp only[mu]at e3;have hty1:=hrt.o _ ham;simp only at hty1;obtain⟨hr1,hr2⟩:=hrow.o;rw[hdk,du]at hr1;have hlk:(r.take k).length=k:=(by simp;omega);rw[hlk]at hr1;clear hdk ha hrow ham;have e5:(aL r).take (k*2)=aL (r.take k):=R3;have g5:(k:Int)<=(r.length:Int):=amM;replace hr1:=hid hr1;replace hr2:=hid hr2;replace htk:=hid htk;have e6:=hid hlk;clear hlk
   repeat' first
    |refine cA ?_
    | (first|refine bG amO ?_|refine ba amO ?_|refine be ?_|refine dN ?_|refine cD (fun _=>?_)|refine aU ?_|refine bI ?_)
      refine sm ?_
    | (first|refine bC amO ?_|refine bz ?_|refine bd ?_|refine bH ?_|refine cI (aT ?_))
      refine sl ?_
    |exact cE
    |first|apply cF|apply bD|apply cG|apply bE|apply cH|apply bF
    |refine bh ?_
    |refine bc ?_
    |first|refine bf rfl ?_|refine bg rfl ?_|refine aI rfl ?_ ?_|refine bm rfl (λ_=>?_) (λ_=>?_)|refine bj rfl (λ_=>?_) (λ_=>?_)
    |((first|refine aG (λ_=>?_) (λ_=>?_)|refine aS (λ_=>?_) (λ_=>?_))<;>try refine sm ?_)
    |refine And.intro trivial ?_
    |refine And.intro amM ?_
    |refine br rfl (λ_=>?_) (λ_=>?_)
    |refine And.intro ?_ ?_
   rename_i h8;have h':=hid (herr.o 9 (by rw[<- hr1.o,if_pos amM]) (by decide));exact ab rfl h'.o;rename_i h8;have hr3:=hr1.o;rw[if_neg amM]at hr3;replace hr3:=hid hr3;refine Ys hty1 ?_;cases hty:ix ty with
   | false =>
     have h':=hid (herr.o 20 (by rw[<- hr3.o,if_pos hty]) (by decide));clear hr3;refine amU ?_;exact ab rfl h'.o
   | true =>
     have hr4:=hr3.o;rw[if_neg (by rw[hty];simp)]at hr4;replace hr4:=hid hr4;have htl:=tL hty;clear hr3;refine amU ?_;refine bi (af3 e6.o amM hr2.o htl ⟨rfl,rfl⟩) ?_;cases hha:jB (r.take k) ty with
     | true =>
       have h':=hid (herr.o 21 (by rw[<- hr4.o,if_pos hha]) (by decide));refine amU ?_;exact ab rfl h'.o
     | false =>
       have hr5:=hr4.o;rw[if_neg (by rw[hha];simp),<- htk.o]at hr5;replace hr5:=hid hr5;clear hr4;obtain⟨z,hz⟩:∃z:Int,(if(5000:Int)<(va.length:Int)then 5000 else(va.length:Int))=z:=⟨_,rfl⟩;have hz2:z=((min va.length 5000:Nat):Int):=(by rw[<- hz];split<;>omega);have hzw:IntKind.i64.wrap (c'+z)=c'+z:=by have:=hc'.o;exact ae amM amM
       replace hz2:=hid hz2;refine amU ?_;refine amR amM amP ⟨k+1,c'+z,Y++[.cells [.str ty,.str va]],rfl,hkl,amM,hid ?_,hid ⟨hr5.o,λa ha=>?_⟩,rfl,amN⟩
       .have:=hc'.o;have e:OX (r.take (k+1))=OX (r.take k)+min va.length 5000:=(by rw[htk.o];simp[OX]);have:=hz2.o;omega
       rw[htk.o]at ha;rcases ajx.1 ha with h|h
       .exact hr2.o a h
       .rw[ajI.1 h];exact htl
  have hke:k=r.length:=amM;subst hke;have g3:¬(r.length:Int)<(r.length:Int):=amM;have hz:=hrow.o.1;rw[ake,du]at hz;have he3:=he2.o;rw[<- hz]at he3;simp only[ne_eq,not_true_eq_false,if_false]at he3;replace he3:=hid he3;have hcn:=hc'.o;rw[ajL]at hcn;replace hcn:=hid hcn;clear hz;refine wk ?_;refine amR amM amQ ⟨i+1,c',X++Y,rfl,hlt,amM,hid ?_,hid he3.o,rfl,rfl⟩;have e:Te (d.take (i+1))=Te (d.take i)+OX r:=(by rw[hdt.o];simp[Te]);have:=hcn.o;have:=hc.o;omega
 have hke:i=d.length:=amM;subst hke;have g1:¬(d.length:Int)<(d.length:Int):=amM;have hch:=he.o;rw[ake,il]at hch;have hcc:=hc.o.1;rw[ajL]at hcc;have hR':=hR.o;rw[prS,if_neg (by rw[<- hch];simp)]at hR';have hge:=afC d;by_cases hbig:4096<Te d;have k1:(4096:Int)<c:=amM;have h':=h.o;rw[<- hR']at h';have e:(if xr d=true then(([]:List UInt8),(5:Int))else if 4096<(aP false d).length then([],5)else(aP false d,0))=([],5):=by split;rfl;rw[if_pos amM]
 rw[e]at h';replace h':=hid h';clear hbig hge hcc e hR' hch;refine wk ?_;exact ab rfl h'.o;have k1:¬(4096:Int)<c:=amM;have hlo:=adD (d:=d) amM;obtain⟨hd32,hd8⟩:=Ua d 0 hch.symm amM;rw[aef hlo,if_neg amN]at hR';replace hlo:=hid hlo;replace hd8:=hid hd8;have hbn:=hid (show ∀r∈d,r.length<=1000/\∀a∈r,a.1.length<=10000/\a.2.length<=10000 from λr hr=>⟨by have:=(hd8.o r hr).1;omega,λa ha=>⟨by have:=(hd8.o r hr).2 a ha;omega,by have:=hlo.o r hr a ha;omega⟩⟩);by_cases hlg:4096<(aP false d).length;have k2:(4096:Int)<((aP false d).length:Int):=amM;have h':=h.o;rw[<- hR',if_pos hlg]at h';replace h':=hid h';clear hbig hge hcc hR' hch hlg;have kk1:=@amT _ _ _ _ (TW (cap:=cap) amM hbn.o);refine wk ?_;exact ab rfl h'.o;have k2:¬(4096:Int)<((aP false d).length:Int):=amM;have h':=h.o;rw[<- hR',if_neg hlg]at h';replace h':=hid h';clear hbig hge hcc hR' hch hlg;have kk1:=@amT _ _ _ _ (TW (cap:=cap) amM hbn.o);refine wk ?_;exact ab rfl h'.o
def td(a:Ava):Ava:=(ag a.1,bT a.2)
abbrev xu(a:Ava):List UInt8:=avT false a
def xQ(l:Rdn)(x:Ava):Nat->Nat
 |0=>0
 |n+1=>if xu x<xu (l.getD n ([],[]))then xQ l x n else n+1
def Jq(l:Rdn)(x:Ava):Rdn:=l.take (xQ l x l.length)++[x]++l.drop (xQ l x l.length)
def gz(r:Rdn):Rdn:=r.foldl (λl a=>Jq l (td a)) []
def fU(d:List Rdn):List Rdn:=d.map gz
theorem Xq(l:Rdn)(x:Ava):∀n,xQ l x n<=n
 |0=>ajs _
 |n+1=>by have:=Xq l x n;unfold xQ;split<;>omega
theorem Y0(l:Rdn)(x:Ava):(Jq l x).length=l.length+1:=by have:=Xq l x l.length;simp[Jq];omega
theorem YF(h:k<r.length):gz (r.take (k+1))=Jq (gz (r.take k)) (td (r.getD k ([],[]))):=by unfold gz;rw[ajN h,alS];simp[h]
theorem U7(r:Rdn):∀l:Rdn,(r.foldl (λl a=>Jq l (td a)) l).length=l.length+r.length:=by
 induction r with
 |nil=>simp
 |cons a r ih=>intro l;rw[akm,ih,Y0];simp;omega
theorem pZ(r:Rdn):(gz r).length=r.length:=by simp[gz,U7]
theorem acQ  :(aL r).drop (k*2)=aL (r.drop k):=by
 induction r generalizing k with
 |nil=>simp[aL]
 | cons a r ih =>
   cases k with
   |zero=>simp[aL]
   | succ k =>
     have:=@ih k;simp only[aL]at this;rw[show(k+1)*2=k*2+1+1 by omega];simp[aL,mu,this]
theorem Xc(r q:Rdn):aL (r++q)=aL r++aL q:=by simp[aL]
theorem abc(l:Rdn)(x:Ava):∀(n j:Nat),xQ l x n<=j->j<n->xu x<xu (l.getD j ([],[]))
 |0,_,_,h=>amM
 | n+1,j,h1,h2=>by
   unfold xQ at h1;split at h1
   .rename_i hk;rcases ajT j n with e|e
    .exact abc l x n j h1 e
    .have:j=n:=amM;subst this;exact hk
   .omega
theorem abd(l:Rdn)(x:Ava):∀n,xQ l x n=0\/¬xu x<xu (l.getD (xQ l x n-1) ([],[]))
 |0=>.inl rfl
 | n+1=>by
   unfold xQ;split
   .exact abd l x n
   .rename_i hk;exact .inr (by simpa using hk)
def Xe(l:Rdn):Prop:=l.Pairwise λa b=>xu a<=xu b
theorem aah{l:Rdn}{x:Ava}(hs:Xe l):Xe (Jq l x):=by
 have hge:=abc l x l.length;have hat:=abd l x l.length;have hle:=Xq l x l.length;unfold Jq;obtain⟨p,hp⟩:=ajl (xQ l x l.length);rw[hp]at hge hat hle⊢;have hs2:Xe (l.take p++l.drop p):=by rw[ak1];exact hs
 obtain⟨h1,h2,h3⟩:=amC.1 hs2;have ha:∀a∈l.take p,xu a<=xu x:=λa ha=>by
  rcases hat with e|e;subst e;simp at ha;have hp1:p-1<l.length:=by rcases akM p with z|z;subst z;simp at ha;omega
  refine List.le_trans ?_ (akR.1 e);obtain⟨i,hi,rfl⟩:=akk.1 ha;simp only[akH]at hi;rw[al8];have hg:l.getD (p-1) ([],[])=l[p-1]:=(by simp[hp1]);rw[hg];rcases ajT i (p-1)with q|q;exact(akB.1 hs) i (p-1) amM hp1 q;have:i=p-1:=amM;subst this;exact akR.1 (akI _)
 have hb:∀b∈l.drop p,xu x<=xu b:=λb hb=>by obtain⟨i,hi,rfl⟩:=akk.1 hb;simp only[akQ]at hi;rw[amp];have:=hge (p+i) amM amM;have hg:l.getD (p+i) ([],[])=l[p+i]:=(by simp[show p+i<l.length by omega]);rw[hg]at this;exact List.le_of_lt this
 unfold Xe;rw[ajD,amC];refine⟨h1,?_,?_⟩;simp only[al2,alj];exact⟨hb,h2⟩;intro a haa b hbb;simp only[al2,ajM]at hbb;rcases hbb with rfl|hbb;exact ha a haa;exact h3 a haa b hbb
theorem YZ(l:Rdn)(x:Ava):(Jq l x).Perm (x::l):=by unfold Jq;rw[ajD];refine(List.perm_middle (l₁:=l.take _) (l₂:=l.drop _)).trans ?_;rw[ak1]
theorem Q7:∀(r l:Rdn),Xe l->Xe (r.foldl (λl a=>Jq l (td a)) l)/\(r.foldl (λl a=>Jq l (td a)) l).Perm (l++r.map td)
 |[],l,h=>by simpa using h
 |a::r,l,h=>by obtain⟨h1,h2⟩:=Q7 r (Jq l (td a)) (aah h);refine⟨h1,h2.trans ?_⟩;refine((YZ l (td a)).append_right _).trans ?_;simp only[ajP];exact(List.perm_middle (l₁:=l)).symm
theorem abt(a:Ava):avT true a=xu (td a):=by simp[avT,td]
theorem ZY(r:Rdn):(gz r).map xu=dY (r.map (avT true)):=by
 obtain⟨h1,h2⟩:=Q7 r [] List.Pairwise.nil;refine amD (le:=λx y=>x<=y) (λa b _ _=>amq) ?_ ?_ ?_;rw[amr];exact h1;have:=ams (le:=λx y:List UInt8=>decide (x<=y)) (λa b c h1 h2=>by
  simp only[decide_eq_true_eq]at *;exact List.le_trans h1 h2) (λa b=>by
  simp only[akc,decide_eq_true_eq];exact List.le_total a b) (r.map (avT true))
 exact this.imp λh=>by simpa using h
 refine(h2.map xu).trans ?_;unfold dY;refine List.Perm.trans ?_ (ali _ _).symm;rw[aj0,ajS];rw[show(xu∘td)=avT true from funext λa=>(abt a).symm]
theorem aca(r:Rdn):cP false (gz r)=cP true r:=by have:=ZY r;simp only[cP,ajK,if_false,if_true];rw[<- this]
theorem xR(d:List Rdn):aP false (fU d)=aP true d:=by unfold aP fU;rw[ajS];rw[show(cP false∘gz)=cP true from funext aca]
theorem agn{p:Ava->Prop}{l:Rdn}{x:Ava}(h:∀a∈l,p a)(hx:p x):∀a∈Jq l x,p a:=λa ha=>by rcases ajM.1 ((YZ l x).mem_iff.1 ha)with rfl|h1;exact hx;exact h a h1
theorem VQ:∀r:Rdn,(aL r).all AV.one=true
 |[]=>rfl
 |a::r=>by have:=VQ r;simp only[aL]at this;simp[aL,mu,AV.one,this]
theorem abL{xs:List AV}{a b:AV}(h:(xs.drop i).take 2=[a,b]):xs.getD i .undef=a/\xs.getD (i+1) .undef=b:=by have h0:=congrArg (·[0]?) h;have h1:=congrArg (·[1]?) h;simp[List.getElem?_take,aki]at h0 h1;simp[ajO,h0,h1]
theorem Yt{d:List Rdn}{cap:Option Nat}(hn:d.length<=1000)(hr:∀r∈d,r.length<=1000/\∀a∈r,a.1.length<=10000/\a.2.length<=10000){L:List Blk}{K:ajq}(h:K (.sl ((fU d).map ah) d.length none) L):
  ajp 90 [.sl (d.map ah) d.length cap] L K:=by
 replace h:=hid h;have hat:=hid (λk=>@kc d k);replace hr:=hid hr;refine ajo RT ?_;refine bK (l:=[]) (n:=0) 3 1 rfl (ajX 1).symm ?_;refine aq (λn T' L'=>∃(i:Nat) (out:List Rdn) (Z:List Blk),n=d.length-i/\i<=d.length/\Hid (out=(d.take i).map gz)/\L'[L.length]?=some (.spare i 1)/\T'=[(14,.int .i64 (i:Int)),(13,.int .i64 d.length),(12,.sl (d.map ah) d.length cap),(3,.gsl (out.map ah) i L.length 1)]/\L'=L++Z) amQ ⟨0,[],[.spare 0 1],rfl,aju _,hid rfl,amN,rfl,rfl⟩ ?_;rintro _ _ _ ⟨i,out,X,rfl,hi,hout,ho,rfl,rfl⟩;by_cases hlt:i<d.length
 .have g1:(i:Int)<(d.length:Int):=amM;have g2:=ajn i amM;have e2:=hat.o i hlt;have hrm:d.getD i []∈d:=(by rw[ajO,ajF hlt];exact aky _);have hrl:=hr.o _ hrm;obtain⟨r,hri⟩:=ajl (d.getD i []);have htk:d.take (i+1)=d.take i++[r]:=(by rw[ajN hlt,<- hri];simp[hlt]);rw[hri]at e2 hrl;clear hri hrm;obtain⟨hrl1,hrl2⟩:=hrl;replace hrl2:=hid hrl2;replace htk:=hid htk;refine wk ?_;refine aq (λn T' L'=>∃(k:Nat) (l:Rdn) (v:AV) (Z:List Blk),n=r.length-k/\k<=r.length/\Hid (l=gz (r.take k)/\ah8 L.length l v L'/\∀a∈l,a.1.length<=10000/\a.2.length<=10000)/\L'[L.length]?=some (.spare i 1)/\X.length<=Z.length/\T'=[(20,.int .i64 (k:Int)),(19,.int .i64 r.length),(18,ah r),(6,v),(14,.int .i64 (i:Int)),(13,.int .i64 d.length),(12,.sl (d.map ah) d.length cap),(3,.gsl (out.map ah) i L.length 1)]/\L'=L++Z) (CutS (b:=by have:=(ajr.1 ho).1;simp at this⊢)) ⟨0,[],_,X,rfl,aju _,hid ⟨rfl,.inl ⟨rfl,rfl,rfl⟩,amN⟩,ho,ajs _,rfl,rfl⟩ ?_;clear ho;rintro _ _ _ ⟨k,l,v,X1,rfl,hk,hI,ho,hXZ,rfl,rfl⟩;obtain⟨hl,hv,hlen⟩:=hI.o;clear hI;have hB:L.length<(L++X1).length:=(ajr.1 ho).1;refine Ya 6 2 L.length rfl hB hv λp Y hBi hpi=>?_
  rw[ajD]at hpi⊢;have ho2:(L++(X1++Y))[L.length]?=some (.spare i 1):=(by rw[<- ajD,ajw hB];exact ho);have hXZ2:X.length<=(X1++Y).length:=(by simp;omega);generalize X1++Y=Z at hpi ho2 hXZ2⊢;clear ho hB hv hXZ X1 Y;replace hXZ2:=hid hXZ2;have hll:l.length=k:=(by rw[hl,pZ];simp;omega);rw[hll]at hpi⊢;have hpl:=(ajr.1 hpi).1;have hol:=(ajr.1 ho2).1;rw[ajA]at hpl hol;replace hlen:=hid hlen;replace hl:=hid hl;replace hpl:=hid hpl;replace hol:=hid hol;by_cases hkl:k<r.length
  .have g3:(k:Int)<(r.length:Int):=amM;have g4:=ajn k amM;have e3:=fL hkl;have e4:k*2+2<=(aL r).length:=(by rw[cJ];omega);obtain⟨⟨ty,va⟩,ha⟩:∃a,r.getD k ([],[])=a:=⟨_,rfl⟩;have ham:(ty,va)∈r:=(by rw[<- ha];simp[hkl]);have hnew:=YF hkl;rw[ha]at e3 hnew;simp only[mu]at e3;have hva:=hrl2.o _ ham;simp only at hva;have hva2:(va.length:Int)<=100000:=amM;have hty2:(ty.length:Int)<=100000:=amM;obtain⟨fx,hfx⟩:=ajl (ag ty);obtain⟨px,hpx⟩:=ajl (bT va);have hfl:fx.length<=10000:=(by rw[<- hfx];simp[ag];omega);have hpxl:px.length<=10000:=(by rw[<- hpx];have:=J0 va;omega);have hpav:td (ty,va)=(fx,px):=(by simp[td,hfx,hpx]);rw[hpav,<- hl.o]at hnew;replace hnew:=hid hnew;clear ha ham hpav
   iterate 24 first
    |refine cA ?_
    | (first|refine bG amO ?_|refine ba amO ?_|refine be ?_|refine dN ?_|refine cD (fun _=>?_)|refine aU ?_|refine bI ?_|refine kB hty2 ?_|refine xO hva2 ?_|refine bQ (kB hty2 ⟨rfl,rfl⟩) (kB hty2 ⟨rfl,rfl⟩) ?_|refine bQ (xO hva2 ⟨rfl,rfl⟩) (xO hva2 ⟨rfl,rfl⟩) ?_|refine bi (kB hty2 ⟨rfl,rfl⟩) ?_|refine bi (xO hva2 ⟨rfl,rfl⟩) ?_)
      simp(config:={maxSteps:=2000000}) only[Kon,push_cast,reduceIte,Nat.reduceEqDiff,Nat.reduceAdd,Nat.reduceMul,Nat.reduceSub,Nat.reduceLT,Nat.reduceLeDiff,Int.reduceLT,Int.reduceLE,Int.reduceAdd,Int.reduceSub,Int.reduceNeg,Int.reduceToNat,Int.reduceEq,reduceCtorEq, *]
    | (first|refine bC amO ?_|refine bz ?_|refine bd ?_|refine bH ?_|refine cI (aT ?_))
      simp only[push_cast,reduceIte,Nat.reduceEqDiff,Nat.reduceAdd,Nat.reduceMul,Nat.reduceSub,Nat.reduceLT,Nat.reduceLeDiff,Int.reduceLT,Int.reduceLE,Int.reduceAdd,Int.reduceSub,Int.reduceNeg,Int.reduceToNat,Int.reduceEq,reduceCtorEq, *]
    |exact cE
    |first|apply cF|apply bD|apply cG|apply bE|apply cH|apply bF
    |refine bh ?_
    |refine bc ?_
    |first|refine bf rfl ?_|refine bg rfl ?_|refine aI rfl ?_ ?_|refine bm rfl (λ_=>?_) (λ_=>?_)|refine bj rfl (λ_=>?_) (λ_=>?_)
    |((first|refine aG (λ_=>?_) (λ_=>?_)|refine aS (λ_=>?_) (λ_=>?_))<;>try simp(config:={maxSteps:=2000000}) only[Kon,push_cast,reduceIte,Nat.reduceEqDiff,Nat.reduceAdd,Nat.reduceMul,Nat.reduceSub,Nat.reduceLT,Nat.reduceLeDiff,Int.reduceLT,Int.reduceLE,Int.reduceAdd,Int.reduceSub,Int.reduceNeg,Int.reduceToNat,Int.reduceEq,reduceCtorEq, *])
    |refine And.intro trivial ?_
    |refine And.intro amM ?_
    |refine br rfl (λ_=>?_) (λ_=>?_)
    |refine And.intro ?_ ?_
   have hnp:l.getD k ([],[])=([],[]):=(by simp[hll]);obtain⟨wx,hwx⟩:=ajl (fN px);have hkx:xu (fx,px)=fx++61::wx:=(by simp[avT,hwx]);have hwxl:wx.length<=30000:=(by rw[<- hwx];have:=JV px;omega);have hpx2:px.length<=100000:=amM;replace hkx:=hid hkx;clear hnp;refine Ud (λT2 L2=>∃z:Nat,z<=k/\Hid (z=xQ l (fx,px) k)/\T2=[(10,.int .i64 (z:Int)),(9,.ptr (L.length+(Z.length+1)) 0),(6,.gsl (aL l) k p 2),(20,.int .i64 (k:Int)),(19,.int .i64 r.length),(18,ah r),(14,.int .i64 (i:Int)),(13,.int .i64 d.length),(12,.sl (d.map ah) d.length cap),(3,.gsl (out.map ah) i L.length 1)]/\L2=L++(Z++[.cells [.str ty,.str va],.cells [.str fx,.str px]])) ?_ ?_;refine wk ?_;refine aq (λn T' L'=>∃q:Nat,q=n/\q<=k/\Hid (xQ l (fx,px) q=xQ l (fx,px) k)/\T'=[(10,.int .i64 (q:Int)),(9,.ptr (L.length+(Z.length+1)) 0),(6,.gsl (aL l) k p 2),(20,.int .i64 (k:Int)),(19,.int .i64 r.length),(18,ah r),(14,.int .i64 (i:Int)),(13,.int .i64 d.length),(12,.sl (d.map ah) d.length cap),(3,.gsl (out.map ah) i L.length 1)]/\L'=L++(Z++[.cells [.str ty,.str va],.cells [.str fx,.str px]])) amQ ⟨k,rfl,ajs _,hid rfl,rfl,rfl⟩ ?_;rintro _ _ _ ⟨q,rfl,hqk,hq,rfl,rfl⟩;rcases q with _|q;have h0:=hid hq.o.symm;have k0:¬(0:Int)<((0:Nat):Int):=amM;have kk1:=@amT _ _ _ _ (j9 hpx2);refine wk ?_;exact tH _ _ amP ⟨0,amM,hid h0.o.symm,rfl,rfl⟩;have k0:(0:Int)<((q+1:Nat):Int):=amM;have k1:IntKind.i64.wrap (((q+1:Nat):Int)-1)=(q:Int):=(by rw[ae amM amM];omega);have k4:(q:Int)<(k:Int):=amM;have e5:=fL (r:=l) (k:=q) amM;have e6:q*2+2<=(aL l).length:=by rw[cJ];omega
   obtain⟨⟨t1,v1⟩,hav⟩:∃a,l.getD q ([],[])=a:=⟨_,rfl⟩;rw[hav]at e5;simp only[mu]at e5;obtain⟨e7,e8⟩:=abL e5;obtain⟨w1,hw1⟩:=ajl (fN v1);have hv1:=hlen.o (t1,v1) (by rw[<- hav];simp[show q<l.length by omega]);simp only at hv1;have hv1':v1.length<=100000:=amM;have hw1l:w1.length<=30000:=(by rw[<- hw1];have:=JV v1;omega);have hk1:xu (l.getD q ([],[]))=t1++61::w1:=(by rw[hav];simp[avT,hw1]);have c1:((t1.length+1:Nat):Int)<=9223372036854775807:=amM;have c2:((t1.length+1+w1.length:Nat):Int)<=9223372036854775807:=amM;have c3:((fx.length+1:Nat):Int)<=9223372036854775807:=amM;have c4:((fx.length+1+wx.length:Nat):Int)<=9223372036854775807:=amM;simp only[Int.natCast_add,Int.cast_ofNat_Int]at c1 c2 c3 c4;replace hk1:=hid hk1;simp only[Int.natCast_add,Int.cast_ofNat_Int]at k0 k1;have hq':=hid hq.o;clear hq hav;by_cases hc:xu (fx,px)<xu (l.getD q ([],[]));have hb:(Op.bytesLess (t1++61::w1) (fx++61::wx) ||decide (t1++61::w1=fx++61::wx))=false:=by rw[hkx.o,hk1.o]at hc;rw[bytesLess_eq];simp only[alC,decide_eq_false_iff_not];exact⟨λe=>akI _ (alG e hc),λe=>by rw[e]at hc;exact akI _ hc⟩
   have hq2:xQ l (fx,px) q=xQ l (fx,px) k:=(by rw[<- hq'.o,xQ,if_pos hc]);replace hq2:=hid hq2;clear hc;have kk1:=@amT _ _ _ _ (j9 hpx2);have kk2:=@amT _ _ _ _ (j9 hv1');refine wk ?_;exact amR amM amP ⟨q,rfl,amM,hq2,rfl,rfl⟩;have hb:(Op.bytesLess (t1++61::w1) (fx++61::wx) ||decide (t1++61::w1=fx++61::wx))=true:=by rw[hkx.o,hk1.o]at hc;rw[bytesLess_eq];simp only[akc,decide_eq_true_eq];have:=akR.1 hc;rcases alU.1 this with e|e;exact .inl e;exact .inr e
   have hq2:q+1=xQ l (fx,px) k:=(by rw[<- hq'.o,xQ,if_neg hc]);replace hq2:=hid hq2;clear hc;have kk1:=@amT _ _ _ _ (j9 hpx2);have kk2:=@amT _ _ _ _ (j9 hv1');refine wk ?_;exact tH _ _ amP ⟨q+1,amM,hq2,rfl,rfl⟩;rintro _ _ ⟨z,hzk,hz,rfl,rfl⟩ -;have z0:(0:Int)<=(z:Int):=amM;have z1:(z:Int)<=(k:Int):=amM;have s1:(aL l).take (z*2)=aL (l.take z):=R3;have s2:((aL l).drop (z*2)).take ((k-z)*2)=aL (l.drop z):=by rw[acQ,aj3];rw[cJ,akQ,hll];omega
   have s3:AV.frzL (aL (l.take z))=aL (l.take z):=fK _;have s4:AV.frzL (aL (l.drop z))=aL (l.drop z):=fK _;have s5:(aL (l.take z)).length=z*2:=(by rw[cJ,akH];omega);have s6:(aL (l.drop z)).length=(k-z)*2:=(by rw[cJ,akQ,hll]);have s7:z+1+(k-z)=k+1:=amM;have s8:=VQ (l.take z);have s9:=VQ (l.drop z);have q1:z*32<=140737488355328:=amM;have q2:z<=140737488355328:=amM;have q3:(z+1)*32<=140737488355328:=amM;have q4:z+1<=140737488355328:=amM;have q5:(k+1)*32<=140737488355328:=amM;have q6:k+1<=140737488355328:=amM
   iterate 3 first
    |refine cA ?_
    | (first|refine bG amO ?_|refine ba amO ?_|refine be ?_|refine dN ?_|refine cD (fun _=>?_)|refine aU ?_|refine bI ?_)
      simp(config:={maxSteps:=2000000}) only[Kon,push_cast,reduceIte,Nat.reduceEqDiff,Nat.reduceAdd,Nat.reduceMul,Nat.reduceSub,Nat.reduceLT,Nat.reduceLeDiff,Int.reduceLT,Int.reduceLE,Int.reduceAdd,Int.reduceSub,Int.reduceNeg,Int.reduceToNat,Int.reduceEq,reduceCtorEq, *]
    | (first|refine bC amO ?_|refine bz ?_|refine bd ?_|refine bH ?_|refine cI (aT ?_))
      simp only[push_cast,reduceIte,Nat.reduceEqDiff,Nat.reduceAdd,Nat.reduceMul,Nat.reduceSub,Nat.reduceLT,Nat.reduceLeDiff,Int.reduceLT,Int.reduceLE,Int.reduceAdd,Int.reduceSub,Int.reduceNeg,Int.reduceToNat,Int.reduceEq,reduceCtorEq, *]
    |exact cE
    |first|apply cF|apply bD|apply cG|apply bE|apply cH|apply bF
    |refine bh ?_
    |refine bc ?_
    |first|refine bf rfl ?_|refine bg rfl ?_|refine aI rfl ?_ ?_|refine bm rfl (λ_=>?_) (λ_=>?_)|refine bj rfl (λ_=>?_) (λ_=>?_)
    |((first|refine aG (λ_=>?_) (λ_=>?_)|refine aS (λ_=>?_) (λ_=>?_))<;>try simp(config:={maxSteps:=2000000}) only[Kon,push_cast,reduceIte,Nat.reduceEqDiff,Nat.reduceAdd,Nat.reduceMul,Nat.reduceSub,Nat.reduceLT,Nat.reduceLeDiff,Int.reduceLT,Int.reduceLE,Int.reduceAdd,Int.reduceSub,Int.reduceNeg,Int.reduceToNat,Int.reduceEq,reduceCtorEq, *])
    |refine And.intro trivial ?_
    |refine And.intro amM ?_
    |refine br rfl (λ_=>?_) (λ_=>?_)
    |refine And.intro ?_ ?_
   refine bK (l:=[]) (n:=0) 11 2 rfl (ajX 2).symm ?_;refine wk ?_;have hcell:aL (l.take z)++AV.str fx::AV.str px::aL (l.drop z)=aL (Jq l (fx,px)):=by rw[Jq,hll,<- hz.o,Xc,Xc];simp[aL,mu]
   have hlen2:(Jq l (fx,px)).length=k+1:=(by rw[Y0,hll]);rw[hcell];refine amR amM (CutL (b:=?_)) ⟨k+1,Jq l (fx,px),_,_,rfl,hkl,hid ⟨hnew.o.symm,.inr ⟨L.length+(Z.length+2),amM,by rw[hlen2],?_⟩,agn hlen.o ⟨hfl,hpxl⟩⟩,?_,?_,rfl,rfl⟩;have:=hXZ2.o;simp;omega;rw[oK,oK,hlen2];rfl;rw[<- ajD,ajw (ajr.1 ho2).1];exact ho2;have:=hXZ2.o;simp;omega
  have hke:k=r.length:=amM;subst hke;have g3:¬(r.length:Int)<(r.length:Int):=amM;have q3:(i+1)*24<=140737488355328:=amM;have q4:i+1<=140737488355328:=amM;have e5:AV.frzL (aL l)=aL l:=fK _;have e6:out.map ah++[AV.sl (aL l) r.length none]=(out++[l]).map ah:=by rw[ajV];simp[hll]
  have e7:out++[l]=(d.take (i+1)).map gz:=by rw[htk.o,ajV,<- hout.o,hl.o,ajL];rfl
  have s4:∀(W:List Blk) A,(L++W).set L.length A=L++W.set 0 A:=λW A=>by rw[ajZ _ _ (ajs _),ale]
  have f1:(L++Z.set 0 (.spare (i+1) 1))[L.length]?=some (.spare (i+1) 1):=by rw[<- s4,aj1,if_pos rfl,if_pos (ajr.1 ho2).1]
  replace e7:=hid e7;replace f1:=hid f1;replace e6:=hid e6;refine wk ?_;rw[e6.o];refine amR amM (CutL (b:=?_)) ⟨i+1,out++[l],_,rfl,hlt,e7,f1.o,rfl,rfl⟩;have:=hol.o;simp;omega
 have hke:i=d.length:=amM;subst hke;have g1:¬(d.length:Int)<(d.length:Int):=amM;have e:=hout.o;rw[ajL]at e;have h':=h.o;rw[show(fU d)=out from e.symm]at h';replace h':=hid h';clear hout e;refine wk ?_;refine aJ (ab ?_ ?_);simp only[AV.frz,AV.frzL,aY,AV.refs,AV.refsL,dX,alo];simp only[AV.frz,AV.frzL,aY];exact h'.o
theorem Ob(d:List Rdn):(fU d).length=d.length:=by simp[fU]
theorem UG(h:∀a∈r,a.1.length<=10000/\a.2.length<=10000):∀a∈gz r,a.1.length<=10000/\a.2.length<=10000:=λa ha=>by have hp:=(Q7 r [] List.Pairwise.nil).2;have hm:=hp.mem_iff.1 ha;rw[aj0]at hm;obtain⟨b,hb,rfl⟩:=ajy.1 hm;obtain⟨h1,h2⟩:=h b hb;have h3:=J0 b.2;simp only[td,ag,ajR];omega
theorem tN(hn:d.length<=1100000)(hr:∀r∈d,r.length<=1100000/\∀a∈r,(a.1.length:Int)<=140737488351232)(h:K (iQ (tf d)) L):
  ajp 89 [.sl (d.map ah) d.length cap] L K:=by
 unfold tf iQ at h;refine ajo TG ?_;refine gO hn hr ?_;unfold iQ;obtain⟨⟨ps,pe⟩,hp⟩:∃p,prS d=p:=⟨_,rfl⟩;rw[hp]at h⊢;simp only at h⊢;by_cases h0:pe=0;subst h0;obtain⟨q1,q2⟩:=UE (by rw[hp]);rw[if_neg amN]at h;have hb:∀r∈d,r.length<=1000/\∀a∈r,a.1.length<=10000/\a.2.length<=10000:=λr hr=>⟨by have:=(q2 r hr).1;omega,λa ha=>⟨by have:=((q2 r hr).2 a ha).1;omega,by have:=((q2 r hr).2 a ha).2;omega⟩⟩
 have hb2:∀r∈fU d,r.length<=1000/\∀a∈r,a.1.length<=10000/\a.2.length<=10000:=λr hr=>by obtain⟨r0,hr0,rfl⟩:=ajy.1 hr;exact⟨by rw[pZ];exact(hb r0 hr0).1,UG (hb r0 hr0).2⟩
 have hpl:=hid (Ob d);rw[<- xR]at h;replace h:=hid h;replace hb:=hid hb;replace hb2:=hid hb2;clear hp hr q2;refine sk ?_;have kk1:=@amT _ _ _ _ (Yt (cap:=cap) amM hb.o);refine wk ?_;rw[<- hpl.o];refine TW (by rw[hpl.o];omega) hb2.o ?_;refine amU ?_;exact ac h.o;rw[if_pos h0]at h;replace h:=hid h;clear hp hr;refine amU ?_;exact ac h.o
theorem afZ(hn:d.length<=1000000)(hr:∀r∈d,r.length<=1000000/\∀a∈r,(a.1.length:Int)<=100000)(h:K (iQ (tf d)) L):
 ajp 89 [.sl (d.map ah) d.length cap] L K:=tN amM (λr hm=>⟨by have:=(hr r hm).1;omega,λa ha=>by have:=(hr r hm).2 a ha;omega⟩) h
theorem UJ:∀(f:Nat) (out:List Rdn) (now:Rdn) (s:List UInt8),(∀a∈now,a.1.length<=32)->(∀r∈out,∀a∈r,a.1.length<=32)->∀r∈(qA f out now s).1,∀a∈r,a.1.length<=32
 |0,_,_,_,_,_=>by simp[qA]
 | f+1,out,now,s,h1,h2=>by
   rw[qA];split
   .simp
   split
   .simp
   split
   .simp
   rename_i hty;have hty':=tL (by simpa using hty);have hrow:∀v,∀a∈now++[(_,v)],a.1.length<=32:=λv a ha=>by
    rcases ajx.1 ha with h|h
    .exact h1 a h
    .rw[ajI.1 h];exact hty'
   have hout:∀v,∀r∈out++[now++[(_,v)]],∀a∈r,a.1.length<=32:=λv r hr=>by
    rcases ajx.1 hr with h|h
    .exact h2 r h
    .rw[ajI.1 h];exact hrow v
   split
   .simp
   split
   .simp
   split
   .simp
   split
   .exact hout _
   split
   .exact UJ f _ _ _ amN (hout _)
   .exact UJ f _ _ _ (hrow _) h2
theorem YH(s:List UInt8):∀r∈(da s).1,∀a∈r,a.1.length<=32:=by unfold da;split;simp;split;simp;exact UJ _ _ _ _ amN amN
theorem adM(h:K (iQ (aei s)) L):ajp 140 [.str s] L K:=by unfold aei at h;refine ajo VI ?_;refine Ur ?_;obtain⟨q1,q2⟩:=xS s;have q3:=YH s;obtain⟨⟨pd,pe⟩,hp⟩:∃p,da s=p:=⟨_,rfl⟩;rw[hp]at h q1 q2 q3⊢;simp only[Tf]at h q1 q2 q3⊢;clear hp;by_cases h0:pe=0;subst h0;rw[if_neg amN]at h;replace h:=hid h;replace q2:=hid q2;replace q3:=hid q3;refine amU ?_;refine afZ amM (λr hr=>⟨by have:=q2.o r hr;omega,λa ha=>by have:=q3.o r hr a ha;omega⟩) ?_;have h':=h.o;unfold iQ at h'⊢;replace h':=hid h';refine amU ?_;exact ac h'.o;rw[if_pos h0]at h;unfold iQ at h;replace h:=hid h;clear q1 q2 q3;refine amU ?_;exact ac h.o
end Go.Proofs.YtdnfjhflkkpokaaGreatDoor.Av
