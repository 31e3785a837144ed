/- Joined texts of the walk, made small by a program. -/
import Derived.Test.YtdnfjhflkkpokaaGreatDoorKk6
import Derived.Test.YtdnfjhflkkpokaaGreatDoorKk5
import Derived.Lib.ValidLaws
import Derived.Sort.Walk0
import Derived.Test.YtdnfjhflkkpokaaGreatDoorKk7
import Derived.Test.YtdnfjhflkkpokaaGreatDoorKk1
import Derived.Sort.Statements
set_option linter.unusedSimpArgs false
set_option linter.unusedVariables false
namespace Go.Proofs.YtdnfjhflkkpokaaGreatDoor.Av
open Go
variable {s v t b a:List UInt8}{c:UInt8}{i:Nat}{d suf dn tn:List Rdn}{id:Int}
variable {L:List Blk}{K:ajq}
set_option maxHeartbeats 8000000
set_option maxRecDepth 100000
def mA(b:Nat):Nat×Nat:=if 240<=b then(4,b-240)else if 224<=b then(3,b-224)else if 192<=b then(2,b-192)else(1,b)
def ON(n c:Nat):Bool:=decide (¬(n=2/\c<128\/n=3/\c<2048\/n=4/\c<65536\/1114111<c\/55296<=c/\c<57344))
def NU:Nat->List UInt8->Nat->Option Nat
 |0,_,c=>some c
 |_+1,[],_=>none
 |k+1,x::t,c=>if 128<=x.toNat/\x.toNat<192 then NU k t (c*64+x.toNat-128)else none
def Td:Nat->List UInt8->Bool
 |_,[]=>true
 |0,_::_=>true
 | f+1,b::t=>if 128<=b.toNat/\b.toNat<192 then false else if t.length+1<(mA b.toNat).1 then false else
   match NU ((mA b.toNat).1-1) t (mA b.toNat).2 with
   |none=>false
   |some c=>ON (mA b.toNat).1 c&&Td f (t.drop ((mA b.toNat).1-1))
theorem aaY(hs:s.length<=1100000)(h:K (.bool (Td s.length s)) L):ajp 138 [.str s] L K:=by
 obtain⟨R,hR⟩:=ajl (Td s.length s);rw[hR]at h;replace h:=hid h;refine ajo VF ?_;refine aq (λn T' L'=>∃(f:Nat) (u:List UInt8),f=n/\u.length<=1100000/\Hid (u.length<=f/\Td f u=R)/\T'=[(0,.str u)]/\L=L') (CutS (b:=ajs _)) ⟨s.length,s,rfl,hs,hid ⟨ajs _,hR⟩,rfl,rfl⟩ ?_;clear hR hs;rintro _ _ _ ⟨f,u,rfl,hu,hI,rfl,rfl⟩;rcases u with _|⟨b,t⟩;have h':=h.o;rw[<- hI.o.2,show Td f []=true by cases f<;>rfl]at h';replace h':=hid h';have e0:([]:List UInt8).length=0:=rfl;refine wk ?_;exact ac h'.o;obtain⟨u,hut⟩:=ajl (b::t);obtain⟨f,rfl⟩:∃g,f=g+1:=⟨f-1,by have:=hI.o.1;simp at this;omega⟩;have hb0:u.getD 0 0=b:=by rw[<- hut];rfl
 have hul:u.length=t.length+1:=by rw[<- hut];rfl
 have hI2:=hI.o.2;have hfl:=hI.o.1;rw[Td]at hI2;rw[hut]at hu hfl⊢;obtain⟨x,hx⟩:=ajl (b.toNat);have hx256:x<256:=by rw[<- hx];exact b.toNat_lt
 rw[hx]at hI2;have hpos:(0:Int)<(u.length:Int):=amM;have w0:IntKind.i64.wrap (x:Int)=(x:Int):=ae amM amM;have hxi:(b.toNat:Int)=(x:Int):=amM;have hbad:R=false->Fin L (.bool false) L K:=λe=>ac (by have h':=h.o;rwa[e]at h')
 replace hbad:=hid hbad;have hdr:∀i,u.drop (i+1)=t.drop i:=λi=>by rw[<- hut];rfl
 replace hut:=hid hut;replace hul:=hid hul;clear hx hI;by_cases hmid:128<=x/\x<192;rw[if_pos hmid]at hI2;have c1:¬(240:Int)<=(x:Int):=amM;have c2:¬(224:Int)<=(x:Int):=amM;have c3:¬(192:Int)<=(x:Int):=amM;have c4:(128:Int)<=(x:Int):=amM;have e:=hid hI2.symm;clear hmid hI2;refine wk ?_;exact hbad.o e.o;rw[if_neg hmid]at hI2;obtain⟨⟨n,c0⟩,hn⟩:∃p,mA x=p:=⟨_,rfl⟩;rw[hn]at hI2;simp only at hI2;have hn14:1<=n/\n<=4/\c0<256:=by
  unfold mA at hn
  repeat' split at hn
  all_goals (cases hn;omega)
 obtain⟨hn1,hn4,hc0⟩:=hn14;replace hI2:=hid hI2
 iterate 13 first
  |refine cA ?_
  | (first|refine bG amO ?_|refine ba amO ?_|refine be ?_|refine dN ?_|refine cD (fun _=>?_)|refine aU ?_|refine bI ?_)
    simp(config:={maxSteps:=2000000}) only[Kon,push_cast,reduceIte,Nat.reduceEqDiff,Nat.reduceAdd,Nat.reduceMul,Nat.reduceSub,Nat.reduceLT,Nat.reduceLeDiff,Int.reduceLT,Int.reduceLE,Int.reduceAdd,Int.reduceSub,Int.reduceNeg,Int.reduceToNat,Int.reduceEq,reduceCtorEq, *]
  | (first|refine bC amO ?_|refine bz ?_|refine bd ?_|refine bH ?_|refine cI (aT ?_))
    simp only[push_cast,reduceIte,Nat.reduceEqDiff,Nat.reduceAdd,Nat.reduceMul,Nat.reduceSub,Nat.reduceLT,Nat.reduceLeDiff,Int.reduceLT,Int.reduceLE,Int.reduceAdd,Int.reduceSub,Int.reduceNeg,Int.reduceToNat,Int.reduceEq,reduceCtorEq, *]
  |exact cE
  |first|apply cF|apply bD|apply cG|apply bE|apply cH|apply bF
  |refine bh ?_
  |refine bc ?_
  |first|refine bf rfl ?_|refine bg rfl ?_|refine aI rfl ?_ ?_|refine bm rfl (λ_=>?_) (λ_=>?_)|refine bj rfl (λ_=>?_) (λ_=>?_)
  |((first|refine aG (λ_=>?_) (λ_=>?_)|refine aS (λ_=>?_) (λ_=>?_))<;>try simp(config:={maxSteps:=2000000}) only[Kon,push_cast,reduceIte,Nat.reduceEqDiff,Nat.reduceAdd,Nat.reduceMul,Nat.reduceSub,Nat.reduceLT,Nat.reduceLeDiff,Int.reduceLT,Int.reduceLE,Int.reduceAdd,Int.reduceSub,Int.reduceNeg,Int.reduceToNat,Int.reduceEq,reduceCtorEq, *])
  |refine And.intro trivial ?_
  |refine And.intro amM ?_
  |refine br rfl (λ_=>?_) (λ_=>?_)
  |refine And.intro ?_ ?_
 refine Ud (λT2 L2=>T2=[(4,.int .i64 (n:Int)),(3,.int .i64 (c0:Int)),(0,.str u)]/\L=L2) ?_ ?_;unfold mA at hn;by_cases q1:240<=x;rw[if_pos q1]at hn;cases hn;have c1:(240:Int)<=(x:Int):=amM;have w1:IntKind.i64.wrap ((x:Int)-240)=((x-240:Nat):Int):=by rw[ae amM amM];omega
 obtain⟨d,hd⟩:=ajl (x-240);rw[hd]at w1⊢;clear q1 hd hmid;refine wk ?_;exact tH _ _ amP ⟨rfl,rfl⟩;rw[if_neg q1]at hn;have c1:¬(240:Int)<=(x:Int):=amM;by_cases q2:224<=x;rw[if_pos q2]at hn;cases hn;have c2:(224:Int)<=(x:Int):=amM;have w1:IntKind.i64.wrap ((x:Int)-224)=((x-224:Nat):Int):=by rw[ae amM amM];omega
 obtain⟨d,hd⟩:=ajl (x-224);rw[hd]at w1⊢;clear q1 q2 hd hmid;refine wk ?_;exact tH _ _ amP ⟨rfl,rfl⟩;rw[if_neg q2]at hn;have c2:¬(224:Int)<=(x:Int):=amM;by_cases q3:192<=x;rw[if_pos q3]at hn;cases hn;have c3:(192:Int)<=(x:Int):=amM;have w1:IntKind.i64.wrap ((x:Int)-192)=((x-192:Nat):Int):=by rw[ae amM amM];omega
 obtain⟨d,hd⟩:=ajl (x-192);rw[hd]at w1⊢;clear q1 q2 q3 hd hmid;refine wk ?_;exact tH _ _ amP ⟨rfl,rfl⟩;rw[if_neg q3]at hn;cases hn;have c3:¬(192:Int)<=(x:Int):=amM;have c4:¬(128:Int)<=(x:Int):=amM;clear q1 q2 q3 hmid;refine wk ?_;exact tH _ _ amP ⟨rfl,rfl⟩;rintro _ _ ⟨rfl,rfl⟩ -;clear hn hmid hxi w0;by_cases hsh:t.length+1<n;have hI3:=hI2.o;rw[if_pos hsh]at hI3;have k1:(u.length:Int)<(n:Int):=by have:=hul.o;omega
 have e:=hid hI3.symm;clear hsh hI3;refine wk ?_;exact hbad.o e.o;have hI3:=hI2.o;rw[if_neg hsh]at hI3;have k1:¬(u.length:Int)<(n:Int):=by have:=hul.o;omega
 have hnu:n<=u.length:=by have:=hul.o;omega
 obtain⟨o,ho⟩:=ajl (NU (n-1) t c0);rw[ho]at hI3;replace hI3:=hid hI3;clear hI2;refine wk ?_;refine aq (λm T' L'=>∃(i c:Nat),m=n-i/\1<=i/\i<=n/\c<256*64^(i-1)/\Hid (NU (n-i) (u.drop i) c=o)/\T'=[(5,.int .i64 (i:Int)),(4,.int .i64 (n:Int)),(3,.int .i64 (c:Int)),(0,.str u)]/\L=L') (CutS (b:=ajs _)) ⟨1,c0,rfl,ajs _,hn1,by simpa using hc0,hid (by rw[hdr 0];exact ho),rfl,rfl⟩ ?_;clear ho;rintro _ _ _ ⟨i,c,rfl,hi1,hin,hc,hO,rfl,rfl⟩;have hc4:c<67108864:=by refine akK hc ?_;have:i=1\/i=2\/i=3\/i=4:=amM;rcases this with rfl|rfl|rfl|rfl<;>decide
 by_cases hlt:i<n;have g1:(i:Int)<(n:Int):=amM;have g2:(i:Int)<(u.length:Int):=amM;have g3:=ajn i amM;obtain⟨y,hy⟩:=ajl (u.getD i 0);obtain⟨z,hz⟩:=ajl (y.toNat);have hz256:z<256:=by rw[<- hz];exact y.toNat_lt
 have hzi:(y.toNat:Int)=(z:Int):=amM;have hO2:=hO.o;rw[jY (show i<u.length by omega),hy,show n-i=(n-(i+1))+1 by omega,NU,hz]at hO2;have w1:IntKind.i64.wrap (z:Int)=(z:Int):=ae amM amM;clear hz;by_cases hcn:128<=z/\z<192;rw[if_pos hcn]at hO2;have k2:¬(z:Int)<128:=amM;have k3:¬(192:Int)<=(z:Int):=amM;have w2:IntKind.i64.wrap ((c:Int)*64)=(c:Int)*64:=ae amM amM;have w3:IntKind.i64.wrap ((c:Int)*64+(z:Int))=(c:Int)*64+(z:Int):=ae amM amM;have w4:IntKind.i64.wrap ((c:Int)*64+(z:Int)-128)=((c*64+z-128:Nat):Int):=by rw[ae amM amM];omega
 have hcc:c*64+z-128<256*64^(i+1-1):=by have:i=1\/i=2\/i=3:=amM;rcases this with rfl|rfl|rfl<;>simp at hc⊢<;>omega
 obtain⟨c',hc'⟩:=ajl (c*64+z-128);rw[hc']at w4 hO2 hcc;replace hO2:=hid hO2;clear hcn hc';refine wk ?_;exact amR amM amP ⟨i+1,c',rfl,amM,hlt,hcc,hO2,rfl,rfl⟩;rw[if_neg hcn]at hO2;have hI4:=hI3.o;rw[<- hO2]at hI4;have e:=hid hI4.symm;by_cases k2:(z:Int)<128;clear hcn hO2 hI4;refine wk ?_;exact hbad.o e.o;have k3:(192:Int)<=(z:Int):=amM;clear hcn hO2 hI4;refine wk ?_;exact hbad.o e.o
 .have hke:i=n:=amM;subst hke;have g1:¬(i:Int)<(i:Int):=amM;have hO2:=hO.o;rw[ale,NU]at hO2;have hI4:=hI3.o;rw[<- hO2]at hI4;simp only[ON]at hI4;have e1:((i:Int)).toNat=i:=amM;have g2:(i:Int)<=(u.length:Int):=amM;have e2:(u.drop i).take (u.length-i)=u.drop i:=aj3 amN;have e3:u.drop i=t.drop (i-1):=(by rw[<- hdr (i-1),show i-1+1=i by omega]);have hb2:(i=2/\c<128\/i=3/\c<2048\/i=4/\c<65536\/1114111<c\/55296<=c/\c<57344)->R=false:=λe=>by rw[decide_eq_false (λhn=>hn e),akp]at hI4;exact hI4.symm
  have hg2:¬(i=2/\c<128\/i=3/\c<2048\/i=4/\c<65536\/1114111<c\/55296<=c/\c<57344)->Td f (u.drop i)=R:=λe=>by rw[decide_eq_true e,aj7]at hI4;rw[e3];exact hI4
  replace hb2:=hid hb2;replace hg2:=hid hg2;replace e3:=hid e3;clear hI4 hO2 hI3
  repeat' first
   |refine cA ?_
   | (first|refine bG amO ?_|refine ba amO ?_|refine be ?_|refine dN ?_|refine cD (fun _=>?_)|refine aU ?_|refine bI ?_)
     simp(config:={maxSteps:=2000000}) only[Kon,push_cast,reduceIte,Nat.reduceEqDiff,Nat.reduceAdd,Nat.reduceMul,Nat.reduceSub,Nat.reduceLT,Nat.reduceLeDiff,Int.reduceLT,Int.reduceLE,Int.reduceAdd,Int.reduceSub,Int.reduceNeg,Int.reduceToNat,Int.reduceEq,reduceCtorEq, *]
   | (first|refine bC amO ?_|refine bz ?_|refine bd ?_|refine bH ?_|refine cI (aT ?_))
     simp only[push_cast,reduceIte,Nat.reduceEqDiff,Nat.reduceAdd,Nat.reduceMul,Nat.reduceSub,Nat.reduceLT,Nat.reduceLeDiff,Int.reduceLT,Int.reduceLE,Int.reduceAdd,Int.reduceSub,Int.reduceNeg,Int.reduceToNat,Int.reduceEq,reduceCtorEq, *]
   |exact cE
   |first|apply cF|apply bD|apply cG|apply bE|apply cH|apply bF
   |refine bh ?_
   |refine bc ?_
   |first|refine bf rfl ?_|refine bg rfl ?_|refine aI rfl ?_ ?_|refine bm rfl (λ_=>?_) (λ_=>?_)|refine bj rfl (λ_=>?_) (λ_=>?_)
   |((first|refine aG (λ_=>?_) (λ_=>?_)|refine aS (λ_=>?_) (λ_=>?_))<;>try simp(config:={maxSteps:=2000000}) only[Kon,push_cast,reduceIte,Nat.reduceEqDiff,Nat.reduceAdd,Nat.reduceMul,Nat.reduceSub,Nat.reduceLT,Nat.reduceLeDiff,Int.reduceLT,Int.reduceLE,Int.reduceAdd,Int.reduceSub,Int.reduceNeg,Int.reduceToNat,Int.reduceEq,reduceCtorEq, *])
   |refine And.intro trivial ?_
   |refine And.intro amM ?_
   |refine br rfl (λ_=>?_) (λ_=>?_)
   |refine And.intro ?_ ?_
  rename_i hx;exact hbad.o (hb2.o amM);rename_i hx;refine amR amM (CutL (b:=ajs _)) ⟨f,u.drop i,rfl,?_,hid ⟨?_,hg2.o amM⟩,rfl,rfl⟩;simp;omega;simp;omega
def Cn(x:Nat):Prop:=128<=x/\x<192
instance (x:Nat):Decidable (Cn x):=by unfold Cn;infer_instance
def Rm(n b0 b1:Nat):Prop:=n<2\/¬Cn b1\/(b0-192)*64+b1-128<128
def VP(n b0 b1 b2:Nat):Prop:=n<3\/¬Cn b1\/¬Cn b2\/((b0-224)*64+b1-128)*64+b2-128<2048\/55296<=((b0-224)*64+b1-128)*64+b2-128/\((b0-224)*64+b1-128)*64+b2-128<57344
def TO(n b0 b1 b2 b3:Nat):Prop:=n<4\/¬Cn b1\/¬Cn b2\/¬Cn b3\/(((b0-240)*64+b1-128)*64+b2-128)*64+b3-128<65536\/1114111<(((b0-240)*64+b1-128)*64+b2-128)*64+b3-128
instance (n b0 b1:Nat):Decidable (Rm n b0 b1):=by unfold Rm;infer_instance
instance (n b0 b1 b2:Nat):Decidable (VP n b0 b1 b2):=by unfold VP;infer_instance
instance (n b0 b1 b2 b3:Nat):Decidable (TO n b0 b1 b2 b3):=by unfold TO;infer_instance
def ZM(n b0 b1 b2 b3:Nat):Nat :=
 if b0<128 then 1 else if b0<192 then 0
 else if b0<224 then(if Rm n b0 b1 then 0 else 2)
 else if b0<240 then(if VP n b0 b1 b2 then 0 else 3)
 else(if TO n b0 b1 b2 b3 then 0 else 4)
set_option maxRecDepth 100000 in
set_option maxHeartbeats 4000000 in
theorem Yg(n b0 b1 b2 b3:Nat)(h0:b0<256)(h1:b1<256)(h2:b2<256)(h3:b3<256):
  (ZM n b0 b1 b2 b3=0/\Lib.decodeN n b0 b1 b2 b3=(65533,1))\/(1<=ZM n b0 b1 b2 b3/\(Lib.decodeN n b0 b1 b2 b3).2=ZM n b0 b1 b2 b3/\¬((Lib.decodeN n b0 b1 b2 b3).1=65533/\(Lib.decodeN n b0 b1 b2 b3).2=1)):=by
 unfold ZM Lib.decodeN;by_cases c1:b0<128;rw[if_pos c1,if_pos c1];right;exact⟨amM,rfl,λh=>by have h1:b0=65533:=h.1;omega⟩;rw[if_neg c1,if_neg c1];by_cases c2:b0<192;rw[if_pos c2,if_neg amM,if_neg amM,if_neg amM];exact .inl ⟨rfl,rfl⟩;rw[if_neg c2];by_cases c3:b0<224;rw[if_pos c3];by_cases hA:Rm n b0 b1;rw[if_pos hA];refine .inl ⟨rfl,?_⟩;unfold Rm Cn at hA;by_cases hc:b0/32=6/\(1<n/\b1/64=2);rw[if_pos hc,if_neg amM];rw[if_neg hc,if_neg amM,if_neg amM];rw[if_neg hA];unfold Rm Cn at hA;rw[if_pos amM,if_pos amM];exact .inr ⟨amM,rfl,λh=>by have h2:(2:Nat)=1:=h.2;omega⟩;rw[if_neg c3];by_cases c4:b0<240;rw[if_pos c4,if_neg (show ¬(b0/32=6/\(1<n/\b1/64=2))by omega)];by_cases hA:VP n b0 b1 b2;rw[if_pos hA];refine .inl ⟨rfl,?_⟩;unfold VP Cn at hA;by_cases hc:b0/16=14/\(1<n/\b1/64=2)/\(2<n/\b2/64=2);rw[if_pos hc,if_neg amM];rw[if_neg hc,if_neg amM];rw[if_neg hA];unfold VP Cn at hA;rw[if_pos amM,if_pos amM];exact .inr ⟨amM,rfl,λh=>by have h2:(3:Nat)=1:=h.2;omega⟩;rw[if_neg c4,if_neg (show ¬(b0/32=6/\(1<n/\b1/64=2))by omega),if_neg (show ¬(b0/16=14/\(1<n/\b1/64=2)/\(2<n/\b2/64=2))by omega)];by_cases hA:TO n b0 b1 b2 b3;rw[if_pos hA];refine .inl ⟨rfl,?_⟩;unfold TO Cn at hA;by_cases hc:b0/8=30/\(1<n/\b1/64=2)/\(2<n/\b2/64=2)/\(3<n/\b3/64=2);rw[if_pos hc,if_neg amM];rw[if_neg hc];rw[if_neg hA];unfold TO Cn at hA;rw[if_pos amM,if_pos amM];exact .inr ⟨amM,rfl,λh=>by have h2:(4:Nat)=1:=h.2;omega⟩
theorem adl(b:UInt8)(t:List UInt8)(f:Nat):Td (f+1) (b::t)=if ZM (t.length+1) b.toNat (t.getD 0 0).toNat (t.getD 1 0).toNat (t.getD 2 0).toNat=0 then false else Td f ((b::t).drop (ZM (t.length+1) b.toNat (t.getD 0 0).toNat (t.getD 1 0).toNat (t.getD 2 0).toNat)):=by
 have hb:=b.toNat_lt;rw[Td];obtain⟨x,hx⟩:=ajl (b.toNat);rw[hx]at hb⊢;unfold ZM;by_cases c1:x<128;have e1:¬(128<=x/\x<192):=amM;have hh:mA x=(1,x):=by unfold mA;rw[if_neg amM,if_neg amM,if_neg amM]
 rw[hh,if_neg e1,if_pos c1];simp only[NU,ale,alB];rw[if_neg amM,if_neg amM,show ON 1 x=true from decide_eq_true amM];rfl;by_cases c2:x<192;simp[c1,c2,show 128<=x by omega];have e1:¬(128<=x/\x<192):=amM;rw[if_neg e1,if_neg c1,if_neg c2];by_cases c3:x<224;have hh:mA x=(2,x-192):=by unfold mA;rw[if_neg amM,if_neg amM,if_pos amM]
 rw[if_pos c3,hh];simp only[show 2-1=1 from rfl];rcases t with _|⟨y,t⟩;simp[Rm];simp only[ajz,alg,NU];rw[if_neg amM];by_cases hA:Rm (t.length+1+1) x y.toNat;simp only[if_pos hA,if_true];by_cases hy:128<=y.toNat/\y.toNat<192;simp only[if_pos hy];unfold Rm Cn at hA;rw[show ON 2 ((x-192)*64+y.toNat-128)=false from decide_eq_false amM];rfl;simp only[if_neg hy];simp only[if_neg hA];unfold Rm Cn at hA;simp only[if_pos (show 128<=y.toNat/\y.toNat<192 by omega),Nat.reduceEqDiff,if_false];rw[show ON 2 ((x-192)*64+y.toNat-128)=true from decide_eq_true amM];rfl;rw[if_neg c3];by_cases c4:x<240;have hh:mA x=(3,x-224):=by unfold mA;rw[if_neg amM,if_pos amM]
 rw[if_pos c4,hh];simp only[show 3-1=2 from rfl];rcases t with _|⟨y,_|⟨z,t⟩⟩;simp[VP];simp[VP];simp only[ajz,alg,alQ,NU];rw[if_neg amM];by_cases hA:VP (t.length+1+1+1) x y.toNat z.toNat;simp only[if_pos hA,if_true];by_cases hy:128<=y.toNat/\y.toNat<192;by_cases hz:128<=z.toNat/\z.toNat<192;simp only[if_pos hy,if_pos hz];unfold VP Cn at hA;rw[show ON 3 (((x-224)*64+y.toNat-128)*64+z.toNat-128)=false from decide_eq_false amM];rfl;simp only[if_pos hy,if_neg hz];simp only[if_neg hy];simp only[if_neg hA];unfold VP Cn at hA;simp only[if_pos (show 128<=y.toNat/\y.toNat<192 by omega),if_pos (show 128<=z.toNat/\z.toNat<192 by omega),Nat.reduceEqDiff,if_false];rw[show ON 3 (((x-224)*64+y.toNat-128)*64+z.toNat-128)=true from decide_eq_true amM];rfl;have hh:mA x=(4,x-240):=by unfold mA;rw[if_pos amM]
 rw[if_neg c4,hh];simp only[show 4-1=3 from rfl];rcases t with _|⟨y,_|⟨z,_|⟨w,t⟩⟩⟩;simp[TO];simp[TO];simp[TO];simp only[ajz,alg,alQ,NU];rw[if_neg amM];by_cases hA:TO (t.length+1+1+1+1) x y.toNat z.toNat w.toNat;simp only[if_pos hA,if_true];by_cases hy:128<=y.toNat/\y.toNat<192;by_cases hz:128<=z.toNat/\z.toNat<192;by_cases hw:128<=w.toNat/\w.toNat<192;simp only[if_pos hy,if_pos hz,if_pos hw];unfold TO Cn at hA;rw[show ON 4 ((((x-240)*64+y.toNat-128)*64+z.toNat-128)*64+w.toNat-128)=false from decide_eq_false amM];rfl;simp only[if_pos hy,if_pos hz,if_neg hw];simp only[if_pos hy,if_neg hz];simp only[if_neg hy];simp only[if_neg hA];unfold TO Cn at hA;simp only[if_pos (show 128<=y.toNat/\y.toNat<192 by omega),if_pos (show 128<=z.toNat/\z.toNat<192 by omega),if_pos (show 128<=w.toNat/\w.toNat<192 by omega),Nat.reduceEqDiff,if_false];rw[show ON 4 ((((x-240)*64+y.toNat-128)*64+z.toNat-128)*64+w.toNat-128)=true from decide_eq_true amM];rfl
theorem Wt:∀(f:Nat) (l:List UInt8),l.length<=f->Td f l=Lib.validD l
 |_,[],_=>by simp[Td,Lib.validD_nil]
 |0,_::_,h=>by simp at h
 | f+1,b::t,h=>by
   rw[adl,Lib.validD_step _ amN,Lib.decodeL_N];simp only[ajz,alg,alQ];rcases Yg (t.length+1) b.toNat (t.getD 0 0).toNat (t.getD 1 0).toNat (t.getD 2 0).toNat b.toNat_lt (t.getD 0 0).toNat_lt (t.getD 1 0).toNat_lt (t.getD 2 0).toNat_lt with⟨h1,h2⟩|⟨h1,h2,h3⟩
   .rw[h1,h2];simp
   .rw[if_neg amM,if_neg h3,h2];refine Wt f _ ?_;rw[akQ];simp only[ajz]at h⊢;omega
def Km(s:List UInt8):Bool:=s.all jC&&decide (0<s.length)
theorem eV{s:List UInt8}(hs:s.length<=1100000){L:List Blk}{K:ajq}(h:K (.bool (Km s)) L):ajp 189 [.str s] L K:=by
 have no:s.all jC=false->K (.bool false) L:=λe=>by have h':=h;rwa[Km,e,akp]at h'
 replace no:=hid no;replace h:=hid h;refine ajo Rg ?_;refine aq (λn T' L'=>∃i:Nat,n=s.length-i/\i<=s.length/\Hid ((s.take i).all jC=true)/\T'=[(3,.int .i64 (i:Int)),(0,.str s)]/\L=L') (CutS (b:=ajs _)) ⟨0,rfl,aju _,hid rfl,rfl,rfl⟩ ?_;rintro _ _ _ ⟨i,rfl,hi,hall,rfl,rfl⟩;by_cases hlt:i<s.length
 .have g1:(i:Int)<(s.length:Int):=amM;have g2:=ajn i amM;obtain⟨c,hc⟩:=ajl (s.getD i 0);have hm:c∈s:=(by rw[<- hc];simp[hlt]);have htk:s.take (i+1)=s.take i++[c]:=(by rw[ajN hlt,<- hc];simp[hlt]);have bad:=hid λ(e:jC c=false)=>no.o (List.all_eq_false.2 ⟨c,hm,by rw[e];simp⟩)
  have good:=hid λ(e:jC c=true)=>show(s.take (i+1)).all jC=true by rw[htk,List.all_append,hall.o];simp[e]
  clear hm htk
  repeat' first
   |refine cA ?_
   | (first|refine bG amO ?_|refine ba amO ?_|refine be ?_|refine dN ?_|refine cD (fun _=>?_)|refine aU ?_|refine bI ?_)
     refine sm ?_
   | (first|refine bC amO ?_|refine bz ?_|refine bd ?_|refine bH ?_|refine cI (aT ?_))
     refine sl ?_
   |exact cE
   |first|apply cF|apply bD|apply cG|apply bE|apply cH|apply bF
   |refine bh ?_
   |refine bc ?_
   |first|refine bf rfl ?_|refine bg rfl ?_|refine aI rfl ?_ ?_|refine bm rfl (λ_=>?_) (λ_=>?_)|refine bj rfl (λ_=>?_) (λ_=>?_)
   |((first|refine aG (λ_=>?_) (λ_=>?_)|refine aS (λ_=>?_) (λ_=>?_))<;>try refine sm ?_)
   |refine And.intro trivial ?_
   |refine And.intro amM ?_
   |refine br rfl (λ_=>?_) (λ_=>?_)
   |refine And.intro ?_ ?_
  rename_i hx;refine ac (bad.o ?_);simp only[jC,al7,decide_eq_false_iff_not];omega;rename_i hx;refine amR amM (CutL (b:=ajs _)) ⟨i+1,rfl,amM,hid (good.o ?_),rfl,rfl⟩;simp only[jC,ajv,decide_eq_true_eq];omega
 have hke:i=s.length:=amM;subst hke;have g1:¬(s.length:Int)<(s.length:Int):=amM;have hda:=hall.o;rw[ajL]at hda;have h':=h.o;rw[Km,hda,aj7,show decide (0<s.length)=decide ((0:Int)<(s.length:Int))by simp]at h';replace h':=hid h';clear hda;refine wk ?_;exact ac h'.o
def Xv(s:List UInt8):Nat:=s.foldl (λn c=>10*n+(c.toNat-48)) 0
theorem ag1(hs:s.length<=4)(hd:∀c∈s,jC c=true)(h:K (.int .i64 (Xv s:Nat)) L):ajp 190 [.str s] L K:=by
 replace h:=hid h;replace hd:=hid hd;refine ajo VG ?_;refine aq (λm T' L'=>∃(i n:Nat),m=s.length-i/\i<=s.length/\n<10^i/\Hid (n=Xv (s.take i))/\T'=[(4,.int .i64 (i:Int)),(3,.int .i64 (n:Int)),(0,.str s)]/\L=L') (CutS (b:=ajs _)) ⟨0,0,rfl,aju _,by decide,hid rfl,rfl,rfl⟩ ?_;rintro _ _ _ ⟨i,n,rfl,hi,hn,hI,rfl,rfl⟩;by_cases hlt:i<s.length;have g1:(i:Int)<(s.length:Int):=amM;have g2:=ajn i amM;obtain⟨c,hc⟩:=ajl (s.getD i 0);have hm:=hd.o c (by rw[<- hc];simp[hlt]);simp only[jC,ajv,decide_eq_true_eq]at hm;have htk:s.take (i+1)=s.take i++[c]:=by rw[ajN hlt,<- hc];simp[hlt]
 obtain⟨x,hx⟩:∃x:Nat,c.toNat=48+x:=⟨c.toNat-48,amM⟩;have hx9:x<=9:=amM;have hxi:(c.toNat:Int)=48+(x:Int):=amM;have hn4:n<1000:=by refine akK hn ?_;have:i=0\/i=1\/i=2\/i=3:=amM;rcases this with rfl|rfl|rfl|rfl<;>decide
 have hnx:Xv (s.take (i+1))=10*n+x:=by rw[htk,Xv,alS,<- Xv,<- hI.o];simp only[akm,al0];omega
 have w1:IntKind.u8.wrap (48+(x:Int)-48)=(x:Int):=by rw[cZ amM amM];omega
 have w2:IntKind.i64.wrap (x:Int)=(x:Int):=ae amM amM;have w3:IntKind.i64.wrap (10*(n:Int))=10*(n:Int):=ae amM amM;have w4:IntKind.i64.wrap (10*(n:Int)+(x:Int))=10*(n:Int)+(x:Int):=ae amM amM;have hnn:10*n+x<10^(i+1):=by rw[ami];omega
 replace hnx:=hid hnx;clear hm htk hx;refine wk ?_;exact amR amM (CutL (b:=ajs _)) ⟨i+1,10*n+x,rfl,amM,hnn,hid hnx.o.symm,rfl,rfl⟩;have hke:i=s.length:=amM;subst hke;have g1:¬(s.length:Int)<(s.length:Int):=amM;have e:=hI.o;rw[ajL]at e;have h':=h.o;rw[<- e]at h';replace h':=hid h';clear e hI;refine wk ?_;exact ac h'.o
abbrev aec:List UInt8:=[57,50,50,51,51,55,50,48,51,54,56,53,52,55,55,53,56,48,55]
abbrev aed:List UInt8:=[57,50,50,51,51,55,50,48,51,54,56,53,52,55,55,53,56,48,56]
def YM(w most:List UInt8):Bool:=Km w && !decide (w.getD 0 0=48)&&(decide (w.length<19) ||decide (w.length=19)&&(Op.bytesLess w most ||decide (w=most)))
def ad3(v:List UInt8):Bool:=if v=[48]then true else match v with
 |[]=>false
 |c::t=>if c=45 then YM t aed else YM (c::t) aec
theorem SV{w most:List UInt8}(hw:w.length<=1100000):YM w most=(if Km w=true then(!decide (w.getD 0 0=48)&&(decide (w.length<19) ||decide (w.length=19)&&(Op.bytesLess w most ||decide (w=most))))else false):=by unfold YM;cases Km w<;>rfl
theorem WD(hv:v.length<=1100000)(h:K (.bool (ad3 v)) L):ajp 139 [.str v] L K:=by
 unfold ad3 at h;refine aa Re (by simp[qn]) ?_;simp only[qn,am];by_cases h0:v=[48];rw[if_pos h0]at h;replace h:=hid h;refine wk ?_;exact ac h.o;rw[if_neg h0]at h;have dg:∀w:List UInt8,Km w=true->(0:Int)<(w.length:Int):=λw e=>by simp only[Km,ajv,decide_eq_true_eq]at e;omega
 rcases v with _|⟨c,t⟩;simp only at h;replace h:=hid h;have e0:Km []=false:=rfl;have e1:([]:List UInt8).length=0:=rfl;have kk1:=@amT _ _ _ _ (eV hv);refine wk ?_;exact ac h.o;simp only at h;have hl:(c::t).length=t.length+1:=rfl;have hc0:(c::t).getD 0 0=c:=rfl;have hd1:(c::t).drop 1=t:=rfl;simp only[ajz]at hv;have htl:t.length<=1100000:=amM;have q7:t.take (((t.length:Int)+1).toNat-1)=t:=by rw[show((t.length:Int)+1).toNat-1=t.length by omega,ajL]
 have q8:(0:Int)<(t.length:Int)+1:=amM;by_cases h45:c=45
 .rw[if_pos h45,SV htl]at h;subst h45;have k1:((45:UInt8).toNat:Int)=45:=rfl;cases hd:Km t with
  | false =>
    rw[hd,if_neg amN]at h;replace h:=hid h;have kk1:=@amT _ _ _ _ (eV htl);refine wk ?_;exact ac h.o
  | true =>
    rw[hd,if_pos rfl]at h;obtain⟨x,hx⟩:=ajl (t.getD 0 0);rw[hx,show decide (x=48)=decide ((x.toNat:Int)=48)by rw[decide_eq_decide];exact(bv x 48).symm,show decide (t.length<19)=decide ((t.length:Int)<19)by simp;omega,show decide (t.length=19)=decide ((t.length:Int)=19)by rw[decide_eq_decide];omega]at h;replace h:=hid h;have g1:=dg t hd
    repeat' first
     |refine cA ?_
     | (first|refine bG amO ?_|refine ba amO ?_|refine be ?_|refine dN ?_|refine cD (fun _=>?_)|refine aU ?_|refine bI ?_|refine eV htl ?_|refine bQ (eV htl ⟨rfl,rfl⟩) (eV htl ⟨rfl,rfl⟩) ?_|refine bi (eV htl ⟨rfl,rfl⟩) ?_)
       refine sm ?_
     | (first|refine bC amO ?_|refine bz ?_|refine bd ?_|refine bH ?_|refine cI (aT ?_))
       refine sl ?_
     |exact cE
     |first|apply cF|apply bD|apply cG|apply bE|apply cH|apply bF
     |refine bh ?_
     |refine bc ?_
     |first|refine bf rfl ?_|refine bg rfl ?_|refine aI rfl ?_ ?_|refine bm rfl (λ_=>?_) (λ_=>?_)|refine bj rfl (λ_=>?_) (λ_=>?_)
     |((first|refine aG (λ_=>?_) (λ_=>?_)|refine aS (λ_=>?_) (λ_=>?_))<;>try refine sm ?_)
     |refine And.intro trivial ?_
     |refine And.intro amM ?_
     |refine br rfl (λ_=>?_) (λ_=>?_)
     |refine And.intro ?_ ?_
    exact ac h.o
 .rw[if_neg h45,SV (by simp;omega)]at h;have k1:¬(c.toNat:Int)=45:=λe=>h45 ((bv c 45).1 e)
  obtain⟨v,hv2⟩:=ajl (c::t);rw[hv2]at h hl hc0 h0⊢;have hvl:v.length<=1100000:=amM;have g0:(0:Int)<(v.length:Int):=amM;replace hv2:=hid hv2;clear hd1 hl q7 q8;cases hd:Km v with
  | false =>
    rw[hd,if_neg amN]at h;replace h:=hid h;have kk1:=@amT _ _ _ _ (eV hvl);refine wk ?_;exact ac h.o
  | true =>
    rw[hd,if_pos rfl]at h;rw[hc0,show decide (c=48)=decide ((c.toNat:Int)=48)by rw[decide_eq_decide];exact(bv c 48).symm,show decide (v.length<19)=decide ((v.length:Int)<19)by simp;omega,show decide (v.length=19)=decide ((v.length:Int)=19)by rw[decide_eq_decide];omega]at h;replace h:=hid h
    repeat' first
     |refine cA ?_
     | (first|refine bG amO ?_|refine ba amO ?_|refine be ?_|refine dN ?_|refine cD (fun _=>?_)|refine aU ?_|refine bI ?_|refine eV hvl ?_|refine bQ (eV hvl ⟨rfl,rfl⟩) (eV hvl ⟨rfl,rfl⟩) ?_|refine bi (eV hvl ⟨rfl,rfl⟩) ?_)
       refine sm ?_
     | (first|refine bC amO ?_|refine bz ?_|refine bd ?_|refine bH ?_|refine cI (aT ?_))
       refine sl ?_
     |exact cE
     |first|apply cF|apply bD|apply cG|apply bE|apply cH|apply bF
     |refine bh ?_
     |refine bc ?_
     |first|refine bf rfl ?_|refine bg rfl ?_|refine aI rfl ?_ ?_|refine bm rfl (λ_=>?_) (λ_=>?_)|refine bj rfl (λ_=>?_) (λ_=>?_)
     |((first|refine aG (λ_=>?_) (λ_=>?_)|refine aS (λ_=>?_) (λ_=>?_))<;>try refine sm ?_)
     |refine And.intro trivial ?_
     |refine And.intro amM ?_
     |refine br rfl (λ_=>?_) (λ_=>?_)
     |refine And.intro ?_ ?_
    exact ac h.o
def dW(n:Nat)(s:List UInt8):Nat:=s.foldl (λn c=>10*n+(c.toNat-48)) n
theorem T9(h:jC c=true):∃d,d<=9/\c.toNat=48+d:=by simp only[jC,ajv,decide_eq_true_eq]at h;exact⟨c.toNat-48,amM,amM⟩
theorem xo:∀(s:List UInt8) (n:Nat),dW n s=n*10^s.length+dW 0 s
 |[],n=>by simp[dW]
 |c::s,n=>by have h1:=xo s (10*n+(c.toNat-48));have h2:=xo s (10*0+(c.toNat-48));simp only[dW,akm]at h1 h2⊢;rw[h1,h2,ajz,ami];rw[Nat.mul_zero,akw,akt,Nat.mul_comm (10^s.length) 10,<- Nat.mul_assoc,Nat.mul_comm n 10];omega
theorem Jm:∀(s:List UInt8),(∀c∈s,jC c=true)->dW 0 s<10^s.length
 |[],_=>by simp[dW]
 | c::s,h=>by
   have ih:=Jm s λd hd=>h d (alb _ hd)
   obtain⟨d,hd,hc⟩:=T9 (h c amN);have e:=xo s (10*0+(c.toNat-48));simp only[dW,akm]at e ih⊢;rw[e,ajz,ami,hc];have:(10*0+(48+d-48))*10^s.length<=9*10^s.length:=akC _ amM;omega
theorem Ry:∀(a b:List UInt8),(∀c∈a,jC c=true)->(∀c∈b,jC c=true)->a.length=b.length->(a<b↔dW 0 a<dW 0 b)
 |[],[],_,_,_=>by simp[dW]
 |[],_::_,_,_,h=>by simp at h
 |_::_,[],_,_,h=>by simp at h
 | x::a,y::b,ha,hb,hl=>by
   simp only[ajz,Nat.add_right_cancel_iff]at hl;have ha':=λc hc=>ha c (alb _ hc)
   have hb':=λc hc=>hb c (alb _ hc)
   have ih:=Ry a b ha' hb' hl;have la:=Jm a ha';have lb:=Jm b hb';obtain⟨d,hd,hx⟩:=T9 (ha x amN);obtain⟨e,he,hy⟩:=T9 (hb y amN);have ea:dW 0 (x::a)=d*10^a.length+dW 0 a:=by have:=xo a (10*0+(x.toNat-48));rw[hx,show 10*0+(48+d-48)=d by omega]at this;rw[<- this];simp only[dW,akm,hx];congr 1;omega
   have eb:dW 0 (y::b)=e*10^b.length+dW 0 b:=by have:=xo b (10*0+(y.toNat-48));rw[hy,show 10*0+(48+e-48)=e by omega]at this;rw[<- this];simp only[dW,akm,hy];congr 1;omega
   rw[ea,eb,List.cons_lt_cons_iff,ih,hl];rw[hl]at la;have hxy:x<y↔d<e:=by show x.toNat<y.toNat↔_;omega
   have hxe:x=y↔d=e:=(by rw[<- alp];omega);rw[hxy,hxe];obtain⟨p,hp⟩:=ajl (10^b.length);rw[hp]at la lb⊢;rcases alO d e with h|h|h
   .have:(d+1)*p<=e*p:=akC _ h;rw[akt]at this;constructor
    .intro _;omega
    .intro _;exact .inl h
   .subst h;constructor
    .rintro(h|⟨_,h⟩)
     .omega
     .omega
    .intro h;exact .inr ⟨rfl,amM⟩
   .have:(e+1)*p<=d*p:=akC _ h;rw[akt]at this;constructor
    .rintro(h|⟨h,_⟩)<;>omega
    .intro h;omega
theorem agw:∀u:Nat,dW 0 (Lib.decDigits u)=u/\(∀c∈Lib.decDigits u,jC c=true)/\u<10^(Lib.decDigits u).length/\(1<=u->10^((Lib.decDigits u).length-1)<=u):=by
 intro u;induction u using Nat.strongRecOn with
 | _ u ih =>
   by_cases h10:u<10
   .have hd:(UInt8.ofNat (48+u)).toNat=48+u:=u8n amM;rw[Lib.decDigits,dif_pos h10];refine⟨?_,?_,?_,?_⟩
    .simp only[dW,akm,al0,hd];omega
    .intro c hc;rw[ajI.1 hc];simp only[jC,hd,ajv,decide_eq_true_eq];omega
    .simpa using h10
    .intro h;simpa using h
   .obtain⟨i1,i2,i3,i4⟩:=ih (u/10) amM;have hd:(UInt8.ofNat (48+u%10)).toNat=48+u%10:=u8n amM;rw[Lib.decDigits,dif_neg h10];refine⟨?_,?_,?_,?_⟩
    .unfold dW at i1⊢;rw[alS,i1];simp only[akm,al0,hd];omega
    .intro c hc;rcases ajx.1 hc with h|h
     .exact i2 c h
     .rw[ajI.1 h];simp only[jC,hd,ajv,decide_eq_true_eq];omega
    .rw[ajA,amA,ami];omega
    .intro _;have:=i4 amM;rw[ajA,amA,Nat.add_sub_cancel];obtain⟨c,r,e,_⟩:=xD (u/10);have hl:1<=(Lib.decDigits (u/10)).length:=(by rw[e];simp);obtain⟨k,hk⟩:∃k,(Lib.decDigits (u/10)).length=k+1:=⟨(Lib.decDigits (u/10)).length-1,amM⟩;rw[hk]at this⊢;rw[Nat.add_sub_cancel]at this;rw[ami];omega
theorem ahQ:∀(n:Nat) (w:List UInt8),w.length=n->(∀c∈w,jC c=true)->w≠[]->w.getD 0 0≠48->1<=dW 0 w/\Lib.decDigits (dW 0 w)=w:=by
 intro n;induction n with
 |zero=>intro w hl _ hne;exact absurd (aj4.1 hl) hne
 | succ n ih =>
   intro w hl hd hne h48;obtain⟨t,c,rfl⟩:∃t c,w=t++[c]:=⟨w.dropLast,w.getLast hne,(List.dropLast_concat_getLast hne).symm⟩;obtain⟨d,hd9,hc⟩:=T9 (hd c amN);have hcc:UInt8.ofNat (48+d)=c:=(by rw[<- hc];simp);have ev:dW 0 (t++[c])=10*dW 0 t+d:=by simp only[dW,alS,akm,al0,hc];omega
   rcases t with _|⟨x,t⟩
   .have:d≠0:=λe=>h48 (by simp only[aj0,alg];exact alp.1 (by rw[hc,e];rfl))
    have e0:dW 0 ([]:List UInt8)=0:=rfl;rw[ev,e0];refine⟨amM,?_⟩;rw[Lib.decDigits,dif_pos amM,show 48+(10*0+d)=48+d by omega,hcc];rfl
   .obtain⟨j1,j2⟩:=ih (x::t) (by simpa using hl) (λc hc=>hd c (ako _ hc)) amN (by simpa using h48);rw[ev];refine⟨amM,?_⟩;rw[Lib.decDigits,dif_neg amM,show(10*dW 0 (x::t)+d)/10=dW 0 (x::t)by omega,show(10*dW 0 (x::t)+d)%10=d by omega,j2,hcc]
theorem YL{w most:List UInt8}{M:Nat}(hm:dW 0 most=M)(hml:most.length=19)(hmd:∀c∈most,jC c=true)(hM:10^18<=M):YM w most=true↔∃u,1<=u/\u<=M/\w=Lib.decDigits u:=by
 have hM19:M<10^19:=by rw[<- hm,<- hml];exact Jm most hmd
 have le19:∀w:List UInt8,(∀c∈w,jC c=true)->w.length=19->((Op.bytesLess w most ||decide (w=most))=true↔dW 0 w<=M):=λw hw hl=>by rw[bytesLess_eq];simp only[akc,decide_eq_true_eq];have h1:=Ry w most hw hmd (by rw[hl,hml]);have h2:=Ry most w hmd hw (by rw[hl,hml]);rw[hm]at h1 h2;rw[h1];constructor;rintro(h|rfl);omega;omega;intro h;rcases ajT (dW 0 w) M with h3|h3;exact .inl h3;refine .inr (amq (akR.1 λh4=>?_) (akR.1 λh4=>?_));have:=h2.1 h4;omega;have:=h1.1 h4;omega
 unfold YM Km;simp only[ajv,akc,akb,decide_eq_false_iff_not,decide_eq_true_eq,ajE];constructor;rintro⟨⟨⟨hd,hpos⟩,h48⟩,hlen⟩;obtain⟨h1,h2⟩:=ahQ _ w rfl hd (by rintro rfl;simp at hpos) h48;refine⟨dW 0 w,h1,?_,h2.symm⟩;rcases hlen with hlt|⟨heq,hle⟩;have:=Jm w hd;have h3:10^w.length<=10^18:=Nat.pow_le_pow_right (by decide) amM;omega;have:=(le19 w hd heq).1 (by simpa using hle);exact this;rintro⟨u,h1,h2,rfl⟩;obtain⟨k1,k2,k3,k4⟩:=agw u;obtain⟨c,r,e,c1,c2,c3⟩:=xD u;have hl19:(Lib.decDigits u).length<=19:=by rcases ajT 19 (Lib.decDigits u).length with h|h;have h5:=k4 h1;have h6:10^19<=10^((Lib.decDigits u).length-1):=Nat.pow_le_pow_right (by decide) amM;omega;exact h
 refine⟨⟨⟨k2,by rw[e];simp⟩,?_⟩,?_⟩;rw[e];simp only[alg];intro h;have:=c3 (by rw[h];rfl);omega;rcases ajT (Lib.decDigits u).length 19 with h|h;exact .inl h;have hl:(Lib.decDigits u).length=19:=amM;refine .inr ⟨hl,?_⟩;have:=(le19 _ k2 hl).2 (by rw[k1];exact h2);simpa using this
theorem Z5(w:List UInt8):YM w aec=true↔∃u,1<=u/\u<=9223372036854775807/\w=Lib.decDigits u:=YL (by decide) (by decide) (by decide) (by decide)
theorem Z6(w:List UInt8):YM w aed=true↔∃u,1<=u/\u<=9223372036854775808/\w=Lib.decDigits u:=YL (by decide) (by decide) (by decide) (by decide)
theorem ad2(v:List UInt8):ad3 v=true↔∃m,I64 m/\Lib.itoa m=v:=by
 unfold ad3;by_cases h0:v=[48];rw[if_pos h0];refine⟨λ_=>⟨0,by unfold I64;omega,?_⟩,λ_=>rfl⟩;rw[h0,Lib.itoa,if_neg (by decide),Lib.decDigits,dif_pos (by decide)];rfl;rw[if_neg h0];have hz:Lib.itoa 0=[48]:=by rw[Lib.itoa,if_neg (by decide),Lib.decDigits,dif_pos (by decide)];rfl
 rcases v with _|⟨c,t⟩;simp only[ajK,false_iff];rintro⟨m,_,e⟩;obtain⟨c,r,e',_⟩:=acn m;rw[e']at e;cases e;simp only;by_cases h45:c=45;rw[if_pos h45,Z6];subst h45;constructor;rintro⟨u,h1,h2,rfl⟩;refine⟨-(u:Int),by unfold I64;omega,?_⟩;rw[Lib.itoa,if_pos amM,show(-(u:Int)).natAbs=u by omega];rintro⟨m,hm,e⟩;unfold I64 at hm;by_cases hneg:m<0;rw[Lib.itoa,if_pos hneg]at e;exact⟨m.natAbs,amM,amM,(List.cons.inj e).2.symm⟩;rw[Lib.itoa,if_neg hneg]at e;obtain⟨c,r,e',c1,c2,_⟩:=xD m.toNat;rw[e']at e;have:=(List.cons.inj e).1;rw[this]at c1;exact absurd c1 (by decide);rw[if_neg h45,Z5];constructor;rintro⟨u,h1,h2,e⟩;refine⟨(u:Int),by unfold I64;omega,?_⟩;rw[e,Lib.itoa,if_neg amM];congr 1;rintro⟨m,hm,e⟩;unfold I64 at hm;by_cases hneg:m<0;rw[Lib.itoa,if_pos hneg]at e;exact absurd (List.cons.inj e).1.symm h45;have hm0:m≠0:=λe0=>h0 (by rw[<- e,e0,hz])
 rw[Lib.itoa,if_neg hneg]at e;exact⟨m.toNat,amM,amM,e.symm⟩
theorem acf(v:List UInt8):UN v=true↔∃m,I64 m/\Lib.itoa m=v:=by constructor;intro h;unfold UN at h;split at h;rename_i n hn;exact⟨n,YG hn,by simpa using h⟩;cases h;rintro⟨m,hm,rfl⟩;exact(ad1 hm).1
theorem ahA(v:List UInt8):ad3 v=UN v:=by exact ak8.2 ((ad2 v).trans (acf v).symm)
theorem ajc(h:i+2<=v.length):Xv ((v.drop i).take 2)=two v i:=by
 have e:(v.drop i).take 2=[v.getD i 0,v.getD (i+1) 0]:=by rw[jY (show i<v.length by omega),jY (show i+1<v.length by omega)];rfl
 rw[e];simp only[Xv,two,dig,akm,al0];omega
theorem ajb(h:4<=v.length):Xv (v.take 4)=two v 0*100+two v 2:=by
 have e:v.take 4=[v.getD 0 0,v.getD 1 0,v.getD 2 0,v.getD 3 0]:=by have:=jY (show 0<v.length by omega);rw[alB]at this;rw[this,jY (show 0+1<v.length by omega),jY (show 0+1+1<v.length by omega),jY (show 0+1+1+1<v.length by omega)];rfl
 rw[e];simp only[Xv,two,dig,akm,al0,akw,Nat.reduceAdd];omega
theorem WE(hv:v.length<=1100000)(h:K (.bool (Xy v)) L):ajp 141 [.str v] L K:=by
 have no:Xy v=false->K (.bool false) L:=λe=>by rw[<- e];exact h
 replace no:=hid no;replace h:=hid h;refine aa Rf (by simp[qo]) ?_;simp only[qo,am];by_cases h15:v.length=15;rotate_left;have f1:¬(v.length:Int)=15:=amM;have h':=hid (no.o (by simp[Xy,h15]));clear h15;refine wk ?_;exact ac h'.o;have f1:(v.length:Int)=15:=amM;obtain⟨w,hw⟩:=ajl (v.take 14);have hwl:w.length=14:=by rw[<- hw];simp[h15]
 have hwl2:w.length<=1100000:=amM;cases hda:w.all jC with
 | false =>
   have h':=hid (no.o (by simp[Xy,hw,hda]));have hds:Km w=false:=(by simp[Km,hda]);clear hwl h15;have kk1:=@amT _ _ _ _ (eV hwl2);refine wk ?_;exact ac h'.o
 |true =>
 have hds:Km w=true:=by simp[Km,hda,hwl]
 obtain⟨z,hz⟩:=ajl (v.getD 14 0);by_cases h90:z=90;rotate_left;have f2:¬(z.toNat:Int)=90:=λe=>h90 ((bv z 90).1 e)
 have h':=hid (no.o (by simp[Xy,<- hz]at h90⊢;simp[h90]));clear h90 hwl h15;have kk1:=@amT _ _ _ _ (eV hwl2);refine wk ?_;exact ac h'.o;have f2:(z.toNat:Int)=90:=by rw[h90];rfl
 have hdv:∀i,i<14->jC (v.getD i 0)=true:=λi hi=>by refine ajE.1 hda _ ?_;rw[<- hw];have:v.getD i 0=(v.take 14)[i]'(by simp;omega):=(by simp[show i<v.length by omega]);rw[this];exact aky _
 have hmem:∀(i n:Nat),i+n<=14->∀c∈(v.drop i).take n,jC c=true:=λi n hin c hc=>by obtain⟨j,hj,rfl⟩:=akk.1 hc;simp only[akH,akQ]at hj;rw[al8,amp];have:=hdv (i+j) amM;rwa[show v.getD (i+j) 0=v[i+j]by simp[show i+j<v.length by omega]]at this
 have hdate:Xy v=aeP v:=by simp only[Xy,h15,hz,h90,hw,hda];simp
 have ct:∀i:Nat,i+2<=14->∀(K:AV->List Blk->Prop),K (.int .i64 (two v i:Nat)) L->ajp 190 [.str ((v.drop i).take 2)] L K:=λi hi K h =>
  ag1 (by simp;omega) (hmem i 2 hi) (by rw[ajc amM];exact h)
 have c4:∀(K:AV->List Blk->Prop),K (.int .i64 ((two v 0*100+two v 2:Nat):Int)) L->ajp 190 [.str (v.take 4)] L K:=λK h =>
  ag1 (by simp;omega) (by have:=hmem 0 4 amM;rwa[alB]at this) (by rw[ajb amM];exact h)
 have b0:=N0 (hdv 0 amM) (hdv 1 amM);have b2:=N0 (hdv 2 amM) (hdv 3 amM);have b4:=N0 (hdv 4 amM) (hdv 5 amM);have b6:=N0 (hdv 6 amM) (hdv 7 amM);have b8:=N0 (hdv 8 amM) (hdv 9 amM);have b10:=N0 (hdv 10 amM) (hdv 11 amM);have b12:=N0 (hdv 12 amM) (hdv 13 amM);have kk1:=@hid _ (λ{K:ajq}=>c4 K);have kk3:=@hid _ (λ{K:ajq}=>ct 4 amM K);have kk4:=@hid _ (λ{K:ajq}=>ct 6 amM K);have kk5:=@hid _ (λ{K:ajq}=>ct 8 amM K);have kk6:=@hid _ (λ{K:ajq}=>ct 10 amM K);have kk7:=@hid _ (λ{K:ajq}=>ct 12 amM K);have kk2:=@hid _ (λ{K:ajq}=>@eV w hwl2 L K);have hfin:=h.o;rw[hdate]at hfin;unfold aeP at hfin;obtain⟨Y,hY⟩:=ajl (two v 0*100+two v 2);obtain⟨M,hM⟩:=ajl (two v 4);obtain⟨D,hD⟩:=ajl (two v 6);obtain⟨H,hH⟩:=ajl (two v 8);obtain⟨I,hI⟩:=ajl (two v 10);obtain⟨S,hS⟩:=ajl (two v 12);have hYb:Y<=9999:=amM;rw[hY]at hfin kk1;rw[hM]at b4 hfin kk3;rw[hD]at b6 hfin kk4;rw[hH]at b8 hfin kk5;rw[hI]at b10 hfin kk6;rw[hS]at b12 hfin kk7;clear hY hM hD hH hI hS ct c4 hdate hdv hda h15 hwl hv h90 no h hmem b0 b2;have hbad:¬((1<=M/\M<=12)/\1<=D/\H<=23/\I<=59/\S<=59)->K (.bool false) L:=λe=>by rw[decide_eq_false e]at hfin;simpa using hfin
 replace hbad:=hid hbad;replace hfin:=hid hfin;by_cases m1:(M:Int)<1;refine wk ?_;exact ac (hbad.o amM);by_cases m2:(12:Int)<(M:Int);refine wk ?_;exact ac (hbad.o amM);by_cases m3:(D:Int)<1;refine wk ?_;exact ac (hbad.o amM);by_cases m4:(23:Int)<(H:Int);refine wk ?_;exact ac (hbad.o amM);by_cases m5:(59:Int)<(I:Int);refine wk ?_;exact ac (hbad.o amM);by_cases m6:(59:Int)<(S:Int);refine wk ?_;exact ac (hbad.o amM);have hfin2:=hfin.o;rw[show decide ((1<=M/\M<=12)/\1<=D/\H<=23/\I<=59/\S<=59)=true by simp;omega,aj7]at hfin2;unfold ag3 ag5 at hfin2;obtain⟨r4,hr4⟩:=ajl (Y%4);obtain⟨r100,hr100⟩:=ajl (Y%100);obtain⟨r400,hr400⟩:=ajl (Y%400);rw[hr4,hr100,hr400]at hfin2;have t4:Int.tmod (Y:Int) 4=(r4:Int):=by rw[amo amM];omega
 have t100:Int.tmod (Y:Int) 100=(r100:Int):=by rw[amo amM];omega
 have t400:Int.tmod (Y:Int) 400=(r400:Int):=by rw[amo amM];omega
 replace hfin2:=hid hfin2;clear hr4 hr100 hr400;have days:∀d:Nat,(if M=2/\(decide (r4=0) && !decide (r100=0) ||decide (r400=0))=true then acK M+1 else acK M)=d->K (.bool (decide ((D:Int)<=(d:Int)))) L:=λd e=>by have:=hfin2.o;rw[e]at this;rwa[show decide (D<=d)=decide ((D:Int)<=(d:Int))by simp only[decide_eq_decide];omega]at this
 replace days:=hid days;by_cases q2:(M:Int)=2
 .have e2:M=2:=amM;subst e2
  repeat' first
   |refine cA ?_
   | (first|refine bG amO ?_|refine ba amO ?_|refine be ?_|refine dN ?_|refine cD (fun _=>?_)|refine aU ?_|refine bI ?_|refine kk1.o ?_|refine kk2.o ?_|refine kk3.o ?_|refine kk4.o ?_|refine kk5.o ?_|refine kk6.o ?_|refine kk7.o ?_|refine bQ (kk1.o ⟨rfl,rfl⟩) (kk1.o ⟨rfl,rfl⟩) ?_|refine bQ (kk2.o ⟨rfl,rfl⟩) (kk2.o ⟨rfl,rfl⟩) ?_|refine bQ (kk3.o ⟨rfl,rfl⟩) (kk3.o ⟨rfl,rfl⟩) ?_|refine bQ (kk4.o ⟨rfl,rfl⟩) (kk4.o ⟨rfl,rfl⟩) ?_|refine bQ (kk5.o ⟨rfl,rfl⟩) (kk5.o ⟨rfl,rfl⟩) ?_|refine bQ (kk6.o ⟨rfl,rfl⟩) (kk6.o ⟨rfl,rfl⟩) ?_|refine bQ (kk7.o ⟨rfl,rfl⟩) (kk7.o ⟨rfl,rfl⟩) ?_|refine bi (kk1.o ⟨rfl,rfl⟩) ?_|refine bi (kk2.o ⟨rfl,rfl⟩) ?_|refine bi (kk3.o ⟨rfl,rfl⟩) ?_|refine bi (kk4.o ⟨rfl,rfl⟩) ?_|refine bi (kk5.o ⟨rfl,rfl⟩) ?_|refine bi (kk6.o ⟨rfl,rfl⟩) ?_|refine bi (kk7.o ⟨rfl,rfl⟩) ?_)
     refine sm ?_
   | (first|refine bC amO ?_|refine bz ?_|refine bd ?_|refine bH ?_|refine cI (aT ?_))
     refine sl ?_
   |exact cE
   |first|apply cF|apply bD|apply cG|apply bE|apply cH|apply bF
   |refine bh ?_
   |refine bc ?_
   |first|refine bf rfl ?_|refine bg rfl ?_|refine aI rfl ?_ ?_|refine bm rfl (λ_=>?_) (λ_=>?_)|refine bj rfl (λ_=>?_) (λ_=>?_)
   |((first|refine aG (λ_=>?_) (λ_=>?_)|refine aS (λ_=>?_) (λ_=>?_))<;>try refine sm ?_)
   |refine And.intro trivial ?_
   |refine And.intro amM ?_
   |refine br rfl (λ_=>?_) (λ_=>?_)
   |refine And.intro ?_ ?_
  rename_i hx;exact ac (days.o 29 (by rw[if_pos ⟨rfl,by simp;omega⟩];rfl));rename_i hx;exact ac (days.o 28 (by rw[if_neg (λ⟨_,e⟩=>hx (by simp at e;omega))];rfl))
 by_cases q30:M=4\/M=6\/M=9\/M=11;have d30:=hid (days.o 30 (by unfold acK;rw[if_neg amM,if_neg amM,if_pos amM]));rcases q30 with e|e|e|e;have p1:(M:Int)=4:=amM;clear e;refine wk ?_;exact ac d30.o;have p1:(M:Int)=6:=amM;clear e;refine wk ?_;exact ac d30.o;have p1:(M:Int)=9:=amM;clear e;refine wk ?_;exact ac d30.o;have p1:(M:Int)=11:=amM;clear e;refine wk ?_;exact ac d30.o;have d31:=hid (days.o 31 (by unfold acK;rw[if_neg amM,if_neg amM,if_neg amM]));have p1:¬(M:Int)=4:=amM;have p2:¬(M:Int)=6:=amM;have p3:¬(M:Int)=9:=amM;have p4:¬(M:Int)=11:=amM;clear q30;refine wk ?_;exact ac d31.o
theorem R8{syn:Int}(h:K (YN (sX syn v)) L):ajp 92 [.int .i64 syn,.str v] L K:=by
 unfold sX at h;refine aa TB (by simp[yj]) ?_;simp only[yj,am];by_cases hl:4096<v.length;have f1:(4096:Int)<(v.length:Int):=amM;rw[if_pos hl]at h;replace h:=hid h;clear hl;refine wk ?_;exact ac h.o;have f1:¬(4096:Int)<(v.length:Int):=amM;rw[if_neg hl]at h;have vl1:v.length<=1100000:=amM;have vl2:(v.length:Int)<=100000:=amM;have hu:=Wt v.length v (ajs _);have hnu:=ahA v;unfold ag2 at h;clear hl;by_cases s1:syn=1;subst s1;rw[if_pos rfl]at h;by_cases hv:v=[];rw[if_pos hv]at h;replace h:=hid h;subst hv;have e0:([]:List UInt8).length=0:=rfl;refine wk ?_;exact ac h.o;rw[if_neg hv]at h;have f2:(0:Int)<(v.length:Int):=by have:=akh.2 hv;omega
 cases hd:Lib.validD v with
 | true =>
   rw[hd,if_pos rfl]at h;replace h:=hid h;rw[hd]at hu;have kk1:=@amT _ _ _ _ (xO vl2);have kk2:=@amT _ _ _ _ (aaY vl1);refine wk ?_;exact ac h.o
 | false =>
   rw[hd,if_neg amN]at h;replace h:=hid h;rw[hd]at hu;have kk1:=@amT _ _ _ _ (xO vl2);have kk2:=@amT _ _ _ _ (aaY vl1);refine wk ?_;exact ac h.o
 rw[if_neg s1]at h;by_cases s2:syn=2;subst s2;rw[if_pos rfl]at h;by_cases hv:v=[];rw[if_pos hv]at h;replace h:=hid h;subst hv;have e0:([]:List UInt8).length=0:=rfl;refine wk ?_;exact ac h.o;rw[if_neg hv]at h;have f2:(0:Int)<(v.length:Int):=by have:=akh.2 hv;omega
 cases hd:Lib.validD v with
 | true =>
   rw[hd,if_pos rfl]at h;replace h:=hid h;rw[hd]at hu;have kk1:=@amT _ _ _ _ (aaY vl1);refine wk ?_;exact ac h.o
 | false =>
   rw[hd,if_neg amN]at h;replace h:=hid h;rw[hd]at hu;have kk1:=@amT _ _ _ _ (aaY vl1);refine wk ?_;exact ac h.o
 rw[if_neg s2]at h;by_cases s3:syn=3;subst s3;rw[if_pos rfl]at h;replace h:=hid h;clear hu hnu;refine wk ?_;refine aq (λn T' L'=>∃i:Nat,n=v.length-i/\i<=v.length/\Hid (ae3 (v.take i)=true)/\T'=[(6,.int .i64 (i:Int)),(1,.str v),(12,.int .i64 3)]/\L=L') (CutS (b:=ajs _)) ⟨0,rfl,aju _,hid rfl,rfl,rfl⟩ ?_;rintro _ _ _ ⟨i,rfl,hi,hall,rfl,rfl⟩;by_cases hlt:i<v.length;have g1:(i:Int)<(v.length:Int):=amM;have g2:=ajn i amM;obtain⟨c,hc⟩:=ajl (v.getD i 0);have htk:v.take (i+1)=v.take i++[c]:=by rw[ajN hlt,<- hc];simp[hlt]
 have hm:c∈v:=by rw[<- hc];simp[hlt]
 by_cases ha:c.toNat<128;have f2:¬(128:Int)<=(c.toNat:Int):=amM;have hnext:ae3 (v.take (i+1))=true:=by have:=hall.o;unfold ae3 at this⊢;rw[htk,List.all_append,this];simp[ha]
 replace hnext:=hid hnext;clear ha htk hm;refine wk ?_;exact amR amM (CutL (b:=ajs _)) ⟨i+1,rfl,hlt,hnext,rfl,rfl⟩;have f2:(128:Int)<=(c.toNat:Int):=amM;have hbad:ae3 v=false:=by rw[<- alq];intro e;have:=ajE.1 e c hm;simp at this;omega
 have h':=h.o;rw[hbad,if_neg amN]at h';replace h':=hid h';clear ha htk hm hbad;refine wk ?_;exact ac h'.o;have hke:i=v.length:=amM;subst hke;have g1:¬(v.length:Int)<(v.length:Int):=amM;have e:=hall.o;rw[ajL]at e;have h':=h.o;rw[e,if_pos rfl]at h';replace h':=hid h';clear e;have kk1:=@amT _ _ _ _ (xO vl2);refine wk ?_;exact ac h'.o;rw[if_neg s3]at h;by_cases s4:syn=4;subst s4;rw[if_pos rfl]at h;cases hd:UN v with
 | true =>
   rw[hd,if_pos rfl]at h;replace h:=hid h;rw[hd]at hnu;have kk1:=@amT _ _ _ _ (WD vl1);refine wk ?_;exact ac h.o
 | false =>
   rw[hd,if_neg amN]at h;replace h:=hid h;rw[hd]at hnu;have kk1:=@amT _ _ _ _ (WD vl1);refine wk ?_;exact ac h.o
 rw[if_neg s4]at h;by_cases s5:syn=5;subst s5;rw[if_pos rfl]at h;clear hu hnu;by_cases t1:v=ahb;rw[if_pos (.inl t1)]at h;replace h:=hid h;subst t1;refine wk ?_;exact ac h.o;by_cases t2:v=afj;rw[if_pos (.inr t2)]at h;replace h:=hid h;subst t2;have t3:¬([70,65,76,83,69]:List UInt8)=[84,82,85,69]:=by decide
 clear t1;refine wk ?_;exact ac h.o;rw[if_neg (λe=>e.elim t1 t2)]at h;replace h:=hid h;refine wk ?_;exact ac h.o;rw[if_neg s5]at h;clear hu hnu;by_cases s6:syn=6;subst s6;rw[if_pos rfl]at h;obtain⟨⟨k,e⟩,hk⟩:∃p,aei v=p:=⟨_,rfl⟩;rw[hk]at h;simp only at h;by_cases he:e=0;subst he;rw[if_pos rfl]at h;replace h:=hid h;refine wk ?_;refine adM ?_;rw[hk];simp only[iQ];refine amU ?_;exact ac h.o;rw[if_neg he]at h;replace h:=hid h;refine wk ?_;refine adM ?_;rw[hk];simp only[iQ];refine amU ?_;exact ac h.o;rw[if_neg s6]at h;by_cases s7:syn=7;subst s7;rw[if_pos rfl]at h;replace h:=hid h;refine wk ?_;exact ac h.o;rw[if_neg s7]at h;by_cases s8:syn=8;subst s8;rw[if_pos rfl]at h;cases hd:Xy v with
 | true =>
   rw[hd,if_pos rfl]at h;replace h:=hid h;have kk1:=@amT _ _ _ _ (WE vl1);refine wk ?_;exact ac h.o
 | false =>
   rw[hd,if_neg amN]at h;replace h:=hid h;have kk1:=@amT _ _ _ _ (WE vl1);refine wk ?_;exact ac h.o
 rw[if_neg s8]at h;replace h:=hid h;refine wk ?_;exact ac h.o
theorem aaX(v:List UInt8)(rest:List UInt8)(hr:rest=[]\/∃c t,rest=c::t/\(c=44\/c=43)):∀(s b:List UInt8) (bl:Bool),b++s=v->(s=[]->bl=false)->gH b bl (wrL v.length b.length s++rest)=some (v,rest,true)
 | [],b,bl,e,h=>by
   rw[aj6]at e;subst e;simp only[wrL,aj0];rw[h rfl];rcases hr with rfl|⟨c,t,rfl,hc⟩
   .exact kI
   .exact oM hc
 | c::s,b,bl,e,h=>by
   have ih:=λbl' (h':s=[]->bl'=false)=>aaX v rest hr s (b++[c]) bl' (by rw[<- e];simp) h'
   have hbl:(b++[c]).length=b.length+1:=amN;rw[hbl]at ih;have hvl:v.length=b.length+s.length+1:=(by rw[<- e];simp;omega);rw[wrL,ajD];unfold wrB;split
   .rename_i hc;subst hc;show gH b bl (92::48::48::(wrL v.length (b.length+1) s++rest))=_;rw[Fx (by decide)];exact ih false (λ_=>rfl)
   .rename_i hc;split
    .rename_i h2;show gH b bl (92::c::(wrL v.length (b.length+1) s++rest))=_;rw[tJ]
     .exact ih false (λ_=>rfl)
     .rcases h2 with⟨_,rfl|rfl⟩|⟨_,rfl⟩|h2
      .decide
      .decide
      .decide
      .simp only[ajM,akl,or_false]at h2⊢;rcases h2 with rfl|rfl|rfl|rfl|rfl|rfl|rfl<;>decide
    .rename_i h2;show gH b bl (c::(wrL v.length (b.length+1) s++rest))=_;have h5:¬c∈([34,43,44,59,60,62,92]:List UInt8):=λq=>h2 (.inr (.inr q))
     simp only[ajM,akl,or_false,not_or]at h5;rw[j8 (λq=>q.elim (λq=>h5.2.2.1 q) (λq=>h5.2.1 q)) (λq=>h5.2.2.2.2.2.2 q)];rw[if_neg]
     .refine ih _ (λhs=>?_);rw[decide_eq_false_iff_not];intro q;refine h2 (.inr (.inl ⟨?_,q⟩));rw[hvl,hs];simp
     .rintro(q|q|⟨q1,q2⟩)
      .exact hc q
      .simp only[ajM,akl,or_false]at q;rcases q with q|q|q|q
       .exact h5.1 q
       .exact h5.2.2.2.1 q
       .exact h5.2.2.2.2.1 q
       .exact h5.2.2.2.2.2.1 q
      .exact h2 (.inl ⟨by rw[q1];rfl,q2⟩)
theorem NZ(v:List UInt8){rest:List UInt8}(hr:rest=[]\/∃c t,rest=c::t/\(c=44\/c=43)):gH [] false (fN v++rest)=some (v,rest,true):=
 aaX v rest hr v [] false rfl (λ_=>rfl)
theorem Zi:∀(t r:List UInt8),(∀c∈t,c≠61)->jr (t++61::r)=some (t,r)
 |[],r,_=>by simp[jr]
 |c::t,r,h=>by rw[akd,jr,if_neg (h c amN),Zi t r (λx hx=>h x (by simp[hx]))]
theorem ado(h:ix t=true):∀c∈t,c≠61:=by intro c hc e;simp only[ix,ajv,ajE]at h;have:=h.2 c hc;rw[e]at this;exact absurd this (by decide)
theorem UZ(x sep:List UInt8)(xs:List (List UInt8)):Lib.join (x::xs) sep=x++xs.flatMap (λy=>sep++y):=by
 induction xs generalizing x with
 |nil=>simp[Lib.join,List.intercalate]
 | cons y l ih =>
   have e:Lib.join (x::y::l) sep=x++(sep++Lib.join (y::l) sep):=(by simp[Lib.join,List.intercalate]);rw[e,ih];simp
def kr(t:Rdn):List UInt8:=t.flatMap λa=>43::avT false a
def ke(d:List Rdn):List UInt8:=d.flatMap λr=>44::cP false r
theorem WC(a:Ava)(t:Rdn):cP false (a::t)=avT false a++kr t:=by simp only[cP,ajK,if_false,ajP,UZ,kr];simp[List.flatMap_map]
theorem abK(r:Rdn)(d:List Rdn):aP false (r::d)=cP false r++ke d:=by simp only[aP,ajP,UZ,ke];simp[List.flatMap_map]
theorem UK:∀(f:Nat) (out:List Rdn) (now:Rdn) (a:Ava) (t:Rdn) (d:List Rdn),(avT false a++(kr t++ke d)).length<f->out.length<32->du now (a::t)=0->il (out.length+1) d=0 ->
  qA f out now (avT false a++(kr t++ke d))=(out++[now++a::t]++d,0)
 |0,_,_,_,_,_,h,_,_,_=>amM
 | f+1,out,now,(ty,v),t,d,hf,ho,hc,hd=>by
   unfold du at hc;split at hc
   .cases hc
   rename_i hn8;split at hc
   .cases hc
   rename_i hty;split at hc
   .cases hc
   rename_i hha;simp only[Bool.not_eq_false]at hty;have e1:avT false (ty,v)++(kr t++ke d)=ty++61::(fN v++(kr t++ke d)):=(by simp[avT]);rw[e1]at hf⊢;rw[qA,if_neg amM,Zi _ _ (ado hty)];simp only;rw[if_neg (by simp[hty]),if_neg hha];rcases t with _|⟨a2,t⟩
   .rcases d with _|⟨r,d⟩
    .rw[show kr []++ke []=([]:List UInt8)from rfl];rw[NZ v (.inl rfl)];simp
    .rw[show kr []++ke (r::d)=44::(cP false r++ke d)by simp[kr,ke]]at hf⊢;rw[NZ v (.inr ⟨44,_,rfl,.inl rfl⟩)];simp only[akx,if_false,if_true];unfold il at hd;split at hd
     .cases hd
     rename_i h32;split at hd
     .cases hd
     rename_i hr0;split at hd
     .rename_i h5;exact absurd hd h5
     rename_i h5;simp only[ne_eq,alH]at h5;rcases r with _|⟨a2,t⟩
     .exact absurd rfl hr0
     have ih:=UK f (out++[now++[(ty,v)]]) [] a2 t d;rw[WC,ajD]at hf⊢;rw[ih (by simp only[ajA,ajz]at hf⊢;omega) (by simp;omega) h5 (by simpa using hd)];simp
   .rw[show kr (a2::t)++ke d=43::(avT false a2++(kr t++ke d))by simp[kr]]at hf⊢;rw[NZ v (.inr ⟨43,_,rfl,.inr rfl⟩)];simp only[akx,if_false,show ¬((43:UInt8)=44)by decide];have ih:=UK f out (now++[(ty,v)]) a2 t d;rw[ih (by simp only[ajA,ajz]at hf⊢;omega) ho hc hd];simp
theorem adZ(h:il 0 d=0)(hl:(aP false d).length<=4096):da (aP false d)=(d,0):=by unfold da;rw[if_neg amM];rcases d with _|⟨r,d⟩;simp[aP,Lib.join];unfold il at h;split at h;cases h;split at h;cases h;rename_i hr0;split at h;rename_i h5;exact absurd h h5;rename_i h5;simp only[ne_eq,alH]at h5;rcases r with _|⟨a,t⟩;exact absurd rfl hr0;rw[abK,WC,ajD];rw[if_neg (by simp[avT])];have:=UK ((avT false a++(kr t++ke d)).length+1) [] [] a t d amM amN h5 h;rw[this];simp
theorem iz(c:UInt8):(eI c).toNat=if 65<=c.toNat/\c.toNat<=90 then c.toNat+32 else c.toNat:=by by_cases h:65<=c.toNat/\c.toNat<=90;have:=XB h.1 h.2;rw[if_pos h];omega;rw[Jo h,if_neg h]
theorem WQ(c:UInt8):eI (eI c)=eI c:=by refine Jo ?_;rw[iz];split<;>omega
theorem U9(s:List UInt8):ag (ag s)=ag s:=by unfold ag;rw[ajS];exact akF λc _=>WQ c
theorem UC(s:List UInt8)(c:UInt8):bY (s++[c])=aM (bY s) c:=by simp[bY]
theorem UD(s:List UInt8):(bY s).length<=s.length:=by have:=oN s s.length;rwa[ajL]at this
theorem Xp(c:UInt8)(h:bY b=b):bY (aM b c)=aM b c:=by by_cases hc:c=32/\Fo b=true;simp only[aM,if_pos hc];exact h;simp only[aM,if_neg hc];rw[UC,h,aM,if_neg hc]
theorem Ze:∀(s b:List UInt8),bY b=b->bY (s.foldl aM b)=s.foldl aM b
 |[],_,h=>h
 |c::s,b,h=>Ze s (aM b c) (Xp c h)
theorem Rw(s:List UInt8):bY (bY s)=bY s:=Ze s [] rfl
theorem agt(h:bY (b++[c])=b++[c]):bY b=b/\¬(c=32/\Fo b=true):=by rw[UC]at h;unfold aM at h;split at h;have:=UD b;rw[h]at this;simp at this;omega;rename_i hc;have:=List.append_cancel_right h;rw[this]at hc;exact⟨this,hc⟩
theorem Rt(h:bY b=b):bY (dy b)=dy b/\dy (dy b)=dy b:=by
 rcases alE b with rfl|⟨d,c,rfl⟩;simp[dy,bY];rw[al9]at h⊢;obtain⟨h1,h2⟩:=agt h;rw[iF];split;rename_i hc;refine⟨h1,?_⟩;have h3:Fo d=false:=by simpa[hc]using h2
 unfold dy;rw[if_neg];intro e;simp[Fo,e]at h3;rename_i hc;exact⟨h,by rw[iF,if_neg hc]⟩
theorem XA{x:UInt8}(h:x∈aM b c):x∈b\/x=c:=by unfold aM at h;split at h;exact .inl h;simpa using h
theorem YQ:∀(s b:List UInt8){x:UInt8},x∈s.foldl aM b->x∈b\/x∈s
 |[],_,_,h=>.inl h
 | c::s,b,x,h=>by
   rcases YQ s (aM b c) h with h1|h1
   .rcases XA h1 with h2|h2
    .exact .inl h2
    .exact .inr (by simp[h2])
   .exact .inr (by simp[h1])
theorem ach{x:UInt8}(h:x∈dy b):x∈b:=by unfold dy at h;split at h;exact(List.dropLast_sublist b).subset h;exact h
theorem aci{x:UInt8}(h:x∈bT s):∃c∈s,x=eI c:=by rcases YQ _ _ (ach h)with h1|h1;cases h1;obtain⟨c,hc,rfl⟩:=ajy.1 h1;exact⟨c,hc,rfl⟩
theorem Zf(s:List UInt8):ag (bT s)=bT s:=by unfold ag;rw[akF (g:=id) (λx hx=>?_),List.map_id];obtain⟨c,_,rfl⟩:=aci hx;exact WQ c
theorem ZW(s:List UInt8):bT (bT s)=bT s:=by
 have h1:bT (bT s)=dy (bY (bT s)):=by show dy (bY (ag (bT s)))=_;rw[Zf]
 rw[h1];have h2:=Rt (Rw (ag s));show dy (bY (dy (bY (ag s))))=dy (bY (ag s));rw[h2.1,h2.2]
def Chr(q:List UInt8):Prop:=q≠[]/\(∀s,Lib.validD (q++s)=Lib.validD s)/\((∃c:UInt8,q=[c]/\c.toNat<128)\/∀c∈q,128<=c.toNat)
inductive Seg:List UInt8->Prop
 |nil:Seg []
 |cons{q s:List UInt8}:Chr q->Seg s->Seg (q++s)
theorem Seg.app(h:Seg a)(hb:Seg b):Seg (a++b):=by
 induction h with
 |nil=>exact hb
 |cons hq _ ih=>rw[ajD];exact .cons hq ih
theorem Seg.last(h:Seg s):∀d:List UInt8,s=d++[32]->Seg d:=by
 induction h with
 |nil=>intro d e;simp at e
 | @cons q s hq hs ih =>
   intro d e;rcases alE s with rfl|⟨s',c,rfl⟩
   .rw[aj6]at e;subst e;rcases hq.2.2 with⟨c,e2,_⟩|h2
    .have:d=[]:=by have:=congrArg List.length e2;simp at this;exact this
     subst this;exact .nil
    .have:=h2 32 amN;exact absurd this (by decide)
   .rw[al9]at *;rw[<- ajD]at e;obtain⟨e1,e2⟩:=List.append_inj' e rfl;subst e1;rw[e2]at ih hs;exact .cons hq (ih s' rfl)
def Dif(a b:Ava):Prop:=ag a.1≠ag b.1
theorem abo{r:Rdn}:jB r t=false↔∀a∈r,ag a.1≠ag t:=by simp[jB]
theorem Vs:∀(t done:Rdn),done.length<=8->(du done t=0↔done.length+t.length<=8/\(∀a∈t,ix a.1=true)/\(∀a∈done,∀b∈t,Dif a b)/\t.Pairwise Dif)
 |[],done,h=>by simp[du,h]
 | a::t,done,h=>by
   unfold du;by_cases h8:done.length=8
   .rw[if_pos h8];simp only[ajz];constructor
    .intro e;cases e
    .intro e;omega
   rw[if_neg h8];by_cases hty:ix a.1=false
   .rw[if_pos hty];constructor
    .intro e;cases e
    .intro e;have:=e.2.1 a amN;rw[hty]at this;cases this
   rw[if_neg hty];by_cases hh:jB done a.1=true
   .rw[if_pos hh];constructor
    .intro e;cases e
    .intro e;have:jB done a.1=false:=abo.2 λb hb=>e.2.2.1 b hb a amN
     rw[hh]at this;cases this
   rw[if_neg hh,Vs t (done++[a]) (by simp;omega)];simp only[Bool.not_eq_false]at hty;have hh2:=abo.1 (by simpa using hh);simp only[ajA,ajz,aj9,ajx,ajI,ajM,akl,or_false,forall_eq_or_imp,alj];constructor
   .rintro⟨e1,e2,e3,e4⟩;refine⟨amM,⟨hty,e2⟩,λx hx=>⟨hh2 x hx,λb hb=>e3 x (.inl hx) b hb⟩,λb hb=>e3 a (.inr rfl) b hb,e4⟩
   .rintro⟨e1,⟨_,e2⟩,e3,e4,e5⟩;refine⟨amM,e2,?_,e5⟩;rintro x (hx|rfl) b hb
    .exact(e3 x hx).2 b hb
    .exact e4 b hb
theorem abI(h:ix t=true):ix (ag t)=true:=by
 simp only[ix,ajv,ajE,decide_eq_true_eq]at h⊢;obtain⟨⟨⟨h1,h2⟩,h3⟩,h4⟩:=h;have hlet:∀c:UInt8,l5 (c.toNat:Int)=true->l5 ((eI c).toNat:Int)=true:=by intro c hc;have:=iz c;split at this;rw[this];simp only[l5,akc,ajv,decide_eq_true_eq]at hc⊢;omega;rw[this];exact hc
 refine⟨⟨⟨by simpa[ag]using h1,by simpa[ag]using h2⟩,?_⟩,?_⟩;rcases t with _|⟨c,t⟩;simp at h1;simpa[ag]using hlet c (by simpa using h3);intro c hc;obtain⟨x,hx,rfl⟩:=ajy.1 hc;have:=h4 x hx;simp only[OQ,akc]at this⊢;rcases this with(e|e)|e;exact .inl (.inl (hlet x e));refine .inl (.inr ?_);simp only[ajv,decide_eq_true_eq]at e⊢;rw[iz,if_neg amM];exact e;refine .inr ?_;simp only[decide_eq_true_eq]at e⊢;rw[iz,if_neg amM];exact e
theorem UF(r:Rdn):(gz r).Perm (r.map td):=by have:=(Q7 r [] List.Pairwise.nil).2;rwa[aj0]at this
theorem acb(a:Ava):td (td a)=td a:=by simp[td,U9,ZW]
theorem XW{r:Rdn}(h:du [] r=0):du [] (gz r)=0:=by
 rw[Vs _ _ amN]at h⊢;obtain⟨h1,h2,_,h4⟩:=h;have hp:=UF r;refine⟨by simpa[pZ]using h1,λa ha=>?_,λa ha=>(by cases ha),?_⟩;obtain⟨b,hb,rfl⟩:=ajy.1 (hp.mem_iff.1 ha);exact abI (h2 b hb);refine(hp.pairwise_iff (λ{a b} e=>Ne.symm e)).2 ?_;rw[amr];refine h4.imp λ{a b} e=>?_
 simpa[Dif,td,U9]using e
theorem Vt:∀(d:List Rdn) (i:Nat),il i d=0->il i (fU d)=0
 |[],_,h=>h
 | r::d,i,h=>by
   unfold il at h;show il i (gz r::fU d)=0;unfold il;split at h
   .cases h
   rename_i h32;split at h
   .cases h
   rename_i hr;split at h
   .rename_i h5;exact absurd h h5
   rename_i h5;simp only[ne_eq,alH]at h5;rw[if_neg h32,if_neg,if_neg (by simpa using XW h5),Vt d _ h];intro e;have:=congrArg List.length e;rw[pZ]at this;exact hr (aj4.1 this)
def wtB(c:UInt8):Nat:=if c=0 then 3 else if c∈([34,43,44,59,60,62,92]:List UInt8)then 2 else 1
def wtS(s:List UInt8):Nat:=(s.map wtB).sum
theorem aaU(a b:List UInt8):wtS (a++b)=wtS a+wtS b:=by simp[wtS]
theorem ahe:∀c:UInt8,wtB (eI c)=wtB c:=by
 intro c;by_cases h:65<=c.toNat/\c.toNat<=90
 .have h2:=iz c;rw[if_pos h]at h2;have g:∀x:UInt8,65<=x.toNat->x.toNat≠92->wtB x=1:=by
   intro x hx hn;unfold wtB;rw[if_neg (by rintro rfl;exact absurd hx (by decide)),if_neg];simp only[ajM,akl,or_false];rintro(rfl|rfl|rfl|rfl|rfl|rfl|rfl)
   all_goals first|exact absurd hx (by decide)|exact absurd rfl hn
  rw[g c amM amM,g _ amM amM]
 rw[Jo h]
theorem Yc(s:List UInt8):wtS (ag s)=wtS s:=by simp only[wtS,ag,ajS];rw[show(wtB∘eI)=wtB from funext ahe]
theorem ahi(i n:Nat)(c:UInt8):wtB c<=(wrB i n c).length:=by unfold wtB wrB;by_cases h0:c=0;rw[if_pos h0,if_pos h0];simp;rw[if_neg h0,if_neg h0];by_cases h7:c∈([34,43,44,59,60,62,92]:List UInt8);rw[if_pos h7,if_pos (.inr (.inr h7))];simp;rw[if_neg h7];split<;>simp
theorem ZH(n:Nat):∀(s:List UInt8) (i:Nat),wtS s<=(wrL n i s).length
 |[],_=>by simp[wtS]
 |c::s,i=>by have h1:=ZH n s (i+1);have h2:=ahi i n c;simp only[wrL,ajA,wtS,ajP,akG]at h1⊢;omega
theorem ahk{n:Nat}(hi:i≠0)(hc:c≠32):(wrB i n c).length=wtB c:=by
 unfold wtB wrB;by_cases h0:c=0;rw[if_pos h0,if_pos h0];simp;rw[if_neg h0,if_neg h0];by_cases h7:c∈([34,43,44,59,60,62,92]:List UInt8);rw[if_pos h7,if_pos (.inr (.inr h7))];simp;rw[if_neg h7,if_neg];· simp
 rintro(e|e|e);exact hi e.1;exact hc e.2;exact h7 e
theorem ahj{n:Nat}(hi:i≠0)(hn:i+1≠n):(wrB i n 32).length=wtB 32:=by
 have e:wrB i n 32=[32]:=by unfold wrB;rw[if_neg (by decide),if_neg];rintro(e|e|e);exact hi e.1;exact hn e.1;exact absurd e (by decide)
 rw[e];decide
theorem ac8(n:Nat):∀(s:List UInt8) (i:Nat),i≠0->n=i+s.length->s.getLast?≠some 32->(wrL n i s).length=wtS s
 |[],_,_,_,_=>by simp[wrL,wtS]
 | c::s,i,hi,hn,hl=>by
   have h1:s.getLast?≠some 32:=by
    rcases s with _|⟨x,s⟩
    .simp
    .rwa[List.getLast?_cons_cons]at hl
   have ih:=ac8 n s (i+1) amM (by simp at hn;omega) h1;have h2:(wrB i n c).length=wtB c:=by
    by_cases hc:c=32
    .subst hc;refine ahj hi λe=>?_
     have:s=[]:=aj4.1 (by simp at hn;omega);subst this;exact hl rfl
    .exact ahk hi hc
   rw[wrL,ajA,ih,h2];simp[wtS]
theorem ac7(s:List UInt8):wtS s<=(fN s).length:=ZH _ _ _
theorem ZF(s:List UInt8):wtS (35::s)+1<=(fN (35::s)).length:=by
 have h1:=ZH (s.length+1) s 1;have e:wrB 0 (s.length+1) 35=[92,35]:=by unfold wrB;rw[if_neg (by decide),if_pos (.inl ⟨rfl,.inr rfl⟩)]
 show _<=(wrB 0 (s.length+1) 35++wrL (s.length+1) 1 s).length;rw[e];have:wtB 35=1:=by decide
 simp only[wtS,ajP,akG,ajA,ajz,aj9]at h1⊢;omega
theorem ac6(h1:c≠32)(h2:(c::s).getLast?≠some 32):(fN (c::s)).length=wtS (c::s)+(if c=35 then 1 else 0):=by
 have hs:s.getLast?≠some 32:=by rcases s with _|⟨x,s⟩;simp;rwa[List.getLast?_cons_cons]at h2
 have h3:=ac8 (s.length+1) s 1 amM amM hs;show(wrB 0 (s.length+1) c++wrL (s.length+1) 1 s).length=_;rw[ajA,h3];have h4:(wrB 0 (s.length+1) c).length=wtB c+(if c=35 then 1 else 0):=by
  unfold wtB wrB;by_cases h0:c=0;subst h0;rfl;rw[if_neg h0,if_neg h0];by_cases h7:c∈([34,43,44,59,60,62,92]:List UInt8);rw[if_pos h7,if_pos (.inr (.inr h7)),if_neg];rfl;rintro rfl;exact absurd h7 (by decide);rw[if_neg h7];by_cases h35:c=35;rw[if_pos h35,if_pos (.inl ⟨rfl,.inr h35⟩)];rfl;rw[if_neg h35,if_neg];· rfl
  rintro(e|e|e);rcases e.2 with e|e;exact h1 e;exact h35 e;exact h1 e.2;exact h7 e
 rw[h4];simp[wtS];omega
theorem aft(b:List UInt8)(c:UInt8):wtS (aM b c)<=wtS b+wtB c:=by unfold aM;split;omega;rw[aaU];simp[wtS]
theorem Xg:∀(s b:List UInt8),wtS (s.foldl aM b)<=wtS b+wtS s
 |[],b=>by simp[wtS]
 |c::s,b=>by have h1:=Xg s (aM b c);have h2:=aft b c;simp only[akm,wtS,ajP,akG]at h1 h2⊢;omega
theorem aaT(b:List UInt8):wtS (dy b)<=wtS b:=by rcases alE b with rfl|⟨d,c,rfl⟩;simp[dy];rw[al9,iF];split;rw[aaU];omega;omega
theorem RK:∀(s:List UInt8) (x:UInt8) (b:List UInt8),∃t,s.foldl aM (x::b)=x::t
 |[],x,b=>⟨b,rfl⟩
 | c::s,x,b=>by
   rw[akm,aM];split
   .exact RK s x b
   .exact RK s x (b++[c])
theorem afu(c:UInt8):1<=wtB c:=by unfold wtB;split;omega;split<;>omega
theorem aad(s:List UInt8):(bT s).getLast?≠some 32:=by have h:=Rt (Rw (ag s));have e:dy (bT s)=bT s:=h.2;intro hl;rcases alE (bT s)with q|⟨d,c,q⟩;rw[q]at hl;cases hl;rw[q,al9]at e hl;rw[iF,if_pos (by simpa using hl)]at e;have:=congrArg List.length e;simp at this
theorem aak(h:bT s=c::t):c≠32:=by have e:bY (bT s)=bT s:=(Rt (Rw (ag s))).1;rw[h]at e;rintro rfl;have:=UD t;have e2:bY (32::t)=t.foldl aM []:=rfl;rw[e2]at e;have:=congrArg List.length e;have h3:(t.foldl aM []).length<=t.length:=UD t;simp at this;omega
theorem abC(s:List UInt8):(fN (bT s)).length<=(fN s).length:=by
 have hge:=ac7 s;have hw:wtS (bT s)<=wtS s:=by have h1:=aaT (bY (ag s));have h2:=Xg (ag s) [];have h3:=Yc s;have h4:wtS (bY (ag s))=wtS ((ag s).foldl aM []):=rfl;have h5:wtS ([]:List UInt8)=0:=rfl;show wtS (dy (bY (ag s)))<=_;omega
 rcases hp:bT s with _|⟨c,t⟩;simp[fN,wrL];have hl:=aad s;rw[hp]at hl hw;rw[ac6 (aak hp) hl];split;rename_i h35;subst h35;rcases s with _|⟨x,s⟩;have:bT []=[]:=rfl;rw[this]at hp;cases hp;by_cases hx:x=35;subst hx;have:=ZF s;omega;by_cases hx2:x=32;subst hx2;have e:bT (32::s)=bT s:=rfl;have h1:=aaT (bY (ag s));have h2:=Xg (ag s) [];have h3:=Yc s;have h4:wtS (bY (ag s))=wtS ((ag s).foldl aM []):=rfl;have h5:wtS ([]:List UInt8)=0:=rfl;have h6:wtS (bT s)=wtS (dy (bY (ag s))):=rfl;rw[e]at hp;rw[hp]at h6;have h7:wtS (32::s)=wtB 32+wtS s:=by simp[wtS]
 have h8:=afu 32;omega;exfalso;have hlx:¬(eI x=32):=by
  intro q;have:=iz x;rw[q]at this;apply hx2;have:x.toNat=32:=by split at this;have h9:(32:UInt8).toNat=32:=rfl;omega;exact this.symm
  exact UInt8.toNat.inj this
 have hlx5:¬(eI x=35):=by
  intro q;have:=iz x;rw[q]at this;apply hx;have:x.toNat=35:=by split at this;have h9:(35:UInt8).toNat=35:=rfl;omega;exact this.symm
  exact UInt8.toNat.inj this
 have e1:ag (x::s)=eI x::ag s:=rfl;obtain⟨u,hu⟩:=RK (ag s) (eI x) [];have e2:bY (ag (x::s))=eI x::u:=by rw[e1,<- hu];show(ag s).foldl aM (aM [] (eI x))=_;rw[aM,if_neg (λq=>hlx q.1)];rfl
 have e3:dy (eI x::u)=35::t:=by rw[<- e2];exact hp
 rcases alE u with rfl|⟨d,y,rfl⟩;have:dy ([]++[eI x])=[]++[eI x]:=by rw[iF,if_neg hlx]
 rw[show[eI x]=[]++[eI x]from rfl,this]at e3;exact hlx5 (by simpa using congrArg List.head? e3);rw[al9,<- akd,iF]at e3;split at e3;exact hlx5 (by simpa using congrArg List.head? e3);exact hlx5 (by simpa using congrArg List.head? e3);omega
theorem lZ(xs:List (List UInt8))(c:UInt8):(Lib.join xs [c]).length+1=(xs.map List.length).sum+xs.length+(if xs=[]then 1 else 0):=by
 rcases xs with _|⟨x,xs⟩;simp[Lib.join];rw[UZ,if_neg amN];have:(xs.flatMap λy=>[c]++y).length=(xs.map List.length).sum+xs.length:=by
  induction xs with
  |nil=>rfl
  |cons y l ih=>simp only[aj5,ajA,ih,ajP,akG,ajz,aj9];omega
 simp only[ajA,this,ajP,akG,ajz];omega
theorem ZP{α:Type}{f g:α->Nat}:∀l:List α,(∀a∈l,f a<=g a)->(l.map f).sum<=(l.map g).sum
 |[],_=>ajs _
 | a::l,h=>by
   have h1:=ZP l λx hx=>h x (by simp[hx])
   have h2:=h a amN;simp only[ajP,akG];omega
theorem adX{l m:List Nat}(h:l.Perm m):l.sum=m.sum:=by
 induction h with
 |nil=>rfl
 |cons _ _ ih=>simp only[akG,ih]
 |swap a b l=>simp only[akG];omega
 |trans _ _ a b=>exact a.trans b
theorem Yu(r:Rdn):(cP true r).length<=(cP false r).length:=by
 have hs:(dY (r.map (avT true))).Perm (r.map (avT true)):=ali _ _;have h1:=lZ (dY (r.map (avT true))) 43;have h2:=lZ (r.map (avT false)) 43;have h3:((dY (r.map (avT true))).map List.length).sum=((r.map (avT true)).map List.length).sum:=adX (hs.map _);have h4:(dY (r.map (avT true))).length=r.length:=by rw[hs.length_eq];simp
 have h5:((r.map (avT true)).map List.length).sum<=((r.map (avT false)).map List.length).sum:=by
  rw[ajS,ajS];refine ZP r λa _=>?_
  have:=abC a.2;simp only[ak4,avT,if_true,ajK,if_false,ajA,ajz,aj9];simp only[ag,ajR];omega
 have h6:(if dY (r.map (avT true))=[]then 1 else 0)=(if r.map (avT false)=[]then 1 else 0):=by
  have:dY (r.map (avT true))=[]↔r.map (avT false)=[]:=by rw[<- aj4,<- aj4,h4];simp
  simp only[this]
 simp only[cP,if_true,ajK,if_false];rw[h3,h4,h6]at h1;simp only[ajR]at h2;omega
theorem Yk(d:List Rdn):(aP true d).length<=(aP false d).length:=by
 have h1:=lZ (d.map (cP true)) 44;have h2:=lZ (d.map (cP false)) 44;have h3:((d.map (cP true)).map List.length).sum<=((d.map (cP false)).map List.length).sum:=by rw[ajS,ajS];exact ZP d λr _=>Yu r
 have h6:(if d.map (cP true)=[]then 1 else 0)=(if d.map (cP false)=[]then 1 else 0):=by simp only[amB]
 rw[h6]at h1;simp only[ajR]at h1 h2;unfold aP;omega
theorem abP{xs ys:List (List UInt8)}(h:xs.Perm ys):dY xs=dY ys:=by
 have hs:∀zs:List (List UInt8),(dY zs).Pairwise λx y=>x<=y:=λzs=>by
  have:=ams (le:=λx y:List UInt8=>decide (x<=y)) (λa b c h1 h2=>by
   simp only[decide_eq_true_eq]at *;exact List.le_trans h1 h2) (λa b=>by
   simp only[akc,decide_eq_true_eq];exact List.le_total a b) zs
  exact this.imp λh=>by simpa using h
 refine amD (le:=λx y=>x<=y) (λa b _ _=>amq) (hs xs) (hs ys) ?_;exact(ali _ _).trans (h.trans (ali _ _).symm)
theorem ZR(r:Rdn):cP true (gz r)=cP true r:=by simp only[cP,if_true];congr 1;refine abP ?_;refine((UF r).map _).trans ?_;rw[ajS];rw[show(avT true∘td)=avT true from funext λa=>by simp only[ak4,abt,acb]]
abbrev Pth:=List (List UInt8)
variable {p:Pth}
abbrev INm:=Int×Pth
def aZ(l:List INm)(p:Pth):Nat:=(l.filter λm=>decide (m.2≠[]/\m.2.tail=p)).length
structure qv(suf:Pth)(l:List INm):Prop where
 sne:suf≠[]
 nd:(l.map (·.2)).Nodup
 ids:(l.map (·.1)).Nodup
 un:∀m∈l,suf <:+ m.2
 par:∀m∈l,m.2=suf\/∃k∈l,k.2=m.2.tail
theorem qv.nil{suf:Pth}(h:suf≠[]):qv suf []:=⟨h,amN,amN,λ_ h=>absurd h akl,λ_ h=>absurd h akl⟩
theorem ff{α β:Type}{f:α->β}:∀{l:List α},(l.map f).Nodup->∀{a b:α},a∈l->b∈l->f a=f b->a=b
 |[],_,a,_,h,_,_=>by cases h
 | x::l,h,a,b,ha,hb,e=>by
   rw[ajP,akP]at h;rcases ajM.1 ha with ea|ha'<;>rcases ajM.1 hb with eb|hb'
   .rw[ea,eb]
   .exact(h.1 (ajy.2 ⟨b,hb',by rw[<- e,ea]⟩)).elim
   .exact(h.1 (ajy.2 ⟨a,ha',by rw[e,eb]⟩)).elim
   .exact ff h.2 ha' hb' e
theorem xU{α β:Type}{f:α->β}:∀{l:List α},(l.map f).Nodup->l.Nodup
 |[],_=>List.nodup_nil
 |x::l,h=>by rw[ajP,akP]at h;exact akP.2 ⟨λhm=>h.1 (ajy.2 ⟨x,hm,rfl⟩),xU h.2⟩
theorem qv.byP{suf:Pth}{l:List INm}(h:qv suf l){a b:INm}(ha:a∈l)(hb:b∈l)(e:a.2=b.2):a=b:=ff h.nd ha hb e
theorem qv.byI{suf:Pth}{l:List INm}(h:qv suf l){a b:INm}(ha:a∈l)(hb:b∈l)(e:a.1=b.1):a=b:=ff h.ids ha hb e
theorem qv.ne{suf:Pth}{l:List INm}(h:qv suf l){m:INm}(hm:m∈l):m.2≠[]:=λe=>h.sne (by have:=h.un m hm;rw[e]at this;exact List.suffix_nil.1 this)
theorem qv.anc{suf:Pth}{l:List INm}(h:qv suf l):∀(n:Nat) (k:INm) (y x:Pth),y.length=n->k∈l->k.2=y++x->suf <:+ x->∃m∈l,m.2=x
 |0,k,y,x,hy,hk,e,_=>⟨k,hk,by rw[e,List.eq_nil_of_length_eq_zero hy];rfl⟩
 | n+1,k,y,x,hy,hk,e,hs=>by
   obtain⟨a,y',rfl⟩:∃a y',y=a::y':=by
    cases y with
    |nil=>simp at hy
    |cons a y'=>exact⟨a,y',rfl⟩
   rcases h.par k hk with e2|⟨p,hp,e2⟩
   .have h1:=hs.length_le;rw[<- e2,e]at h1;simp at h1;omega
   .rw[e]at e2;exact h.anc n p y' x (by simpa using hy) hp e2 hs
theorem qv.ancS{suf:Pth}{l:List INm}(h:qv suf l){k:INm}{x:Pth}(hk:k∈l)(hx:x <:+ k.2)(hs:suf <:+ x):∃m∈l,m.2=x:=by obtain⟨y,e⟩:=hx;exact h.anc y.length k y x rfl hk e.symm hs
theorem qv.added{suf:Pth}{l:List INm}(h:qv suf l)(hid:∀m∈l,m.1≠id)(hno:∀m∈l,m.2≠p)(hp:p=suf\/∃k∈l,k.2=p.tail):
  qv suf (l++[(id,p)])/\aZ (l++[(id,p)]) p=0/\∀q,aZ (l++[(id,p)]) q=aZ l q+if p.tail=q then 1 else 0:=by
 have hsp:suf <:+ p:=by rcases hp with rfl|⟨k,hk,e⟩;exact als _;have:=h.un k hk;rw[e]at this;exact this.trans (alI p)
 have hpne:p≠[]:=λe=>h.sne (by rw[e]at hsp;exact List.suffix_nil.1 hsp)
 have hk:∀q,aZ (l++[(id,p)]) q=aZ l q+if p.tail=q then 1 else 0:=λq=>by unfold aZ;rw[alV,ajA];congr 1;by_cases e:p.tail=q;simp[e,hpne];simp[e]
 refine⟨⟨h.sne,?_,?_,?_,?_⟩,?_,hk⟩;rw[ajV,alW];refine⟨h.nd,amN,?_⟩;intro a ha b hb e;obtain⟨m,hm,rfl⟩:=ajy.1 ha;simp only[ajP,akA,ajI]at hb;exact hno m hm (e.trans hb);rw[ajV,alW];refine⟨h.ids,amN,?_⟩;intro a ha b hb e;obtain⟨m,hm,rfl⟩:=ajy.1 ha;simp only[ajP,akA,ajI]at hb;exact hid m hm (e.trans hb);intro m hm;rcases ajx.1 hm with hm|hm;exact h.un m hm;rw[ajI.1 hm];exact hsp;intro m hm;rcases ajx.1 hm with hm|hm;rcases h.par m hm with e|⟨k,hk,e⟩;exact .inl e;exact .inr ⟨k,ako _ hk,e⟩;rw[ajI.1 hm];rcases hp with e|⟨k,hk,e⟩;exact .inl e;exact .inr ⟨k,ako _ hk,e⟩;rw[hk p];have h0:¬p.tail=p:=λe=>by have:=congrArg List.length e;rw[ak5]at this;have:=akh.2 hpne;omega
 rw[if_neg h0];have:aZ l p=0:=by unfold aZ;rw[aj4,List.filter_eq_nil_iff];intro m hm hc;simp only[decide_eq_true_eq]at hc;rcases h.par m hm with e|⟨k,hk,e⟩;have:=hsp.length_le;rw[<- hc.2,e,ak5]at this;have:=akh.2 h.sne;omega;exact hno k hk (e.trans hc.2)
 rw[this]
theorem qv.deleted{suf:Pth}{l:List INm}(h:qv suf l)(hm:(id,p)∈l)(h0:aZ l p=0):
  qv suf (l.filter λm=>decide (m.1≠id))/\∀q,aZ (l.filter λm=>decide (m.1≠id)) q+(if p.tail=q then 1 else 0)=aZ l q:=by
 have sub:∀m∈l.filter (λm=>decide (m.1≠id)),m∈l/\m.1≠id:=λm hm=>by simpa using aka.1 hm
 refine⟨⟨h.sne,(List.filter_sublist.map _).nodup h.nd,(List.filter_sublist.map _).nodup h.ids,λm hm=>h.un m (sub m hm).1,λm hm'=>?_⟩,λq=>?_⟩;obtain⟨hml,hmi⟩:=sub m hm';rcases h.par m hml with e|⟨k,hk,e⟩;exact .inl e;refine .inr ⟨k,?_,e⟩;simp only[aka,decide_eq_true_eq];refine⟨hk,λe2=>?_⟩;have:k=(id,p):=h.byI hk hm e2;subst this;unfold aZ at h0;rw[aj4,List.filter_eq_nil_iff]at h0;exact h0 m hml (by simp only[decide_eq_true_eq];exact⟨h.ne hml,e.symm⟩);have key:∀l:List INm,(l.map (·.1)).Nodup->(id,p)∈l->p≠[]->aZ (l.filter λm=>decide (m.1≠id)) q+(if p.tail=q then 1 else 0)=aZ l q:=by
  intro l;induction l with
  |nil=>intro _ h;cases h
  | cons a l ih =>
    intro hn hm hpne;rw[ajP,akP]at hn;rcases ajM.1 hm with rfl|hm
    .have:l.filter (λm=>decide (m.1≠id))=l:=List.filter_eq_self.2 λm hm=>by simp only[decide_eq_true_eq];intro e;exact hn.1 (ajy.2 ⟨m,hm,e⟩)
     rw[ama amN,this];unfold aZ;by_cases e:p.tail=q
     .rw[amb (by simp[hpne,e]),if_pos e];rfl
     .rw[ama (by simp[e]),if_neg e];rfl
    .have ha:a.1≠id:=λe=>hn.1 (by rw[e];exact alT (f:=(·.1)) hm)
     rw[amb (by simpa using ha)];have:=ih hn.2 hm hpne;unfold aZ at this⊢;by_cases e:a.2≠[]/\a.2.tail=q
     .rw[amb (by simpa using e),amb (by simpa using e)];simp only[ajz];omega
     .rw[ama (by simpa using e),ama (by simpa using e)];exact this
 exact key l h.ids hm (h.ne hm)
def ren(p q x:Pth):Pth:=if p <:+ x then x.take (x.length-p.length)++q else x
theorem gD(p q y:Pth):ren p q (y++p)=y++q:=by unfold ren;rw[if_pos (List.suffix_append ..)];simp
theorem fT{q x:Pth}(h:¬p <:+ x):ren p q x=x:=by unfold ren;rw[if_neg h]
theorem Vq{α:Type}{f g:α->Bool}{a:α}:∀{l:List α},l.Nodup->a∈l->(∀k∈l,k≠a->f k=g k)->(l.filter f).length+(if g a=true then 1 else 0)=(l.filter g).length+(if f a=true then 1 else 0)
 |[],_,h,_=>by cases h
 | x::l,hn,hm,he=>by
   obtain⟨h1,h2⟩:=akP.1 hn;by_cases hx:x=a
   .subst hx;have:l.filter f=l.filter g:=List.filter_congr λk hk=>he k (by simp[hk]) λe=>h1 (e▸hk)
    simp only[alM,this];cases f x<;>cases g x<;>simp
   .have hm':a∈l:=by
     rcases ajM.1 hm with e|e
     .exact absurd e.symm hx
     .exact e
    have ih:=Vq h2 hm' λk hk=>he k (by simp[hk])
    have e:=he x amN hx;simp only[alM,e];cases g x<;>simp<;>omega
theorem qv.moved{suf:Pth}{l:List INm}(h:qv suf l){q:Pth}(hm:(id,p)∈l)(hps:p≠suf)(hq:q≠[])(hnu:¬p <:+ q.tail)(hqt:∃k∈l,k.2=q.tail)(hqo:∀m∈l,m.2=q->m.1=id):
  qv suf (l.map λm=>(m.1,ren p q m.2))/\∀m∈l,(aZ (l.map λm=>(m.1,ren p q m.2)) (ren p q m.2):Int)=aZ l m.2+(if m.2=q.tail then 1 else 0)-(if m.2=p.tail then 1 else 0):=by
 have hsq:suf <:+ q:=by obtain⟨k,hk,e⟩:=hqt;have:=h.un k hk;rw[e]at this;exact this.trans (alI q)
 have hsp:=h.un _ hm;have hpne:=h.ne hm;have hqk:∀k∈l,q <:+ k.2->p <:+ k.2:=λk hk hs=>by obtain⟨m,hm',e⟩:=h.ancS hk hs hsq;have:m=(id,p):=h.byI hm' hm (hqo m hm' e);subst this;rw[show p=q from e];exact hs
 have inj:∀a∈l,∀b∈l,ren p q a.2=ren p q b.2->a=b:=λa ha b hb e=>by by_cases h1:p <:+ a.2<;>by_cases h2:p <:+ b.2;obtain⟨y,e1⟩:=h1;obtain⟨z,e2⟩:=h2;rw[<- e1,<- e2,gD,gD]at e;exact h.byP ha hb (by rw[<- e1,<- e2,List.append_cancel_right e]);obtain⟨y,e1⟩:=h1;rw[<- e1,gD,fT h2]at e;exact absurd (hqk b hb ⟨y,e⟩) h2;obtain⟨z,e2⟩:=h2;rw[<- e2,gD,fT h1]at e;exact absurd (hqk a ha ⟨z,e.symm⟩) h1;rw[fT h1,fT h2]at e;exact h.byP ha hb e
 have parP:∀k∈l,p <:+ k.2->∃j∈l,j.2=k.2.tail:=λk hk hs=>by rcases h.par k hk with e|e;rw[e]at hs;exact absurd (hs.eq_of_length_le hsp.length_le) hps;exact e
 have tl:∀y:Pth,y≠[]->(y++q).tail=y.tail++q/\(y++p).tail=y.tail++p:=λy hy=>by
  cases y with
  |nil=>exact absurd rfl hy
  |cons a y=>exact⟨rfl,rfl⟩
 have lnd:l.Nodup:=xU h.ids;refine⟨⟨h.sne,?_,by rw[ajS];exact h.ids,?_,?_⟩,?_⟩;rw[ajS];have:∀l':List INm,(∀x∈l',x∈l)->l'.Nodup->(l'.map ((·.2)∘λm:INm=>(m.1,ren p q m.2))).Nodup:=by
  intro l';induction l' with
  |nil=>intro _ _;simp
  | cons a l' ih =>
    intro hs hn;obtain⟨n1,n2⟩:=akP.1 hn;rw[ajP,akP];refine⟨λhc=>?_,ih (λx hx=>hs x (by simp[hx])) n2⟩;obtain⟨b,hb,e⟩:=ajy.1 hc;exact n1 (inj b (hs b (by simp[hb])) a (hs a amN) e▸hb)
 exact this l (λ_ h=>h) lnd;intro m hm';obtain⟨k,hk,rfl⟩:=ajy.1 hm';simp only;by_cases hs:p <:+ k.2;obtain⟨y,e⟩:=hs;rw[<- e,gD];exact hsq.trans (List.suffix_append ..);rw[fT hs];exact h.un k hk;intro m hm';obtain⟨k,hk,rfl⟩:=ajy.1 hm';simp only;by_cases hs:p <:+ k.2;obtain⟨y,e⟩:=hs;rw[<- e,gD];right;by_cases hy:y=[];subst hy;obtain⟨j,hj,ej⟩:=hqt;exact⟨_,alT hj,by simp only;rw[ej,fT hnu];rfl⟩;obtain⟨j,hj,ej⟩:=parP k hk ⟨y,e⟩;rw[<- e,(tl y hy).2]at ej;exact⟨_,alT hj,by simp only;rw[ej,gD,(tl y hy).1]⟩;rw[fT hs];rcases h.par k hk with e|⟨j,hj,ej⟩;exact .inl e;refine .inr ⟨_,alT hj,?_⟩;simp only;rw[ej,fT (λhc=>hs (hc.trans (alI _)))];intro m hml;have hqne:∀y:Pth,y++q≠[]:=λy e=>hq (amE.1 e).2
 have e1:aZ (l.map λm=>(m.1,ren p q m.2)) (ren p q m.2)=(l.filter λk=>decide (ren p q k.2≠[]/\(ren p q k.2).tail=ren p q m.2)).length:=by unfold aZ;rw[List.filter_map,ajR];rfl
 have hd:=Vq (f:=λk:INm=>decide (ren p q k.2≠[]/\(ren p q k.2).tail=ren p q m.2)) (g:=λk:INm=>decide (k.2≠[]/\k.2.tail=m.2)) lnd hm λk hk hne=>by
  congr 1;apply propext;by_cases hs:p <:+ k.2;obtain⟨j,hj,ej⟩:=parP k hk hs;obtain⟨y,e⟩:=hs;have hy:y≠[]:=λe2=>by subst e2;exact hne (h.byP hk hm e.symm)
  rw[<- e]at ej⊢;rw[gD,(tl y hy).1,(tl y hy).2];rw[(tl y hy).2]at ej;constructor;rintro⟨_,e3⟩;refine⟨λe4=>hpne (amE.1 e4).2,?_⟩;have:j=m:=inj j hj m hml (by rw[ej,gD,e3]);rw[<- this,ej];rintro⟨_,e3⟩;exact⟨hqne _,by rw[<- e3,gD]⟩;rw[fT hs];by_cases hr:p <:+ m.2;obtain⟨y,e⟩:=hr;rw[<- e,gD];constructor;rintro⟨_,e3⟩;exact absurd (hqk k hk (List.IsSuffix.trans (⟨y,e3.symm⟩:q <:+ k.2.tail) (alI _))) hs;rintro⟨_,e3⟩;exact absurd (List.IsSuffix.trans (⟨y,e3.symm⟩:p <:+ k.2.tail) (alI _)) hs;rw[fT hr]
 rw[<- e1]at hd;have f1:decide (ren p q (id,p).2≠[]/\(ren p q (id,p).2).tail=ren p q m.2)=decide (m.2=q.tail):=by have e2:ren p q p=q:=(by have:=gD p q [];simpa using this);simp only[e2];congr 1;apply propext;by_cases hr:p <:+ m.2;obtain⟨y,e⟩:=hr;rw[<- e,gD];constructor;rintro⟨_,e3⟩;have:=congrArg List.length e3;rw[ak5,ajA]at this;have:=akh.2 hq;omega;intro e3;exact absurd ⟨y,e3⟩ hnu;rw[fT hr];exact⟨λe3=>e3.2.symm,λe3=>⟨hq,e3.symm⟩⟩
 have g1:decide ((id,p).2≠[]/\(id,p).2.tail=m.2)=decide (m.2=p.tail):=by congr 1;apply propext;exact⟨λe3=>e3.2.symm,λe3=>⟨hpne,e3.symm⟩⟩
 simp only[f1,g1,decide_eq_true_eq]at hd;have hd':aZ (l.map λm=>(m.1,ren p q m.2)) (ren p q m.2)+(if m.2=p.tail then 1 else 0)=aZ l m.2+(if m.2=q.tail then 1 else 0):=hd;clear hd;revert hd';split<;>split<;>intro hd'<;>omega
def NK(d:List Rdn):Pth:=d.map (cP true)
def OkD(d:List Rdn):Prop:=(prS d).2=0
instance (d:List Rdn):Decidable (OkD d):=inferInstanceAs (Decidable (_=_))
theorem Vu:∀(d:List Rdn) (i:Nat),i<=32->(il i d=0↔i+d.length<=32/\∀r∈d,r≠[]/\du [] r=0)
 |[],i,h=>by simp[il,h]
 | r::d,i,h=>by
   unfold il;by_cases h1:i=32
   .rw[if_pos h1];constructor
    .intro h;exact absurd h (by decide)
    .rintro⟨h2,_⟩;simp at h2;omega
   rw[if_neg h1];by_cases h2:r=[]
   .rw[if_pos h2];constructor
    .intro h;exact absurd h (by decide)
    .rintro⟨_,h3⟩;exact absurd h2 (h3 r amN).1
   rw[if_neg h2];by_cases h3:du [] r=0
   .rw[if_neg (by simpa using h3),Vu d (i+1) amM];constructor
    .rintro⟨h4,h5⟩;refine⟨by simp;omega,λx hx=>?_⟩;rcases ajM.1 hx with rfl|hx
     .exact⟨h2,h3⟩
     .exact h5 x hx
    .rintro⟨h4,h5⟩;exact⟨by simp at h4;omega,λx hx=>h5 x (by simp[hx])⟩
   .rw[if_pos h3];constructor
    .intro h;exact absurd h h3
    .rintro⟨_,h4⟩;exact absurd (h4 r amN).2 h3
theorem QV(d:List Rdn):OkD d↔d.length<=32/\(∀r∈d,r≠[]/\du [] r=0)/\xr d=false/\(aP false d).length<=4096:=by have hc:=Vu d 0 amM;unfold OkD prS;by_cases h1:il 0 d=0;rw[if_neg (by simpa using h1)];have:=hc.1 h1;by_cases h2:xr d=true;rw[if_pos h2];constructor;intro h;exact absurd h (by decide);rintro⟨_,_,h3,_⟩;rw[h2]at h3;cases h3;rw[if_neg h2];by_cases h3:4096<(aP false d).length;rw[if_pos h3];constructor;intro h;exact absurd h (by decide);rintro⟨_,_,_,h4⟩;omega;rw[if_neg h3];exact⟨λ_=>⟨amM,this.2,by simpa using h2,amM⟩,λ_=>rfl⟩;rw[if_pos h1];constructor;intro h;exact absurd h h1;rintro⟨h2,h3,_⟩;exact absurd (hc.2 ⟨amM,h3⟩) h1
theorem OkD.nil:OkD []:=(QV []).2 ⟨amN,amN,by rfl,by decide⟩
theorem adq(k:Bool)(c d:List Rdn):(aP k d).length<=(aP k (c++d)).length:=by have h1:=lZ (d.map (cP k)) 44;have h2:=lZ ((c++d).map (cP k)) 44;rw[ajV,ajV,List.sum_append,ajA]at h2;unfold aP;rw[ajV];by_cases hd:d.map (cP k)=[];rw[hd];simp[Lib.join];rw[if_neg hd]at h1;rw[if_neg (by simp only[amE,not_and];exact λ_=>hd)]at h2;omega
theorem OkD.app{c:List Rdn}(h:OkD (c++d)):OkD d:=by rw[QV]at h⊢;obtain⟨h1,h2,h3,h4⟩:=h;refine⟨by simp at h1;omega,λr hr=>h2 r (by simp[hr]),?_,ajU (adq _ _ _) h4⟩;unfold xr at h3⊢;rw[alD,alC]at h3;exact h3.2
theorem OkD.drop(h:OkD d)(n:Nat):OkD (d.drop n):=OkD.app (c:=d.take n) (by rw[ak1];exact h)
theorem OkD.tail(h:OkD d):OkD d.tail:=by rw[<- amc];exact h.drop 1
theorem OkD.len(h:OkD d):d.length<=32:=((QV d).1 h).1
theorem eu(h:OkD d):tf d=(aP true d,0):=by unfold tf;rw[if_neg (by simpa[OkD]using h)]
theorem xT(h:¬OkD d):(tf d).2≠0:=by unfold tf;rw[if_pos (show(prS d).2≠0 from h)];exact h
theorem OkD.plain(h:OkD d):da (aP true d)=(fU d,0):=by obtain⟨h1,h2,h3,h4⟩:=(QV d).1 h;have hc:il 0 d=0:=(Vu d 0 amM).2 ⟨amM,h2⟩;have:=Yk d;rw[<- xR d];exact adZ (Vt d 0 hc) (by rw[xR];omega)
theorem Zx(d:List Rdn):NK (fU d)=NK d:=by unfold NK fU;rw[ajS];rw[show(cP true∘gz)=cP true from funext ZR]
theorem gN{e:List Rdn}(hd:OkD d)(he:OkD e):aP true d=aP true e↔NK d=NK e:=by
 constructor;intro h;have h1:=hd.plain;rw[h,he.plain]at h1;have:fU e=fU d:=by injection h1
 rw[<- Zx d,<- this,Zx];intro h;unfold NK at h;unfold aP;rw[h]
theorem aW(d:List Rdn):(NK d).length=d.length:=by simp[NK]
theorem JQ :NK d=[]↔d=[]:=by simp[NK]
theorem ah9(c d:List Rdn):NK (c++d)=NK c++NK d:=by simp[NK]
theorem abA(d:List Rdn)(n:Nat):NK (d.drop n)=(NK d).drop n:=by simp[NK]
theorem Rp(d:List Rdn):NK d.tail=(NK d).tail:=by simp[NK]
def bA(d b:List Rdn):Bool:=decide (OkD d)&&decide (OkD b)&&decide (b.length<=d.length)&&decide (aP true (d.drop (d.length-b.length))=aP true b)
theorem bL{b:List Rdn}:bA d b=true↔OkD d/\OkD b/\NK b <:+ NK d:=by
 unfold bA;simp only[ajv,decide_eq_true_eq];constructor;rintro⟨⟨⟨h1,h2⟩,h3⟩,h4⟩;refine⟨h1,h2,?_⟩;rw[gN (h1.drop _) h2,abA]at h4;rw[<- h4];exact List.drop_suffix _ _;rintro⟨h1,h2,h3⟩;have hl:=h3.length_le;rw[aW,aW]at hl;refine⟨⟨⟨h1,h2⟩,hl⟩,?_⟩;rw[gN (h1.drop _) h2,abA];obtain⟨y,e⟩:=h3;have:y.length=d.length-b.length:=by have:=congrArg List.length e;rw[ajA,aW,aW]at this;omega
 rw[<- e,<- this,List.drop_left]
def gF(a b:List Rdn):Bool:=decide (a.length=b.length)&&bA a b
theorem Uq{a b:List Rdn}:gF a b=true↔OkD a/\OkD b/\NK a=NK b:=by unfold gF;rw[ajv,decide_eq_true_eq,bL];constructor;rintro⟨h1,h2,h3,h4⟩;exact⟨h2,h3,(h4.eq_of_length (by rw[aW,aW,h1])).symm⟩;rintro⟨h1,h2,h3⟩;exact⟨by rw[<- aW,h3,aW],h1,h2,by rw[h3];exact als _⟩
structure Ent(α:Type)where
 id:Int
 nm:List Rdn
 av:α
variable {α:Type}
def dx(l:List (Ent α)):List INm:=l.map λx=>(x.id,NK x.nm)
structure TOk(suf:List Rdn)(last:Int)(l:List (Ent α)):Prop where
 sok:OkD suf
 ok:∀x∈l,OkD x.nm
 inv:qv (NK suf) (dx l)
 ids:∀x∈l,1<=x.id/\x.id<=last
theorem fH{l:List (Ent α)}{x:Ent α}(h:x∈l):(x.id,NK x.nm)∈dx l:=ajy.2 ⟨x,h,rfl⟩
theorem TOk.byN{last:Int}{l:List (Ent α)}(h:TOk suf last l){a b:Ent α}(ha:a∈l)(hb:b∈l)(e:NK a.nm=NK b.nm):a=b:=by have hn:=h.inv.nd;unfold dx at hn;rw[ajS]at hn;exact ff hn ha hb e
theorem TOk.byI{last:Int}{l:List (Ent α)}(h:TOk suf last l){a b:Ent α}(ha:a∈l)(hb:b∈l)(e:a.id=b.id):a=b:=by have hn:=h.inv.ids;unfold dx at hn;rw[ajS]at hn;exact ff hn ha hb e
def atE(l:List (Ent α))(d:List Rdn):Option (Ent α):=if OkD d then l.find? (λx=>decide (NK x.nm=NK d))else none
def aV(l:List (Ent α))(d:List Rdn):Int:=match atE l d with|some x=>x.id|none=>0
def l6(l:List (Ent α))(id:Int):Option (Ent α):=l.find? (λx=>decide (x.id=id))
def gE(l:List (Ent α))(id:Int):Nat:=match l6 l id with|some x=>aZ (dx l) (NK x.nm)|none=>0
theorem bW{l:List (Ent α)}{x:Ent α}(h:atE l d=some x):OkD d/\x∈l/\NK x.nm=NK d:=by unfold atE at h;split at h;rename_i h1;exact⟨h1,ak6 h,by simpa using ak7 h⟩;cases h
theorem TOk.at{last:Int}{l:List (Ent α)}(h:TOk suf last l){x:Ent α}(hx:x∈l)(hd:OkD d)(e:NK d=NK x.nm):atE l d=some x:=by
 unfold atE;rw[if_pos hd];cases hf:l.find? (λx=>decide (NK x.nm=NK d))with
 |none=>exact absurd e.symm (by simpa using akJ.1 hf x hx)
 |some y=>rw[h.byN (ak6 hf) hx (by rw[<- e];simpa using ak7 hf)]
theorem qt{l:List (Ent α)}:atE l d=none↔(OkD d->∀x∈l,NK x.nm≠NK d):=by unfold atE;split;rename_i h;rw[akJ];simp only[decide_eq_true_eq];exact⟨λh1 _=>h1,λh1=>h1 h⟩;rename_i h;exact⟨λ_ h1=>absurd h1 h,λ_=>rfl⟩
theorem TOk.ent{last:Int}{l:List (Ent α)}(h:TOk suf last l){x:Ent α}(hx:x∈l):l6 l x.id=some x:=by
 unfold l6;cases hf:l.find? (λy=>decide (y.id=x.id))with
 |none=>exact absurd (akJ.1 hf x hx) amN
 |some y=>rw[h.byI (ak6 hf) hx (by simpa using ak7 hf)]
theorem TOk.find0{last:Int}{l:List (Ent α)}(h:TOk suf last l):aV l d=0↔atE l d=none:=by
 unfold aV;cases hf:atE l d with
 |none=>simp
 | some x =>
   have:=h.ids x (bW hf).2.1;simp only[reduceCtorEq,iff_false];omega
theorem TOk.kids{last:Int}{l:List (Ent α)}(h:TOk suf last l){x:Ent α}(hx:x∈l):aZ (dx l) (NK x.nm)=(l.filter λk=>decide (k.nm.length=x.nm.length+1)&&bA k.nm x.nm).length:=by
 unfold aZ dx;rw[List.filter_map,ajR];congr 1;refine List.filter_congr λk hk=>?_
 rw[ak8];simp only[ak4,ajv,decide_eq_true_eq,bL];constructor;rintro⟨h1,h2⟩;have hl:=congrArg List.length h2;have h3:=akh.2 h1;rw[ak5,aW,aW]at hl;rw[aW]at h3;exact⟨amM,h.ok k hk,h.ok x hx,by rw[<- h2];exact alI _⟩;rintro⟨h1,_,_,h2⟩;have hne:NK k.nm≠[]:=λe=>by have:=congrArg List.length e;rw[aW,aj9]at this;omega
 refine⟨hne,?_⟩;obtain⟨y,e⟩:=h2;have hy:=congrArg List.length e;rw[ajA,aW,aW]at hy;obtain⟨a,rfl⟩:∃a,y=[a]:=List.length_eq_one_iff.1 amM;rw[<- e];rfl
theorem Ru{β:Type}{x y z:List β}(h1:x <:+ z)(h2:y <:+ z)(h:x.length<=y.length):x <:+ y:=List.suffix_of_suffix_length_le h1 h2 h
open Go Go.Sort
def cpS(a b:List UInt8):Int:=if a<b then -1 else if b<a then 1 else 0
def cpP:Pth->Pth->Int
 |[],[]=>0
 |[],_::_=>-1
 |_::_,[]=>1
 |x::a,y::b=>if cpS x y≠0 then cpS x y else cpP a b
theorem aeX(a:List UInt8):¬a<a:=akI a
theorem agD(h:a<b):¬b<a:=List.lt_asymm h
theorem aeW{c:List UInt8}(h1:a<b)(h2:b<c):a<c:=alG h1 h2
theorem aeV(h1:¬a<b)(h2:¬b<a):a=b:=amq (akR.1 h2) (akR.1 h1)
theorem xE(a b:List UInt8):(a<b/\cpS a b=-1)\/(a=b/\cpS a b=0)\/(b<a/\cpS a b=1):=by unfold cpS;by_cases h1:a<b;exact .inl ⟨h1,if_pos h1⟩;rw[if_neg h1];by_cases h2:b<a;exact .inr (.inr ⟨h2,if_pos h2⟩);exact .inr (.inl ⟨aeV h1 h2,if_neg h2⟩)
theorem aeR(a:List UInt8):cpS a a=0:=by unfold cpS;rw[if_neg (aeX a),if_neg (aeX a)]
theorem aeS(h:a<b):cpS a b=-1:=if_pos h
theorem ahS(h:b<a):cpS a b=1:=by unfold cpS;rw[if_neg (agD h),if_pos h]
theorem Zl:∀(a b:Pth),cpP b a=- cpP a b
 |[],[]=>rfl
 |[],_::_=>rfl
 |_::_,[]=>rfl
 | x::a,y::b=>by
   unfold cpP;rcases xE x y with⟨h,e⟩|⟨h,e⟩|⟨h,e⟩
   .rw[e,ahS h];rfl
   .subst h;rw[e];simp only[ne_eq,not_true_eq_false,if_false];exact Zl a b
   .rw[e,aeS h];rfl
theorem Zj:∀{a b:Pth},cpP a b=0->a=b
 |[],[],_=>rfl
 |[],_::_,h=>by simp[cpP]at h
 |_::_,[],h=>by simp[cpP]at h
 | x::a,y::b,h=>by
   unfold cpP at h;rcases xE x y with⟨h1,e⟩|⟨h1,e⟩|⟨h1,e⟩
   .rw[e]at h;simp at h
   .subst h1;rw[e]at h;simp only[ne_eq,not_true_eq_false,if_false]at h;rw[Zj h]
   .rw[e]at h;simp at h
theorem Zk:∀a:Pth,cpP a a=0
 |[]=>rfl
 |x::a=>by unfold cpP;rw[aeR];simpa using Zk a
theorem W5:∀{a b c:Pth},cpP a b<0->cpP b c<0->cpP a c<0
 |[],[],_,h,_=>by exact absurd h (by decide)
 |[],_::_,[],_,h=>by exact absurd h (by show ¬(1:Int)<0;decide)
 |[],_::_,_::_,_,_=>by show(-1:Int)<0;decide
 |_::_,[],_,h,_=>by exact absurd h (by show ¬(1:Int)<0;decide)
 |_::_,_::_,[],_,h=>by exact absurd h (by show ¬(1:Int)<0;decide)
 | x::a,y::b,z::c,h1,h2=>by
   unfold cpP at h1 h2⊢;rcases xE x y with⟨k1,e1⟩|⟨k1,e1⟩|⟨k1,e1⟩
   .rcases xE y z with⟨k2,e2⟩|⟨k2,e2⟩|⟨k2,e2⟩
    .rw[aeS (aeW k1 k2)];simp
    .subst k2;rw[e1];simp
    .rw[e2]at h2;simp at h2
   .subst k1;rcases xE x z with⟨k2,e2⟩|⟨k2,e2⟩|⟨k2,e2⟩
    .rw[e2];simp
    .subst k2;rw[e1]at h1 h2;rw[e1];simp only[ne_eq,not_true_eq_false,if_false]at h1 h2⊢;exact W5 h1 h2
    .rw[e2]at h2;simp at h2
   .rw[e1]at h1;simp at h1
def pLt(a b:Pth):Bool:=decide (cpP a b<0)
theorem abg(a:Pth):pLt a a=false:=by unfold pLt;rw[Zk];rfl
theorem Rx{a b c:Pth}(h1:pLt a b=true)(h2:pLt b c=true):pLt a c=true:=by unfold pLt at *;rw[decide_eq_true_eq]at *;exact W5 h1 h2
theorem Xt{a b:Pth}(h1:pLt a b=false)(h2:pLt b a=false):a=b:=by unfold pLt at *;rw[decide_eq_false_iff_not]at *;rw[Zl a b]at h2;exact Zj amM
theorem YI{a b:Pth}(h:pLt a b=true):pLt b a=false:=by
 cases h2:pLt b a with
 |false=>rfl
 |true=>have:=Rx h h2;rw[abg]at this;cases this
theorem Oc{a b c:Pth}(h1:pLt a b=false)(h2:pLt b c=false):pLt a c=false:=by
 cases h3:pLt a c with
 |false=>rfl
 | true =>
   cases h4:pLt b a with
   |true=>have:=Rx h4 h3;rw[h2]at this;cases this
   |false=>have:=Xt h1 h4;subst this;rw[h2]at h3;cases h3
theorem agc{β:Type}(f:β->Pth):SWO (λx y=>pLt (f x) (f y)):=
 ⟨λx=>abg _,λx y z=>Rx,λx y z=>Oc⟩
variable {α:Type}
def pth(x:Ent α):Pth:=(NK x.nm).reverse
def leE(x y:Ent α):Bool := !pLt (pth y) (pth x)
def gr(a:Ent α)(s:Int)(x:Ent α):Bool:=bA x.nm a.nm&&(decide (s=2) ||decide ((x.nm.length:Int)-a.nm.length=s))
def scL(l:List (Ent α))(a:Ent α)(s:Int):List (Ent α):=(l.filter (gr a s)).mergeSort leE
def scT(l:List (Ent α))(id s:Int):List Int:=match l6 l id with|none=>[]|some a=>if s<0\/2<s then[]else(scL l a s).map (·.id)
theorem Xo{x y:Ent α}(h:pth x=pth y):NK x.nm=NK y.nm:=by have:=congrArg List.reverse h;simpa[pth]using this
theorem WR(a b c:Ent α)(h1:leE a b=true)(h2:leE b c=true):leE a c=true:=by unfold leE at *;simp only[akb]at *;exact Oc h2 h1
theorem WS(a b:Ent α):(leE a b ||leE b a)=true:=by
 unfold leE;cases h:pLt (pth b) (pth a)with
 |false=>rfl
 |true=>rw[YI h];rfl
theorem TOk.one{last:Int}{l:List (Ent α)}(h:TOk suf last l){a:Ent α}{s:Int}{m:List (Ent α)}(hp:m.Perm (l.filter (gr a s)))(hs:m.Pairwise λx y=>leE x y=true):m=scL l a s:=by have h2:=ams (le:=leE) (λa b c=>WR a b c) WS (l.filter (gr a s));have hq:(scL l a s).Perm (l.filter (gr a s)):=ali _ _;refine amD (le:=λx y=>leE x y=true) (λx y hx hy e1 e2=>?_) hs h2 (hp.trans hq.symm);have mx:x∈l:=(aka.1 (hp.mem_iff.1 hx)).1;have my:y∈l:=(aka.1 (hq.mem_iff.1 hy)).1;unfold leE at e1 e2;simp only[akb]at e1 e2;exact h.byN mx my (Xo (Xt e2 e1))
def XG(x:Ent α)(l:List (Ent α)):Nat->Nat
 |0=>0
 |k+1=>match l[k]? with|some y=>if pLt (pth x) (pth y)then XG x l k else k+1|none=>k+1
def acq(x:Ent α)(l:List (Ent α)):List (Ent α):=l.take (XG x l l.length)++[x]++l.drop (XG x l l.length)
theorem WU(x:Ent α)(l:List (Ent α)):∀k,k<=l.length->XG x l k<=k/\(∀j y,XG x l k<=j->j<k->l[j]?=some y->pLt (pth x) (pth y)=true)/\(∀y,XG x l k≠0->l[XG x l k-1]?=some y->pLt (pth x) (pth y)=false)
 |0,_=>⟨ajs _,λj _ _ h=>absurd h (alX _),λy h=>absurd rfl h⟩
 | k+1,h=>by
   unfold XG;have hk:l[k]?=some l[k]:=ajF amM;rw[hk];simp only;by_cases hc:pLt (pth x) (pth l[k])=true
   .rw[if_pos hc];obtain⟨h1,h2,h3⟩:=WU x l k amM;refine⟨amM,λj y hj1 hj2 he=>?_,h3⟩;by_cases e:j=k
    .subst e;rw[hk]at he;injection he with he
     rw[<- he];exact hc
    .exact h2 j y hj1 amM he
   .rw[if_neg hc];refine⟨ajs _,λj y h1 h2=>amM,λy _ he=>?_⟩;rw[Nat.add_sub_cancel,hk]at he;injection he with he
    rw[<- he];simpa using hc
theorem acp(x:Ent α)(l:List (Ent α)):(acq x l).Perm (l++[x]):=by unfold acq;rw[ajD];refine(List.perm_append_comm_assoc _ _ _).trans ?_;rw[ak1];exact List.perm_append_comm
theorem Y1{x:Ent α}{l:List (Ent α)}(hs:l.Pairwise λx y=>leE x y=true):(acq x l).Pairwise λx y=>leE x y=true:=by
 obtain⟨h1,h2,h3⟩:=WU x l l.length (ajs _);unfold acq;obtain⟨k,hk⟩:=ajl (XG x l l.length);rw[hk]at h1 h2 h3⊢;have hup:∀y∈l.drop k,pLt (pth x) (pth y)=true:=λy hy=>by obtain⟨j,hj,e⟩:=akk.1 hy;rw[amp]at e;rw[akQ]at hj;exact h2 (k+j) y amM amM (by rw[ajF amM,e])
 have hdn:∀y∈l.take k,pLt (pth x) (pth y)=false:=λy hy=>by obtain⟨j,hj,e⟩:=akk.1 hy;rw[al8]at e;rw[akH]at hj;have hk0:k≠0:=amM;have hl:l[k-1]?=some (l[k-1]'amM):=ajF amM;have h4:=h3 _ hk0 hl;by_cases ej:j=k-1;subst ej;rw[<- e];exact h4;have h5:=akB.1 hs j (k-1) amM amM amM;rw[e]at h5;unfold leE at h5;rw[akb]at h5;exact Oc h4 h5
 rw[ajD,amC];refine⟨hs.sublist (List.take_sublist _ _),?_,?_⟩;rw[al2,alj];refine⟨λy hy=>?_,hs.sublist (List.drop_sublist _ _)⟩;unfold leE;rw[YI (hup y hy)];rfl;intro a ha b hb;rw[al2]at hb;rcases ajM.1 hb with rfl|hb;unfold leE;rw[hdn a ha];rfl;obtain⟨i,hi,e1⟩:=akk.1 ha;obtain⟨j,hj,e2⟩:=akk.1 hb;rw[al8]at e1;rw[amp]at e2;rw[akH]at hi;rw[akQ]at hj;rw[<- e1,<- e2];exact akB.1 hs i (k+j) amM amM amM
def aai(m l:List (Ent α)):List (Ent α):=l.foldl (λm x=>acq x m) m
theorem WV:∀(l m:List (Ent α)),(aai m l).Perm (m++l)
 |[],m=>by simp[aai]
 |x::l,m=>by unfold aai;rw[akm];refine(WV l (acq x m)).trans ?_;refine((acp x m).append_right l).trans ?_;rw[ajD];rfl
theorem S5:∀(l m:List (Ent α)),(m.Pairwise λx y=>leE x y=true)->(aai m l).Pairwise λx y=>leE x y=true
 |[],m,h=>h
 |x::l,m,h=>by unfold aai;rw[akm];exact S5 l _ (Y1 h)
theorem TOk.ins{last:Int}{l:List (Ent α)}(h:TOk suf last l)(a:Ent α)(s:Int):aai [] (l.filter (gr a s))=scL l a s :=
 h.one (by simpa using WV (l.filter (gr a s)) []) (S5 _ _ List.Pairwise.nil)
theorem TOk.srt{last:Int}{l:List (Ent α)}(h:TOk suf last l)(a:Ent α)(s:Int){m:List (Ent α)}(hp:m.Perm (l.filter (gr a s))):m.mergeSort leE=scL l a s :=
 h.one ((ali _ _).trans hp) (ams (le:=leE) (λa b c=>WR a b c) WS m)
theorem aep{last:Int}{l:List (Ent α)}(h:TOk suf last l){a x:Ent α}(ha:a∈l)(hx:x∈l)(s:Int):gr a s x=(decide (0<=((pth x).length:Int)-(pth a).length)&&decide ((pth x).take (pth a).length=pth a)&&(decide (s=2) ||decide (((pth x).length:Int)-(pth a).length=s))):=by
 have hl:∀x:Ent α,(pth x).length=x.nm.length:=λx=>by simp[pth,aW]
 unfold gr;rw[hl,hl];congr 1;rw[ak8,ajv,decide_eq_true_eq,decide_eq_true_eq,bL];constructor;rintro⟨_,_,y,e⟩;have hy:=congrArg List.length e;rw[ajA,aW,aW]at hy;refine⟨amM,?_⟩;have:pth x=pth a++y.reverse:=by unfold pth;rw[<- e,List.reverse_append]
 rw[this,<- hl a,List.take_left'];rfl;rintro⟨h1,h2⟩;refine⟨h.ok x hx,h.ok a ha,?_⟩;have h3:pth a <+: pth x:=by rw[<- h2];exact List.take_prefix _ _
 unfold pth at h3;exact List.reverse_prefix.1 h3
variable {α:Type}
def gm(n:List Rdn)(k:Nat)(tn:List Rdn):List Rdn:=n.take (n.length-k)++tn
def Z3(l:List (Ent α))(id:Int)(tn:List Rdn):Bool:=match atE l tn with|some y=>decide (y.id≠id)|none=>false
def aaG(l:List (Ent α))(dn tn:List Rdn):Bool:=l.any λy=>bA y.nm dn && !decide (OkD (gm y.nm dn.length tn))
def Xx(suf:List Rdn)(l:List (Ent α))(id:Int)(dn tn:List Rdn):Int :=
 if gF dn suf=true then 53 else if ¬OkD tn\/tn=[]then 34 else if bA tn.tail dn=true then 53 else if atE l tn.tail=none then 32 else if Z3 l id tn=true then 68 else if aaG l dn tn=true then 34 else 0
def fe(suf:List Rdn)(l:List (Ent α))(k:Int)(dn tn:List Rdn):Int :=
 if k<1\/4<k then 1
 else if k=1 then(if ¬OkD dn then 34 else if atE l dn≠none then 68 else if gF dn suf=false/\(dn=[]\/atE l dn.tail=none)then 32 else if 4096<=l.length then 80 else 0)
 else match atE l dn with
  |none=>32
  |some x=>if k=2 then(if aZ (dx l) (NK x.nm)≠0 then 66 else 0)else if k=3 then 0 else Xx suf l x.id dn tn
def qu(l:List (Ent α))(last:Int)(dn:List Rdn)(v:α):List (Ent α):=l++[⟨last+1,dn,v⟩]
def Ra(l:List (Ent α))(id:Int):List (Ent α):=l.filter λx=>decide (x.id≠id)
def qf(l:List (Ent α))(id:Int)(v:α):List (Ent α):=l.map λx=>if x.id=id then{x with av:=v}else x
def kQ(l:List (Ent α))(dn tn:List Rdn):List (Ent α):=l.map λx=>if bA x.nm dn=true then{x with nm:=gm x.nm dn.length tn}else x
def doT(suf:List Rdn)(l:List (Ent α))(last:Int)(k:Int)(dn tn:List Rdn)(v:α):List (Ent α)×Int :=
 if fe suf l k dn tn≠0 then(l,last)
 else if k=1 then(qu l last dn v,last+1)
 else if k=2 then(Ra l (aV l dn),last)
 else if k=3 then(qf l (aV l dn) v,last)
 else(qf (kQ l dn tn) (aV l dn) v,last)
theorem YP(l:List (Ent α))(last:Int)(dn:List Rdn)(v:α):dx (qu l last dn v)=dx l++[(last+1,NK dn)]:=by simp[dx,qu]
theorem YO(l:List (Ent α))(id:Int):dx (Ra l id)=(dx l).filter λm=>decide (m.1≠id):=by unfold dx Ra;rw[List.filter_map];rfl
theorem UO(l:List (Ent α))(id:Int)(v:α):dx (qf l id v)=dx l:=by
 unfold dx qf;rw[ajS];refine akF λx _=>?_
 simp only[ak4];split<;>rfl
theorem abh{n:List Rdn}(h:bA n dn=true):NK (gm n dn.length tn)=ren (NK dn) (NK tn) (NK n):=by obtain⟨_,_,hs⟩:=bL.1 h;unfold ren;rw[if_pos hs,aW,aW];unfold gm;rw[ah9];congr 1;simp[NK,amd]
theorem TOk.ndOf_ren{last:Int}{l:List (Ent α)}(h:TOk suf last l)(hd:OkD dn)(tn:List Rdn):dx (kQ l dn tn)=(dx l).map λm=>(m.1,ren (NK dn) (NK tn) m.2):=by
 unfold dx kQ;rw[ajS,ajS];refine akF λx hx=>?_
 simp only[ak4];by_cases hu:bA x.nm dn=true;rw[if_pos hu,abh hu];rw[if_neg hu];rw[fT λhs=>hu (bL.2 ⟨h.ok x hx,hd,hs⟩)]
theorem TOk.nil{last:Int}(h:OkD suf)(hs:suf≠[]):TOk (α:=α) suf last []:=
 ⟨h,λ_ h=>absurd h akl,qv.nil λe=>hs (JQ.1 e),λ_ h=>absurd h akl⟩
theorem TOk.cha{last:Int}{l:List (Ent α)}(h:TOk suf last l)(id:Int)(v:α):TOk suf last (qf l id v):=by
 refine⟨h.sok,λx hx=>?_,by rw[UO];exact h.inv,λx hx=>?_⟩
 all_goals
  obtain⟨y,hy,rfl⟩:=ajy.1 hx;split
  .first|exact h.ok y hy|exact h.ids y hy
  .first|exact h.ok y hy|exact h.ids y hy
structure ai6(suf:List Rdn)(l:List (Ent α))(dn:List Rdn):Prop where
 ok:OkD dn
 no:∀x∈l,NK x.nm≠NK dn
 par:NK dn=NK suf\/∃x∈l,NK x.nm=(NK dn).tail
theorem TOk.canA{last:Int}{l:List (Ent α)}(h:TOk suf last l)(ha:fe suf l 1 dn tn=0):ai6 suf l dn/\l.length<4096:=by
 unfold fe at ha;rw[if_neg (by decide),if_pos rfl]at ha;by_cases h1:OkD dn;rotate_left;rw[if_pos h1]at ha;exact absurd ha (by decide);rw[if_neg (by simpa using h1)]at ha;by_cases h2:atE l dn=none;rotate_left;rw[if_pos h2]at ha;exact absurd ha (by decide);rw[if_neg (by simpa using h2)]at ha;by_cases h3:gF dn suf=false/\(dn=[]\/atE l dn.tail=none);rw[if_pos h3]at ha;exact absurd ha (by decide);rw[if_neg h3]at ha;by_cases h4:4096<=l.length;rw[if_pos h4]at ha;exact absurd ha (by decide);refine⟨⟨h1,qt.1 h2 h1,?_⟩,amM⟩;cases hs:gF dn suf with
 |true=>exact .inl (Uq.1 hs).2.2
 | false =>
   right;have h5:¬(dn=[]\/atE l dn.tail=none):=λe=>h3 ⟨hs,e⟩
   cases ht:atE l dn.tail with
   |none=>exact absurd (.inr ht) h5
   | some x =>
     obtain⟨_,hx,e⟩:=bW ht;exact⟨x,hx,by rw[e,Rp]⟩
theorem TOk.add{last:Int}{l:List (Ent α)}(h:TOk suf last l)(hl:0<=last)(hc:ai6 suf l dn)(v:α):
  TOk suf (last+1) (qu l last dn v)/\aZ (dx (qu l last dn v)) (NK dn)=0/\∀q,aZ (dx (qu l last dn v)) q=aZ (dx l) q+if(NK dn).tail=q then 1 else 0:=by
 obtain⟨h1,h2,h3⟩:=h.inv.added (id:=last+1) (p:=NK dn) (λm hm=>by
  obtain⟨x,hx,rfl⟩:=ajy.1 hm;have:=h.ids x hx;simp only;omega) (λm hm=>by
  obtain⟨x,hx,rfl⟩:=ajy.1 hm;exact hc.no x hx) (by
  rcases hc.par with e|⟨x,hx,e⟩;exact .inl e;exact .inr ⟨_,fH hx,e⟩)
 rw[YP];refine⟨⟨h.sok,λx hx=>?_,by rw[YP];exact h1,λx hx=>?_⟩,h2,h3⟩;rcases ajx.1 hx with hx|hx;exact h.ok x hx;rw[ajI.1 hx];exact hc.ok;rcases ajx.1 hx with hx|hx;have:=h.ids x hx;omega;rw[ajI.1 hx];simp only;omega
theorem TOk.del{last:Int}{l:List (Ent α)}(h:TOk suf last l){x:Ent α}(hx:x∈l)(h0:aZ (dx l) (NK x.nm)=0):
  TOk suf last (Ra l x.id)/\∀q,aZ (dx (Ra l x.id)) q+(if(NK x.nm).tail=q then 1 else 0)=aZ (dx l) q:=by
 obtain⟨h1,h2⟩:=h.inv.deleted (fH hx) h0;rw[YO];refine⟨⟨h.sok,λy hy=>h.ok y (aka.1 hy).1,by rw[YO];exact h1,λy hy=>h.ids y (aka.1 hy).1⟩,h2⟩
structure aif(suf:List Rdn)(l:List (Ent α))(x:Ent α)(dn tn:List Rdn):Prop where
 mem:x∈l
 ok:OkD dn
 nk:NK x.nm=NK dn
 tok:OkD tn
 tne:tn≠[]
 nos:NK dn≠NK suf
 nun:¬NK dn <:+ (NK tn).tail
 par:∃y∈l,NK y.nm=(NK tn).tail
 oth:∀y∈l,NK y.nm=NK tn->y=x
 all:∀y∈l,bA y.nm dn=true->OkD (gm y.nm dn.length tn)
theorem TOk.canM{last:Int}{l:List (Ent α)}(h:TOk suf last l){x:Ent α}(hx:atE l dn=some x)(ha:Xx suf l x.id dn tn=0):aif suf l x dn tn:=by
 obtain⟨hd,hm,e⟩:=bW hx;unfold Xx at ha;by_cases h1:gF dn suf=true;rw[if_pos h1]at ha;exact absurd ha (by decide);rw[if_neg h1]at ha;by_cases h2:¬OkD tn\/tn=[];rw[if_pos h2]at ha;exact absurd ha (by decide);rw[if_neg h2]at ha;have ht:OkD tn:=by by_cases c:OkD tn;exact c;exact absurd (.inl c) h2
 by_cases h3:bA tn.tail dn=true;rw[if_pos h3]at ha;exact absurd ha (by decide);rw[if_neg h3]at ha;by_cases h4:atE l tn.tail=none;rw[if_pos h4]at ha;exact absurd ha (by decide);rw[if_neg h4]at ha;by_cases h5:Z3 l x.id tn=true;rw[if_pos h5]at ha;exact absurd ha (by decide);rw[if_neg h5]at ha;by_cases h6:aaG l dn tn=true;rw[if_pos h6]at ha;exact absurd ha (by decide);refine⟨hm,hd,e,ht,λc=>h2 (.inr c),λc=>h1 (Uq.2 ⟨hd,h.sok,c⟩),λc=>h3 (bL.2 ⟨ht.tail,hd,by rw[Rp];exact c⟩),?_,λy hy c=>?_,λy hy hu=>?_⟩;cases h7:atE l tn.tail with
 |none=>exact absurd h7 h4
 | some y =>
   obtain⟨_,hy,e2⟩:=bW h7;exact⟨y,hy,by rw[e2,Rp]⟩
 have:=h.at hy ht c.symm;unfold Z3 at h5;rw[this]at h5;simp only[decide_eq_true_eq,ne_eq,alH]at h5;exact h.byI hy hm h5;have h7:=alr.1 (by simpa[aaG]using h6:(l.any λy=>bA y.nm dn && !decide (OkD (gm y.nm dn.length tn)))=false) y hy;rw[hu]at h7;simpa using h7
theorem TOk.mov{last:Int}{l:List (Ent α)}(h:TOk suf last l){x:Ent α}(hc:aif suf l x dn tn):
  TOk suf last (kQ l dn tn)/\∀y∈l,(aZ (dx (kQ l dn tn)) (ren (NK dn) (NK tn) (NK y.nm)):Int)=aZ (dx l) (NK y.nm)+(if NK y.nm=(NK tn).tail then 1 else 0)-(if NK y.nm=(NK dn).tail then 1 else 0):=by
 have hm:(x.id,NK dn)∈dx l:=by rw[<- hc.nk];exact fH hc.mem
 obtain⟨h1,h2⟩:=h.inv.moved hm hc.nos (λe=>hc.tne (JQ.1 e)) hc.nun (by
  obtain⟨y,hy,e⟩:=hc.par;exact⟨_,fH hy,e⟩) (λm hm e=>by
  obtain⟨y,hy,rfl⟩:=ajy.1 hm;rw[hc.oth y hy e])
 rw[h.ndOf_ren hc.ok];refine⟨⟨h.sok,λy hy=>?_,by rw[h.ndOf_ren hc.ok];exact h1,λy hy=>?_⟩,λy hy=>h2 _ (fH hy)⟩;obtain⟨z,hz,rfl⟩:=ajy.1 hy;split;rename_i hu;exact hc.all z hz hu;exact h.ok z hz;obtain⟨z,hz,rfl⟩:=ajy.1 hy;split;exact h.ids z hz;exact h.ids z hz
theorem TOk.done{last:Int}{l:List (Ent α)}(h:TOk suf last l)(hl:0<=last)(k:Int)(dn tn:List Rdn)(v:α):TOk suf (doT suf l last k dn tn v).2 (doT suf l last k dn tn v).1/\last<=(doT suf l last k dn tn v).2/\(doT suf l last k dn tn v).2<=last+1/\(doT suf l last k dn tn v).1.length<=l.length+1:=by
 unfold doT;by_cases h0:fe suf l k dn tn=0;rotate_left;rw[if_pos h0];exact⟨h,alY _,amM,Nat.le_succ _⟩;rw[if_neg (by simpa using h0)];by_cases h1:k=1;subst h1;rw[if_pos rfl];exact⟨(h.add hl (h.canA h0).1 v).1,by simp only;omega,by simp only;omega,by simp[qu]⟩;rw[if_neg h1];unfold fe at h0;by_cases hk:k<1\/4<k;rw[if_pos hk]at h0;exact absurd h0 (by decide);rw[if_neg hk,if_neg h1]at h0;cases hx:atE l dn with
 |none=>rw[hx]at h0;simp at h0
 | some x =>
   rw[hx]at h0;simp only at h0;have hf:aV l dn=x.id:=(by unfold aV;rw[hx]);rw[hf];by_cases h2:k=2
   .rw[if_pos h2]at h0⊢;by_cases h3:aZ (dx l) (NK x.nm)=0
    .exact⟨(h.del (bW hx).2.1 h3).1,alY _,by simp only;omega,Nat.le_succ_of_le (ak9 _ _)⟩
    .rw[if_pos h3]at h0;exact absurd h0 (by decide)
   rw[if_neg h2]at h0⊢;by_cases h3:k=3
   .rw[if_pos h3];exact⟨h.cha _ _,alY _,by simp only;omega,by simp[qf]⟩
   rw[if_neg h3]at h0⊢;exact⟨(h.mov (h.canM hx h0)).1.cha _ _,alY _,by simp only;omega,by simp[qf,kQ]⟩
structure Rul where
 who:Int
 dn:List UInt8
 wh:List UInt8
 at_:List UInt8
 rg:Int
 al:Bool
deriving Inhabited
def Kj(r:Rul):List AV:=[.int .i64 r.who,.str r.dn,.str r.wh,.str r.at_,.int .i64 r.rg,.bool r.al]
def rlC(r:Rul):List AV:=Kj r++[.sl ((da r.dn).1.map ah) (da r.dn).1.length none,.sl ((da r.wh).1.map ah) (da r.wh).1.length none]
def dz(l:List Rul):List AV:=l.flatMap Kj
def iL(l:List Rul):List AV:=l.flatMap rlC
theorem WA(l:List Rul):(dz l).length=l.length*6:=by
 induction l with
 |nil=>rfl
 |cons a l ih=>simp only[dz,aj5,ajA,ajz]at *;rw[ih];simp[Kj];omega
theorem adK(l:List Rul):(iL l).length=l.length*8:=by
 induction l with
 |nil=>rfl
 |cons a l ih=>simp only[iL,aj5,ajA,ajz]at *;rw[ih];simp[rlC,Kj];omega
theorem adL(l m:List Rul):iL (l++m)=iL l++iL m:=by simp[iL]
theorem XP{α:Type}[Inhabited α]{f:α->List AV}{n:Nat}(hf:∀a,(f a).length=n):∀{l:List α}{k:Nat},k<l.length->((l.flatMap f).drop (k*n)).take n=f (l.getD k default)
 |a::l,0,_=>by simp[List.take_append_of_le_length (Nat.le_of_eq (hf a).symm),<- hf a]
 |a::l,k+1,h=>by rw[aj5,alJ,Nat.add_comm,<- List.drop_drop,List.drop_left' (hf a),alQ];exact XP hf (by simpa using h)
theorem Yr{l:List Rul}{k:Nat}(h:k<l.length):((dz l).drop (k*6)).take 6=Kj (l.getD k default):=XP (f:=Kj) (n:=6) (λ_=>rfl) h
theorem af0{l:List Rul}{k:Nat}(h:k<l.length):((iL l).drop (k*8)).take 8=rlC (l.getD k default):=XP (f:=rlC) (n:=8) (λ_=>rfl) h
def bkE(ts:List Typ)(r:Rul):Int :=
 if r.who<0\/4<r.who then 24
 else if(da r.dn).2≠0 then(da r.dn).2
 else if r.who<3/\(da r.dn).1≠[]then 2
 else if(da r.wh).2≠0 then(da r.wh).2
 else if r.at_≠[]/\fS ts r.at_=none then 20
 else if r.rg<1\/15<r.rg then 23
 else 0
def OH(ts:List Typ):List Rul->Int
 |[]=>0
 |r::l=>if bkE ts r≠0 then bkE ts r else OH ts l
theorem Xa{ts:List Typ}:∀{l:List Rul},OH ts l=0↔∀r∈l,bkE ts r=0
 |[]=>by simp[OH]
 | r::l=>by
   unfold OH;by_cases h:bkE ts r=0
   .rw[if_neg (by simpa using h),Xa];simp[h]
   .rw[if_pos h];simp[h]
def aaF(g right:Int):Bool:=decide ((g/right)%2=1)
def Ka(r:Int):Prop:=r=1\/r=2\/r=4\/r=8
theorem Ub:∀n:Nat,n<16->∀m:Nat,m<4->(!decide (IntKind.i64.wrap ((BitVec.ofInt 64 (n:Int) &&& BitVec.ofInt 64 ((2^m:Nat):Int)).toNat:Int)=0))=aaF (n:Int) ((2^m:Nat):Int)/\((n:Int).tdiv ((2^m:Nat):Int)).tmod 2=((n:Int)/((2^m:Nat):Int))%2:=by decide
theorem aeZ{g r:Int}(h1:1<=g)(h2:g<=15)(hr:Ka r):(!decide (IntKind.i64.wrap ((BitVec.ofInt 64 g &&& BitVec.ofInt 64 r).toNat:Int)=0))=aaF g r/\(g.tdiv r).tmod 2=(g/r)%2:=by obtain⟨n,rfl⟩:∃n:Nat,g=n:=⟨g.toNat,amM⟩;have hn:n<16:=amM;rcases hr with rfl|rfl|rfl|rfl;exact Ub n hn 0 amM;exact Ub n hn 1 amM;exact Ub n hn 2 amM;exact Ub n hn 3 amM
def abO(r:Rul)(who ent:List Rdn):Bool :=
 if r.who=1 then !decide (who=[])else if r.who=2 then gF who ent else if r.who=3 then gF who (da r.dn).1 else if r.who=4 then !decide (who=[])&&bA who (da r.dn).1 else true
def Yn(who ent:List Rdn)(n:List UInt8)(right:Int)(r:Rul):Bool :=
 aaF r.rg right&&(decide (r.at_=[]) ||decide (ag r.at_=ag n))&&bA ent (da r.wh).1&&abO r who ent
def YS(rs:List Rul)(who ent:List Rdn)(n:List UInt8)(right:Int):Bool:=match rs.find? (Yn who ent n right)with|some r=>r.al|none=>false
def YR(adm:List Rdn)(rs:List Rul)(who ent:List Rdn)(n:List UInt8)(right:Int):Bool :=
 decide (OkD who)&&decide (OkD ent)&&((!decide (who=[])&&gF who adm) ||YS rs who ent n right)
theorem WN(r:Rul)(rs:List Rul)(who ent:List Rdn)(n:List UInt8)(right:Int):YS (r::rs) who ent n right=if Yn who ent n right r=true then r.al else YS rs who ent n right:=by unfold YS;rw[aln];cases Yn who ent n right r<;>rfl
end Go.Proofs.YtdnfjhflkkpokaaGreatDoor.Av
