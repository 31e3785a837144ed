/- Joined texts of the walk, made small by a program. -/
import Derived.Test.YtcmfcpjnhephaaaGreatDoorVk7
import Derived.Test.YtcmfcpjnhephaaaGreatDoorVk6
import Derived.Test.YtcmfcpjnhephaaaGreatDoorVk5
import Derived.Lib.ValidLaws
import Derived.Sort.Walk0
import Derived.Test.YtcmfcpjnhephaaaGreatDoorVk9
import Derived.Test.YtcmfcpjnhephaaaGreatDoorVk8
import Derived.Test.YtcmfcpjnhephaaaGreatDoorVk4
import Derived.Test.YtcmfcpjnhephaaaGreatDoorRows
import Derived.KernelRfl
set_option linter.unusedSimpArgs false
set_option linter.unusedVariables false
namespace Go.Proofs.YtcmfcpjnhephaaaGreatDoor.Av
open Go
variable {s v t b:List UInt8}{c x:UInt8}{i n b0 b1 b2 b3:Nat}{syn:Int}
variable {L:List Blk}{K:ag7}
set_option maxHeartbeats 8000000
set_option maxRecDepth 100000
def oV(b:Nat):Nat×Nat:=if 240<=b then(4,b-240)else if 224<=b then(3,b-224)else if 192<=b then(2,b-192)else(1,b)
def Ml(n c:Nat):Bool:=decide (¬(n=2/\c<128\/n=3/\c<2048\/n=4/\c<65536\/1114111<c\/55296<=c/\c<57344))
def Lz:Nat->List UInt8->Nat->Option Nat
 |0,_,c=>some c
 |_+1,[],_=>none
 |k+1,x::t,c=>if 128<=x.toNat/\x.toNat<192 then Lz k t (c*64+x.toNat-128)else none
def P4:Nat->List UInt8->Bool
 |_,[]=>true
 |0,_::_=>true
 | f+1,b::t=>if 128<=b.toNat/\b.toNat<192 then false else if t.length+1<(oV b.toNat).1 then false else
   match Lz ((oV b.toNat).1-1) t (oV b.toNat).2 with
   |none=>false
   |some c=>Ml (oV b.toNat).1 c&&P4 f (t.drop ((oV b.toNat).1-1))
theorem X6(hs:s.length<=1100000)(h:K (.bool (P4 s.length s)) L):ag6 89 [.str s] L K:=by
 obtain⟨R,hR⟩:=ag2 (P4 s.length s);rw[hR]at h;replace h:=hid h;refine ag5 R4 ?_;refine ak (λn T' L'=>∃(f:Nat) (u:List UInt8),f=n/\u.length<=1100000/\Hid (u.length<=f/\P4 f u=R)/\T'=[(0,.str u)]/\L=L') (CutS (b:=ag9 _)) ⟨s.length,s,rfl,hs,hid ⟨ag9 _,hR⟩,rfl,rfl⟩ ?_;clear hR hs;rintro _ _ _ ⟨f,u,rfl,hu,hI,rfl,rfl⟩;rcases u with _|⟨b,t⟩;have h':=h.out;rw[<- hI.out.2,show P4 f []=true by cases f<;>rfl]at h';replace h':=hid h';have e0:([]:List UInt8).length=0:=rfl;refine wk ?_;exact aa h'.out;obtain⟨u,hut⟩:=ag2 (b::t);obtain⟨f,rfl⟩:∃g,f=g+1:=⟨f-1,by have:=hI.out.1;simp at this;omega⟩;have hb0:u.getD 0 0=b:=by rw[<- hut];rfl
 have hul:u.length=t.length+1:=by rw[<- hut];rfl
 have hI2:=hI.out.2;have hfl:=hI.out.1;rw[P4]at hI2;rw[hut]at hu hfl⊢;obtain⟨x,hx⟩:=ag2 (b.toNat);have hx256:x<256:=by rw[<- hx];exact b.toNat_lt
 rw[hx]at hI2;have hpos:(0:Int)<(u.length:Int):=by omega
 have w0:IntKind.i64.wrap (x:Int)=(x:Int):=ac (by omega) (by omega);have hxi:(b.toNat:Int)=(x:Int):=by omega
 have hbad:R=false->Fin L (.bool false) L K:=λe=>aa (by have h':=h.out;rwa[e]at h')
 replace hbad:=hid hbad;have hdr:∀i,u.drop (i+1)=t.drop i:=λi=>by rw[<- hut];rfl
 replace hut:=hid hut;replace hul:=hid hul;clear hx hI;by_cases hmid:128<=x/\x<192;rw[if_pos hmid]at hI2;have c1:¬(240:Int)<=(x:Int):=by omega
 have c2:¬(224:Int)<=(x:Int):=by omega
 have c3:¬(192:Int)<=(x:Int):=by omega
 have c4:(128:Int)<=(x:Int):=by omega
 have e:=hid hI2.symm;clear hmid hI2;refine wk ?_;exact hbad.out e.out;rw[if_neg hmid]at hI2;obtain⟨⟨n,c0⟩,hn⟩:∃p,oV x=p:=⟨_,rfl⟩;rw[hn]at hI2;simp only at hI2;have hn14:1<=n/\n<=4/\c0<256:=by
  unfold oV at hn
  repeat' split at hn
  all_goals (cases hn;omega)
 obtain⟨hn1,hn4,hc0⟩:=hn14;replace hI2:=hid hI2
 iterate 13 first
  |refine br ?_
  | (first|refine bh (by kernel_rfl) ?_|refine aH (by kernel_rfl) ?_|refine aK ?_|refine cO ?_|refine bB (fun _=>?_)|refine aB ?_|refine bm ?_)
    simp(config:={maxSteps:=2000000}) only[Kon,push_cast,reduceIte,Nat.reduceEqDiff,Nat.reduceAdd,Nat.reduceMul,Nat.reduceSub,Nat.reduceLT,Nat.reduceLeDiff,Int.reduceLT,Int.reduceLE,Int.reduceAdd,Int.reduceSub,Int.reduceNeg,Int.reduceToNat,Int.reduceEq,reduceCtorEq, *]
  | (first|refine a8 (by kernel_rfl) ?_|refine bc ?_|refine aJ ?_|refine bj ?_|refine bG (aA ?_))
    simp only[push_cast,reduceIte,Nat.reduceEqDiff,Nat.reduceAdd,Nat.reduceMul,Nat.reduceSub,Nat.reduceLT,Nat.reduceLeDiff,Int.reduceLT,Int.reduceLE,Int.reduceAdd,Int.reduceSub,Int.reduceNeg,Int.reduceToNat,Int.reduceEq,reduceCtorEq, *]
  |exact bC
  |first|apply bD|apply be|apply bE|apply bf|apply bF|apply bg
  |refine aN ?_
  |refine aI ?_
  |first|refine aL rfl ?_|refine aM rfl ?_|refine aw rfl ?_ ?_|refine aQ rfl (λ_=>?_) (λ_=>?_)|refine aP rfl (λ_=>?_) (λ_=>?_)
  |((first|refine au (λ_=>?_) (λ_=>?_)|refine az (λ_=>?_) (λ_=>?_))<;>try simp(config:={maxSteps:=2000000}) only[Kon,push_cast,reduceIte,Nat.reduceEqDiff,Nat.reduceAdd,Nat.reduceMul,Nat.reduceSub,Nat.reduceLT,Nat.reduceLeDiff,Int.reduceLT,Int.reduceLE,Int.reduceAdd,Int.reduceSub,Int.reduceNeg,Int.reduceToNat,Int.reduceEq,reduceCtorEq, *])
  |refine And.intro trivial ?_
  |refine And.intro (by omega) ?_
  |refine aU rfl (λ_=>?_) (λ_=>?_)
  |refine And.intro ?_ ?_
 refine QI (λT2 L2=>T2=[(4,.int .i64 (n:Int)),(3,.int .i64 (c0:Int)),(0,.str u)]/\L=L2) ?_ ?_;unfold oV at hn;by_cases q1:240<=x;rw[if_pos q1]at hn;cases hn;have c1:(240:Int)<=(x:Int):=by omega
 have w1:IntKind.i64.wrap ((x:Int)-240)=((x-240:Nat):Int):=by rw[ac (by omega) (by omega)];omega
 obtain⟨d,hd⟩:=ag2 (x-240);rw[hd]at w1⊢;clear q1 hd hmid;refine wk ?_;exact rS _ _ (CutL (b:=by simp)) ⟨rfl,rfl⟩;rw[if_neg q1]at hn;have c1:¬(240:Int)<=(x:Int):=by omega
 by_cases q2:224<=x;rw[if_pos q2]at hn;cases hn;have c2:(224:Int)<=(x:Int):=by omega
 have w1:IntKind.i64.wrap ((x:Int)-224)=((x-224:Nat):Int):=by rw[ac (by omega) (by omega)];omega
 obtain⟨d,hd⟩:=ag2 (x-224);rw[hd]at w1⊢;clear q1 q2 hd hmid;refine wk ?_;exact rS _ _ (CutL (b:=by simp)) ⟨rfl,rfl⟩;rw[if_neg q2]at hn;have c2:¬(224:Int)<=(x:Int):=by omega
 by_cases q3:192<=x;rw[if_pos q3]at hn;cases hn;have c3:(192:Int)<=(x:Int):=by omega
 have w1:IntKind.i64.wrap ((x:Int)-192)=((x-192:Nat):Int):=by rw[ac (by omega) (by omega)];omega
 obtain⟨d,hd⟩:=ag2 (x-192);rw[hd]at w1⊢;clear q1 q2 q3 hd hmid;refine wk ?_;exact rS _ _ (CutL (b:=by simp)) ⟨rfl,rfl⟩;rw[if_neg q3]at hn;cases hn;have c3:¬(192:Int)<=(x:Int):=by omega
 have c4:¬(128:Int)<=(x:Int):=by omega
 clear q1 q2 q3 hmid;refine wk ?_;exact rS _ _ (CutL (b:=by simp)) ⟨rfl,rfl⟩;rintro _ _ ⟨rfl,rfl⟩ -;clear hn hmid hxi w0;by_cases hsh:t.length+1<n;have hI3:=hI2.out;rw[if_pos hsh]at hI3;have k1:(u.length:Int)<(n:Int):=by have:=hul.out;omega
 have e:=hid hI3.symm;clear hsh hI3;refine wk ?_;exact hbad.out e.out;have hI3:=hI2.out;rw[if_neg hsh]at hI3;have k1:¬(u.length:Int)<(n:Int):=by have:=hul.out;omega
 have hnu:n<=u.length:=by have:=hul.out;omega
 obtain⟨o,ho⟩:=ag2 (Lz (n-1) t c0);rw[ho]at hI3;replace hI3:=hid hI3;clear hI2;refine wk ?_;refine ak (λm T' L'=>∃(i c:Nat),m=n-i/\1<=i/\i<=n/\c<256*64^(i-1)/\Hid (Lz (n-i) (u.drop i) c=o)/\T'=[(5,.int .i64 (i:Int)),(4,.int .i64 (n:Int)),(3,.int .i64 (c:Int)),(0,.str u)]/\L=L') (CutS (b:=ag9 _)) ⟨1,c0,rfl,ag9 _,hn1,by simpa using hc0,hid (by rw[hdr 0];exact ho),rfl,rfl⟩ ?_;clear ho;rintro _ _ _ ⟨i,c,rfl,hi1,hin,hc,hO,rfl,rfl⟩;have hc4:c<67108864:=by refine aiA hc ?_;have:i=1\/i=2\/i=3\/i=4:=(by omega);rcases this with rfl|rfl|rfl|rfl<;>decide
 by_cases hlt:i<n;have g1:(i:Int)<(n:Int):=by omega
 have g2:(i:Int)<(u.length:Int):=by omega
 have g3:=ag4 i (by omega);obtain⟨y,hy⟩:=ag2 (u.getD i 0);obtain⟨z,hz⟩:=ag2 (y.toNat);have hz256:z<256:=by rw[<- hz];exact y.toNat_lt
 have hzi:(y.toNat:Int)=(z:Int):=by omega
 have hO2:=hO.out;rw[mz (show i<u.length by omega),hy,show n-i=(n-(i+1))+1 by omega,Lz,hz]at hO2;have w1:IntKind.i64.wrap (z:Int)=(z:Int):=ac (by omega) (by omega);clear hz;by_cases hcn:128<=z/\z<192;rw[if_pos hcn]at hO2;have k2:¬(z:Int)<128:=by omega
 have k3:¬(192:Int)<=(z:Int):=by omega
 have w2:IntKind.i64.wrap ((c:Int)*64)=(c:Int)*64:=ac (by omega) (by omega);have w3:IntKind.i64.wrap ((c:Int)*64+(z:Int))=(c:Int)*64+(z:Int):=ac (by omega) (by omega);have w4:IntKind.i64.wrap ((c:Int)*64+(z:Int)-128)=((c*64+z-128:Nat):Int):=by rw[ac (by omega) (by omega)];omega
 have hcc:c*64+z-128<256*64^(i+1-1):=by have:i=1\/i=2\/i=3:=(by omega);rcases this with rfl|rfl|rfl<;>simp at hc⊢<;>omega
 obtain⟨c',hc'⟩:=ag2 (c*64+z-128);rw[hc']at w4 hO2 hcc;replace hO2:=hid hO2;clear hcn hc';refine wk ?_;exact ah _ _ _ (by omega) (CutL (b:=by simp)) ⟨i+1,c',rfl,by omega,hlt,hcc,hO2,rfl,rfl⟩;rw[if_neg hcn]at hO2;have hI4:=hI3.out;rw[<- hO2]at hI4;have e:=hid hI4.symm;by_cases k2:(z:Int)<128;clear hcn hO2 hI4;refine wk ?_;exact hbad.out e.out;have k3:(192:Int)<=(z:Int):=by omega
 clear hcn hO2 hI4;refine wk ?_;exact hbad.out e.out
 .have hke:i=n:=(by omega);subst hke;have g1:¬(i:Int)<(i:Int):=(by omega);have hO2:=hO.out;rw[aiv,Lz]at hO2;have hI4:=hI3.out;rw[<- hO2]at hI4;simp only[Ml]at hI4;have e1:((i:Int)).toNat=i:=(by omega);have g2:(i:Int)<=(u.length:Int):=(by omega);have e2:(u.drop i).take (u.length-i)=u.drop i:=aib (by simp);have e3:u.drop i=t.drop (i-1):=(by rw[<- hdr (i-1),show i-1+1=i by omega]);have hb2:(i=2/\c<128\/i=3/\c<2048\/i=4/\c<65536\/1114111<c\/55296<=c/\c<57344)->R=false:=λe=>by rw[decide_eq_false (λhn=>hn e),aiE]at hI4;exact hI4.symm
  have hg2:¬(i=2/\c<128\/i=3/\c<2048\/i=4/\c<65536\/1114111<c\/55296<=c/\c<57344)->P4 f (u.drop i)=R:=λe=>by rw[decide_eq_true e,aia]at hI4;rw[e3];exact hI4
  replace hb2:=hid hb2;replace hg2:=hid hg2;replace e3:=hid e3;clear hI4 hO2 hI3
  repeat' first
   |refine br ?_
   | (first|refine bh (by kernel_rfl) ?_|refine aH (by kernel_rfl) ?_|refine aK ?_|refine cO ?_|refine bB (fun _=>?_)|refine aB ?_|refine bm ?_)
     simp(config:={maxSteps:=2000000}) only[Kon,push_cast,reduceIte,Nat.reduceEqDiff,Nat.reduceAdd,Nat.reduceMul,Nat.reduceSub,Nat.reduceLT,Nat.reduceLeDiff,Int.reduceLT,Int.reduceLE,Int.reduceAdd,Int.reduceSub,Int.reduceNeg,Int.reduceToNat,Int.reduceEq,reduceCtorEq, *]
   | (first|refine a8 (by kernel_rfl) ?_|refine bc ?_|refine aJ ?_|refine bj ?_|refine bG (aA ?_))
     simp only[push_cast,reduceIte,Nat.reduceEqDiff,Nat.reduceAdd,Nat.reduceMul,Nat.reduceSub,Nat.reduceLT,Nat.reduceLeDiff,Int.reduceLT,Int.reduceLE,Int.reduceAdd,Int.reduceSub,Int.reduceNeg,Int.reduceToNat,Int.reduceEq,reduceCtorEq, *]
   |exact bC
   |first|apply bD|apply be|apply bE|apply bf|apply bF|apply bg
   |refine aN ?_
   |refine aI ?_
   |first|refine aL rfl ?_|refine aM rfl ?_|refine aw rfl ?_ ?_|refine aQ rfl (λ_=>?_) (λ_=>?_)|refine aP rfl (λ_=>?_) (λ_=>?_)
   |((first|refine au (λ_=>?_) (λ_=>?_)|refine az (λ_=>?_) (λ_=>?_))<;>try simp(config:={maxSteps:=2000000}) only[Kon,push_cast,reduceIte,Nat.reduceEqDiff,Nat.reduceAdd,Nat.reduceMul,Nat.reduceSub,Nat.reduceLT,Nat.reduceLeDiff,Int.reduceLT,Int.reduceLE,Int.reduceAdd,Int.reduceSub,Int.reduceNeg,Int.reduceToNat,Int.reduceEq,reduceCtorEq, *])
   |refine And.intro trivial ?_
   |refine And.intro (by omega) ?_
   |refine aU rfl (λ_=>?_) (λ_=>?_)
   |refine And.intro ?_ ?_
  rename_i hx;exact hbad.out (hb2.out (by omega));rename_i hx;refine ah _ _ _ (by omega) (CutL (b:=ag9 _)) ⟨f,u.drop i,rfl,?_,hid ⟨?_,hg2.out (by omega)⟩,rfl,rfl⟩;simp;omega;simp;omega
def Cn(x:Nat):Prop:=128<=x/\x<192
instance (x:Nat):Decidable (Cn x):=by unfold Cn;infer_instance
def Ik(n b0 b1:Nat):Prop:=n<2\/¬Cn b1\/(b0-192)*64+b1-128<128
def Og(n b0 b1 b2:Nat):Prop:=n<3\/¬Cn b1\/¬Cn b2\/((b0-224)*64+b1-128)*64+b2-128<2048\/55296<=((b0-224)*64+b1-128)*64+b2-128/\((b0-224)*64+b1-128)*64+b2-128<57344
def IV(n b0 b1 b2 b3:Nat):Prop:=n<4\/¬Cn b1\/¬Cn b2\/¬Cn b3\/(((b0-240)*64+b1-128)*64+b2-128)*64+b3-128<65536\/1114111<(((b0-240)*64+b1-128)*64+b2-128)*64+b3-128
instance (n b0 b1:Nat):Decidable (Ik n b0 b1):=by unfold Ik;infer_instance
instance (n b0 b1 b2:Nat):Decidable (Og n b0 b1 b2):=by unfold Og;infer_instance
instance (n b0 b1 b2 b3:Nat):Decidable (IV n b0 b1 b2 b3):=by unfold IV;infer_instance
def iY(n b0 b1 b2 b3:Nat):Nat :=
 if b0<128 then 1 else if b0<192 then 0
 else if b0<224 then(if Ik n b0 b1 then 0 else 2)
 else if b0<240 then(if Og n b0 b1 b2 then 0 else 3)
 else(if IV n b0 b1 b2 b3 then 0 else 4)
set_option maxRecDepth 100000 in
set_option maxHeartbeats 4000000 in
theorem Vg(n b0 b1 b2 b3:Nat)(h0:b0<256)(h1:b1<256)(h2:b2<256)(h3:b3<256):
  (iY n b0 b1 b2 b3=0/\Lib.decodeN n b0 b1 b2 b3=(65533,1))\/(1<=iY n b0 b1 b2 b3/\(Lib.decodeN n b0 b1 b2 b3).2=iY n b0 b1 b2 b3/\¬((Lib.decodeN n b0 b1 b2 b3).1=65533/\(Lib.decodeN n b0 b1 b2 b3).2=1)):=by
 unfold iY Lib.decodeN;by_cases c1:b0<128;rw[if_pos c1,if_pos c1];right;exact⟨by omega,rfl,λh=>by have h1:b0=65533:=h.1;omega⟩;rw[if_neg c1,if_neg c1];by_cases c2:b0<192;rw[if_pos c2,if_neg (by omega),if_neg (by omega),if_neg (by omega)];exact .inl ⟨rfl,rfl⟩;rw[if_neg c2];by_cases c3:b0<224;rw[if_pos c3];by_cases hA:Ik n b0 b1;rw[if_pos hA];refine .inl ⟨rfl,?_⟩;unfold Ik Cn at hA;by_cases hc:b0/32=6/\(1<n/\b1/64=2);rw[if_pos hc,if_neg (by omega)];rw[if_neg hc,if_neg (by omega),if_neg (by omega)];rw[if_neg hA];unfold Ik Cn at hA;rw[if_pos (by omega),if_pos (by omega)];exact .inr ⟨by omega,rfl,λh=>by have h2:(2:Nat)=1:=h.2;omega⟩;rw[if_neg c3];by_cases c4:b0<240;rw[if_pos c4,if_neg (show ¬(b0/32=6/\(1<n/\b1/64=2))by omega)];by_cases hA:Og n b0 b1 b2;rw[if_pos hA];refine .inl ⟨rfl,?_⟩;unfold Og Cn at hA;by_cases hc:b0/16=14/\(1<n/\b1/64=2)/\(2<n/\b2/64=2);rw[if_pos hc,if_neg (by omega)];rw[if_neg hc,if_neg (by omega)];rw[if_neg hA];unfold Og Cn at hA;rw[if_pos (by omega),if_pos (by omega)];exact .inr ⟨by omega,rfl,λh=>by have h2:(3:Nat)=1:=h.2;omega⟩;rw[if_neg c4,if_neg (show ¬(b0/32=6/\(1<n/\b1/64=2))by omega),if_neg (show ¬(b0/16=14/\(1<n/\b1/64=2)/\(2<n/\b2/64=2))by omega)];by_cases hA:IV n b0 b1 b2 b3;rw[if_pos hA];refine .inl ⟨rfl,?_⟩;unfold IV Cn at hA;by_cases hc:b0/8=30/\(1<n/\b1/64=2)/\(2<n/\b2/64=2)/\(3<n/\b3/64=2);rw[if_pos hc,if_neg (by omega)];rw[if_neg hc];rw[if_neg hA];unfold IV Cn at hA;rw[if_pos (by omega),if_pos (by omega)];exact .inr ⟨by omega,rfl,λh=>by have h2:(4:Nat)=1:=h.2;omega⟩
theorem Vf(b:UInt8)(t:List UInt8)(f:Nat):P4 (f+1) (b::t)=if iY (t.length+1) b.toNat (t.getD 0 0).toNat (t.getD 1 0).toNat (t.getD 2 0).toNat=0 then false else P4 f ((b::t).drop (iY (t.length+1) b.toNat (t.getD 0 0).toNat (t.getD 1 0).toNat (t.getD 2 0).toNat)):=by
 have hb:=b.toNat_lt;rw[P4];obtain⟨x,hx⟩:=ag2 (b.toNat);rw[hx]at hb⊢;unfold iY;by_cases c1:x<128;have e1:¬(128<=x/\x<192):=by omega
 have hh:oV x=(1,x):=by unfold oV;rw[if_neg (by omega),if_neg (by omega),if_neg (by omega)]
 rw[hh,if_neg e1,if_pos c1];simp only[Lz,aiv,ai5];rw[if_neg (by omega),if_neg (by omega),show Ml 1 x=true from decide_eq_true (by omega)];rfl;by_cases c2:x<192;simp[c1,c2,show 128<=x by omega];have e1:¬(128<=x/\x<192):=by omega
 rw[if_neg e1,if_neg c1,if_neg c2];by_cases c3:x<224;have hh:oV x=(2,x-192):=by unfold oV;rw[if_neg (by omega),if_neg (by omega),if_pos (by omega)]
 rw[if_pos c3,hh];simp only[show 2-1=1 from rfl];rcases t with _|⟨y,t⟩;simp[Ik];simp only[ahj,aig,Lz];rw[if_neg (by omega)];by_cases hA:Ik (t.length+1+1) x y.toNat;simp only[if_pos hA,if_true];by_cases hy:128<=y.toNat/\y.toNat<192;simp only[if_pos hy];unfold Ik Cn at hA;rw[show Ml 2 ((x-192)*64+y.toNat-128)=false from decide_eq_false (by omega)];rfl;simp only[if_neg hy];simp only[if_neg hA];unfold Ik Cn at hA;simp only[if_pos (show 128<=y.toNat/\y.toNat<192 by omega),Nat.reduceEqDiff,if_false];rw[show Ml 2 ((x-192)*64+y.toNat-128)=true from decide_eq_true (by omega)];rfl;rw[if_neg c3];by_cases c4:x<240;have hh:oV x=(3,x-224):=by unfold oV;rw[if_neg (by omega),if_pos (by omega)]
 rw[if_pos c4,hh];simp only[show 3-1=2 from rfl];rcases t with _|⟨y,_|⟨z,t⟩⟩;simp[Og];simp[Og];simp only[ahj,aig,aiR,Lz];rw[if_neg (by omega)];by_cases hA:Og (t.length+1+1+1) x y.toNat z.toNat;simp only[if_pos hA,if_true];by_cases hy:128<=y.toNat/\y.toNat<192;by_cases hz:128<=z.toNat/\z.toNat<192;simp only[if_pos hy,if_pos hz];unfold Og Cn at hA;rw[show Ml 3 (((x-224)*64+y.toNat-128)*64+z.toNat-128)=false from decide_eq_false (by omega)];rfl;simp only[if_pos hy,if_neg hz];simp only[if_neg hy];simp only[if_neg hA];unfold Og Cn at hA;simp only[if_pos (show 128<=y.toNat/\y.toNat<192 by omega),if_pos (show 128<=z.toNat/\z.toNat<192 by omega),Nat.reduceEqDiff,if_false];rw[show Ml 3 (((x-224)*64+y.toNat-128)*64+z.toNat-128)=true from decide_eq_true (by omega)];rfl;have hh:oV x=(4,x-240):=by unfold oV;rw[if_pos (by omega)]
 rw[if_neg c4,hh];simp only[show 4-1=3 from rfl];rcases t with _|⟨y,_|⟨z,_|⟨w,t⟩⟩⟩;simp[IV];simp[IV];simp[IV];simp only[ahj,aig,aiR,Lz];rw[if_neg (by omega)];by_cases hA:IV (t.length+1+1+1+1) x y.toNat z.toNat w.toNat;simp only[if_pos hA,if_true];by_cases hy:128<=y.toNat/\y.toNat<192;by_cases hz:128<=z.toNat/\z.toNat<192;by_cases hw:128<=w.toNat/\w.toNat<192;simp only[if_pos hy,if_pos hz,if_pos hw];unfold IV Cn at hA;rw[show Ml 4 ((((x-240)*64+y.toNat-128)*64+z.toNat-128)*64+w.toNat-128)=false from decide_eq_false (by omega)];rfl;simp only[if_pos hy,if_pos hz,if_neg hw];simp only[if_pos hy,if_neg hz];simp only[if_neg hy];simp only[if_neg hA];unfold IV Cn at hA;simp only[if_pos (show 128<=y.toNat/\y.toNat<192 by omega),if_pos (show 128<=z.toNat/\z.toNat<192 by omega),if_pos (show 128<=w.toNat/\w.toNat<192 by omega),Nat.reduceEqDiff,if_false];rw[show Ml 4 ((((x-240)*64+y.toNat-128)*64+z.toNat-128)*64+w.toNat-128)=true from decide_eq_true (by omega)];rfl
theorem Iv:∀(f:Nat) (l:List UInt8),l.length<=f->P4 f l=Lib.validD l
 |_,[],_=>by simp[P4,Lib.validD_nil]
 |0,_::_,h=>by simp at h
 | f+1,b::t,h=>by
   rw[Vf,Lib.validD_step _ (by simp),Lib.decodeL_N];simp only[ahj,aig,aiR];rcases Vg (t.length+1) b.toNat (t.getD 0 0).toNat (t.getD 1 0).toNat (t.getD 2 0).toNat b.toNat_lt (t.getD 0 0).toNat_lt (t.getD 1 0).toNat_lt (t.getD 2 0).toNat_lt with⟨h1,h2⟩|⟨h1,h2,h3⟩
   .rw[h1,h2];simp
   .rw[if_neg (by omega),if_neg h3,h2];refine Iv f _ ?_;rw[aja];simp only[ahj]at h⊢;omega
def IU(s:List UInt8):Bool:=s.all eO&&decide (0<s.length)
theorem dR{s:List UInt8}(hs:s.length<=1100000){L:List Blk}{K:ag7}(h:K (.bool (IU s)) L):ag6 130 [.str s] L K:=by
 have no:s.all eO=false->K (.bool false) L:=λe=>by have h':=h;rwa[IU,e,aiE]at h'
 replace no:=hid no;replace h:=hid h;refine ag5 Oe ?_;refine ak (λn T' L'=>∃i:Nat,n=s.length-i/\i<=s.length/\Hid ((s.take i).all eO=true)/\T'=[(3,.int .i64 (i:Int)),(0,.str s)]/\L=L') (CutS (b:=ag9 _)) ⟨0,rfl,ahf _,hid rfl,rfl,rfl⟩ ?_;rintro _ _ _ ⟨i,rfl,hi,hall,rfl,rfl⟩;by_cases hlt:i<s.length
 .have g1:(i:Int)<(s.length:Int):=(by omega);have g2:=ag4 i (by omega);obtain⟨c,hc⟩:=ag2 (s.getD i 0);have hm:c∈s:=(by rw[<- hc];simp[hlt]);have htk:s.take (i+1)=s.take i++[c]:=(by rw[ahw hlt,<- hc];simp[hlt]);have bad:=hid λ(e:eO c=false)=>no.out (List.all_eq_false.2 ⟨c,hm,by rw[e];simp⟩)
  have good:=hid λ(e:eO c=true)=>show(s.take (i+1)).all eO=true by rw[htk,ajE,hall.out];simp[e]
  clear hm htk
  repeat' first
   |refine br ?_
   | (first|refine bh (by kernel_rfl) ?_|refine aH (by kernel_rfl) ?_|refine aK ?_|refine cO ?_|refine bB (fun _=>?_)|refine aB ?_|refine bm ?_)
     refine sm ?_
   | (first|refine a8 (by kernel_rfl) ?_|refine bc ?_|refine aJ ?_|refine bj ?_|refine bG (aA ?_))
     refine sl ?_
   |exact bC
   |first|apply bD|apply be|apply bE|apply bf|apply bF|apply bg
   |refine aN ?_
   |refine aI ?_
   |first|refine aL rfl ?_|refine aM rfl ?_|refine aw rfl ?_ ?_|refine aQ rfl (λ_=>?_) (λ_=>?_)|refine aP rfl (λ_=>?_) (λ_=>?_)
   |((first|refine au (λ_=>?_) (λ_=>?_)|refine az (λ_=>?_) (λ_=>?_))<;>try refine sm ?_)
   |refine And.intro trivial ?_
   |refine And.intro (by omega) ?_
   |refine aU rfl (λ_=>?_) (λ_=>?_)
   |refine And.intro ?_ ?_
  rename_i hx;refine aa (bad.out ?_);simp only[eO,ajl,decide_eq_false_iff_not];omega;rename_i hx;refine ah _ _ _ (by omega) (CutL (b:=ag9 _)) ⟨i+1,rfl,by omega,hid (good.out ?_),rfl,rfl⟩;simp only[eO,ahe,decide_eq_true_eq];omega
 have hke:i=s.length:=by omega
 subst hke;have g1:¬(s.length:Int)<(s.length:Int):=by omega
 have hda:=hall.out;rw[ahr]at hda;have h':=h.out;rw[IU,hda,aia,show decide (0<s.length)=decide ((0:Int)<(s.length:Int))by simp]at h';replace h':=hid h';clear hda;refine wk ?_;exact aa h'.out
def Uy(s:List UInt8):Nat:=s.foldl (λn c=>10*n+(c.toNat-48)) 0
theorem aeY(hs:s.length<=4)(hd:∀c∈s,eO c=true)(h:K (.int .i64 (Uy s:Nat)) L):ag6 133 [.str s] L K:=by
 replace h:=hid h;replace hd:=hid hd;refine ag5 R5 ?_;refine ak (λm T' L'=>∃(i n:Nat),m=s.length-i/\i<=s.length/\n<10^i/\Hid (n=Uy (s.take i))/\T'=[(4,.int .i64 (i:Int)),(3,.int .i64 (n:Int)),(0,.str s)]/\L=L') (CutS (b:=ag9 _)) ⟨0,0,rfl,ahf _,by decide,hid rfl,rfl,rfl⟩ ?_;rintro _ _ _ ⟨i,n,rfl,hi,hn,hI,rfl,rfl⟩;by_cases hlt:i<s.length;have g1:(i:Int)<(s.length:Int):=by omega
 have g2:=ag4 i (by omega);obtain⟨c,hc⟩:=ag2 (s.getD i 0);have hm:=hd.out c (by rw[<- hc];simp[hlt]);simp only[eO,ahe,decide_eq_true_eq]at hm;have htk:s.take (i+1)=s.take i++[c]:=by rw[ahw hlt,<- hc];simp[hlt]
 obtain⟨x,hx⟩:∃x:Nat,c.toNat=48+x:=⟨c.toNat-48,by omega⟩;have hx9:x<=9:=by omega
 have hxi:(c.toNat:Int)=48+(x:Int):=by omega
 have hn4:n<1000:=by refine aiA hn ?_;have:i=0\/i=1\/i=2\/i=3:=(by omega);rcases this with rfl|rfl|rfl|rfl<;>decide
 have hnx:Uy (s.take (i+1))=10*n+x:=by rw[htk,Uy,ai7,<- Uy,<- hI.out];simp only[ahZ,ajc];omega
 have w1:IntKind.u8.wrap (48+(x:Int)-48)=(x:Int):=by rw[cD (by omega) (by omega)];omega
 have w2:IntKind.i64.wrap (x:Int)=(x:Int):=ac (by omega) (by omega);have w3:IntKind.i64.wrap (10*(n:Int))=10*(n:Int):=ac (by omega) (by omega);have w4:IntKind.i64.wrap (10*(n:Int)+(x:Int))=10*(n:Int)+(x:Int):=ac (by omega) (by omega);have hnn:10*n+x<10^(i+1):=by rw[ajJ];omega
 replace hnx:=hid hnx;clear hm htk hx;refine wk ?_;exact ah _ _ _ (by omega) (CutL (b:=ag9 _)) ⟨i+1,10*n+x,rfl,by omega,hnn,hid hnx.out.symm,rfl,rfl⟩;have hke:i=s.length:=by omega
 subst hke;have g1:¬(s.length:Int)<(s.length:Int):=by omega
 have e:=hI.out;rw[ahr]at e;have h':=h.out;rw[<- e]at h';replace h':=hid h';clear e hI;refine wk ?_;exact aa h'.out
abbrev abJ:List UInt8:=[57,50,50,51,51,55,50,48,51,54,56,53,52,55,55,53,56,48,55]
abbrev abK:List UInt8:=[57,50,50,51,51,55,50,48,51,54,56,53,52,55,55,53,56,48,56]
def VB(w most:List UInt8):Bool:=IU w && !decide (w.getD 0 0=48)&&(decide (w.length<19) ||decide (w.length=19)&&(Op.bytesLess w most ||decide (w=most)))
def abB(v:List UInt8):Bool:=if v=[48]then true else match v with
 |[]=>false
 |c::t=>if c=45 then VB t abK else VB (c::t) abJ
theorem PN{w most:List UInt8}(hw:w.length<=1100000):VB w most=(if IU w=true then(!decide (w.getD 0 0=48)&&(decide (w.length<19) ||decide (w.length=19)&&(Op.bytesLess w most ||decide (w=most))))else false):=by unfold VB;cases IU w<;>rfl
theorem Te(hv:v.length<=1100000)(h:K (.bool (abB v)) L):ag6 91 [.str v] L K:=by
 unfold abB at h;refine ad Oc (by simp[qo]) ?_;simp only[qo,am];by_cases h0:v=[48];rw[if_pos h0]at h;replace h:=hid h;refine wk ?_;exact aa h.out;rw[if_neg h0]at h;have dg:∀w:List UInt8,IU w=true->(0:Int)<(w.length:Int):=λw e=>by simp only[IU,ahe,decide_eq_true_eq]at e;omega
 rcases v with _|⟨c,t⟩;simp only at h;replace h:=hid h;have e0:IU []=false:=rfl;have e1:([]:List UInt8).length=0:=rfl;have kk1:=@hid _ (λL K=>dR hv (L:=L) (K:=K));refine wk ?_;exact aa h.out;simp only at h;have hl:(c::t).length=t.length+1:=rfl;have hc0:(c::t).getD 0 0=c:=rfl;have hd1:(c::t).drop 1=t:=rfl;simp only[ahj]at hv;have htl:t.length<=1100000:=by omega
 have q7:t.take (((t.length:Int)+1).toNat-1)=t:=by rw[show((t.length:Int)+1).toNat-1=t.length by omega,ahr]
 have q8:(0:Int)<(t.length:Int)+1:=by omega
 by_cases h45:c=45
 .rw[if_pos h45,PN htl]at h;subst h45;have k1:((45:UInt8).toNat:Int)=45:=rfl;cases hd:IU t with
  | false =>
    rw[hd,if_neg (by simp)]at h;replace h:=hid h;have kk1:=@hid _ (λL K=>dR htl (L:=L) (K:=K));refine wk ?_;exact aa h.out
  | true =>
    rw[hd,if_pos rfl]at h;obtain⟨x,hx⟩:=ag2 (t.getD 0 0);rw[hx,show decide (x=48)=decide ((x.toNat:Int)=48)by rw[decide_eq_decide];exact(bp x 48).symm,show decide (t.length<19)=decide ((t.length:Int)<19)by simp;omega,show decide (t.length=19)=decide ((t.length:Int)=19)by rw[decide_eq_decide];omega]at h;replace h:=hid h;have g1:=dg t hd
    repeat' first
     |refine br ?_
     | (first|refine bh (by kernel_rfl) ?_|refine aH (by kernel_rfl) ?_|refine aK ?_|refine cO ?_|refine bB (fun _=>?_)|refine aB ?_|refine bm ?_|refine dR htl ?_|refine bb (dR htl ⟨rfl,rfl⟩) (dR htl ⟨rfl,rfl⟩) ?_|refine aC (dR htl ⟨rfl,rfl⟩) ?_)
       refine sm ?_
     | (first|refine a8 (by kernel_rfl) ?_|refine bc ?_|refine aJ ?_|refine bj ?_|refine bG (aA ?_))
       refine sl ?_
     |exact bC
     |first|apply bD|apply be|apply bE|apply bf|apply bF|apply bg
     |refine aN ?_
     |refine aI ?_
     |first|refine aL rfl ?_|refine aM rfl ?_|refine aw rfl ?_ ?_|refine aQ rfl (λ_=>?_) (λ_=>?_)|refine aP rfl (λ_=>?_) (λ_=>?_)
     |((first|refine au (λ_=>?_) (λ_=>?_)|refine az (λ_=>?_) (λ_=>?_))<;>try refine sm ?_)
     |refine And.intro trivial ?_
     |refine And.intro (by omega) ?_
     |refine aU rfl (λ_=>?_) (λ_=>?_)
     |refine And.intro ?_ ?_
    exact aa h.out
 .rw[if_neg h45,PN (by simp;omega)]at h;have k1:¬(c.toNat:Int)=45:=λe=>h45 ((bp c 45).1 e)
  obtain⟨v,hv2⟩:=ag2 (c::t);rw[hv2]at h hl hc0 h0⊢;have hvl:v.length<=1100000:=(by omega);have g0:(0:Int)<(v.length:Int):=(by omega);replace hv2:=hid hv2;clear hd1 hl q7 q8;cases hd:IU v with
  | false =>
    rw[hd,if_neg (by simp)]at h;replace h:=hid h;have kk1:=@hid _ (λL K=>dR hvl (L:=L) (K:=K));refine wk ?_;exact aa h.out
  | true =>
    rw[hd,if_pos rfl]at h;rw[hc0,show decide (c=48)=decide ((c.toNat:Int)=48)by rw[decide_eq_decide];exact(bp c 48).symm,show decide (v.length<19)=decide ((v.length:Int)<19)by simp;omega,show decide (v.length=19)=decide ((v.length:Int)=19)by rw[decide_eq_decide];omega]at h;replace h:=hid h
    repeat' first
     |refine br ?_
     | (first|refine bh (by kernel_rfl) ?_|refine aH (by kernel_rfl) ?_|refine aK ?_|refine cO ?_|refine bB (fun _=>?_)|refine aB ?_|refine bm ?_|refine dR hvl ?_|refine bb (dR hvl ⟨rfl,rfl⟩) (dR hvl ⟨rfl,rfl⟩) ?_|refine aC (dR hvl ⟨rfl,rfl⟩) ?_)
       refine sm ?_
     | (first|refine a8 (by kernel_rfl) ?_|refine bc ?_|refine aJ ?_|refine bj ?_|refine bG (aA ?_))
       refine sl ?_
     |exact bC
     |first|apply bD|apply be|apply bE|apply bf|apply bF|apply bg
     |refine aN ?_
     |refine aI ?_
     |first|refine aL rfl ?_|refine aM rfl ?_|refine aw rfl ?_ ?_|refine aQ rfl (λ_=>?_) (λ_=>?_)|refine aP rfl (λ_=>?_) (λ_=>?_)
     |((first|refine au (λ_=>?_) (λ_=>?_)|refine az (λ_=>?_) (λ_=>?_))<;>try refine sm ?_)
     |refine And.intro trivial ?_
     |refine And.intro (by omega) ?_
     |refine aU rfl (λ_=>?_) (λ_=>?_)
     |refine And.intro ?_ ?_
    exact aa h.out
def dE(n:Nat)(s:List UInt8):Nat:=s.foldl (λn c=>10*n+(c.toNat-48)) n
theorem QC(h:eO c=true):∃d,d<=9/\c.toNat=48+d:=by simp only[eO,ahe,decide_eq_true_eq]at h;exact⟨c.toNat-48,by omega,by omega⟩
theorem vc:∀(s:List UInt8) (n:Nat),dE n s=n*10^s.length+dE 0 s
 |[],n=>by simp[dE]
 |c::s,n=>by have h1:=vc s (10*n+(c.toNat-48));have h2:=vc s (10*0+(c.toNat-48));simp only[dE,ahZ]at h1 h2⊢;rw[h1,h2,ahj,ajJ];rw[Nat.mul_zero,air,ah5,Nat.mul_comm (10^s.length) 10,<- Nat.mul_assoc,Nat.mul_comm n 10];omega
theorem HN:∀(s:List UInt8),(∀c∈s,eO c=true)->dE 0 s<10^s.length
 |[],_=>by simp[dE]
 | c::s,h=>by
   have ih:=HN s λd hd=>h d (aii _ hd)
   obtain⟨d,hd,hc⟩:=QC (h c (by simp));have e:=vc s (10*0+(c.toNat-48));simp only[dE,ahZ]at e ih⊢;rw[e,ahj,ajJ,hc];have:(10*0+(48+d-48))*10^s.length<=9*10^s.length:=aic _ (by omega);omega
theorem Oz:∀(a b:List UInt8),(∀c∈a,eO c=true)->(∀c∈b,eO c=true)->a.length=b.length->(a<b↔dE 0 a<dE 0 b)
 |[],[],_,_,_=>by simp[dE]
 |[],_::_,_,_,h=>by simp at h
 |_::_,[],_,_,h=>by simp at h
 | x::a,y::b,ha,hb,hl=>by
   simp only[ahj,Nat.add_right_cancel_iff]at hl;have ha':=λc hc=>ha c (aii _ hc)
   have hb':=λc hc=>hb c (aii _ hc)
   have ih:=Oz a b ha' hb' hl;have la:=HN a ha';have lb:=HN b hb';obtain⟨d,hd,hx⟩:=QC (ha x (by simp));obtain⟨e,he,hy⟩:=QC (hb y (by simp));have ea:dE 0 (x::a)=d*10^a.length+dE 0 a:=by have:=vc a (10*0+(x.toNat-48));rw[hx,show 10*0+(48+d-48)=d by omega]at this;rw[<- this];simp only[dE,ahZ,hx];congr 1;omega
   have eb:dE 0 (y::b)=e*10^b.length+dE 0 b:=by have:=vc b (10*0+(y.toNat-48));rw[hy,show 10*0+(48+e-48)=e by omega]at this;rw[<- this];simp only[dE,ahZ,hy];congr 1;omega
   rw[ea,eb,List.cons_lt_cons_iff,ih,hl];rw[hl]at la;have hxy:x<y↔d<e:=by show x.toNat<y.toNat↔_;omega
   have hxe:x=y↔d=e:=(by rw[<- aiS];omega);rw[hxy,hxe];obtain⟨p,hp⟩:=ag2 (10^b.length);rw[hp]at la lb⊢;rcases Nat.lt_trichotomy d e with h|h|h
   .have:(d+1)*p<=e*p:=aic _ h;rw[ah5]at this;constructor
    .intro _;omega
    .intro _;exact .inl h
   .subst h;constructor
    .rintro(h|⟨_,h⟩)
     .omega
     .omega
    .intro h;exact .inr ⟨rfl,by omega⟩
   .have:(e+1)*p<=d*p:=aic _ h;rw[ah5]at this;constructor
    .rintro(h|⟨h,_⟩)<;>omega
    .intro h;omega
theorem aet:∀u:Nat,dE 0 (Lib.decDigits u)=u/\(∀c∈Lib.decDigits u,eO c=true)/\u<10^(Lib.decDigits u).length/\(1<=u->10^((Lib.decDigits u).length-1)<=u):=by
 intro u;induction u using Nat.strongRecOn with
 | _ u ih =>
   by_cases h10:u<10
   .have hd:(UInt8.ofNat (48+u)).toNat=48+u:=u8n (by omega);rw[Lib.decDigits,dif_pos h10];refine⟨?_,?_,?_,?_⟩
    .simp only[dE,ahZ,ajc,hd];omega
    .intro c hc;rw[ahs.1 hc];simp only[eO,hd,ahe,decide_eq_true_eq];omega
    .simpa using h10
    .intro h;simpa using h
   .obtain⟨i1,i2,i3,i4⟩:=ih (u/10) (by omega);have hd:(UInt8.ofNat (48+u%10)).toNat=48+u%10:=u8n (by omega);rw[Lib.decDigits,dif_neg h10];refine⟨?_,?_,?_,?_⟩
    .unfold dE at i1⊢;rw[ai7,i1];simp only[ahZ,ajc,hd];omega
    .intro c hc;rcases ahb.1 hc with h|h
     .exact i2 c h
     .rw[ahs.1 h];simp only[eO,hd,ahe,decide_eq_true_eq];omega
    .rw[ahq,akc,ajJ];omega
    .intro _;have:=i4 (by omega);rw[ahq,akc,Nat.add_sub_cancel];obtain⟨c,r,e,_⟩:=vr (u/10);have hl:1<=(Lib.decDigits (u/10)).length:=(by rw[e];simp);obtain⟨k,hk⟩:∃k,(Lib.decDigits (u/10)).length=k+1:=⟨(Lib.decDigits (u/10)).length-1,by omega⟩;rw[hk]at this⊢;rw[Nat.add_sub_cancel]at this;rw[ajJ];omega
theorem afR:∀(n:Nat) (w:List UInt8),w.length=n->(∀c∈w,eO c=true)->w≠[]->w.getD 0 0≠48->1<=dE 0 w/\Lib.decDigits (dE 0 w)=w:=by
 intro n;induction n with
 |zero=>intro w hl _ hne;exact absurd (ahH.1 hl) hne
 | succ n ih =>
   intro w hl hd hne h48;obtain⟨t,c,rfl⟩:∃t c,w=t++[c]:=⟨w.dropLast,w.getLast hne,(List.dropLast_concat_getLast hne).symm⟩;obtain⟨d,hd9,hc⟩:=QC (hd c (by simp));have hcc:UInt8.ofNat (48+d)=c:=(by rw[<- hc];simp);have ev:dE 0 (t++[c])=10*dE 0 t+d:=by simp only[dE,ai7,ahZ,ajc,hc];omega
   rcases t with _|⟨x,t⟩
   .have:d≠0:=λe=>h48 (by simp only[ahJ,aig];exact aiS.1 (by rw[hc,e];rfl))
    have e0:dE 0 ([]:List UInt8)=0:=rfl;rw[ev,e0];refine⟨by omega,?_⟩;rw[Lib.decDigits,dif_pos (by omega),show 48+(10*0+d)=48+d by omega,hcc];rfl
   .obtain⟨j1,j2⟩:=ih (x::t) (by simpa using hl) (λc hc=>hd c (aiD _ hc)) (by simp) (by simpa using h48);rw[ev];refine⟨by omega,?_⟩;rw[Lib.decDigits,dif_neg (by omega),show(10*dE 0 (x::t)+d)/10=dE 0 (x::t)by omega,show(10*dE 0 (x::t)+d)%10=d by omega,j2,hcc]
theorem VA{w most:List UInt8}{M:Nat}(hm:dE 0 most=M)(hml:most.length=19)(hmd:∀c∈most,eO c=true)(hM:10^18<=M):VB w most=true↔∃u,1<=u/\u<=M/\w=Lib.decDigits u:=by
 have hM19:M<10^19:=by rw[<- hm,<- hml];exact HN most hmd
 have le19:∀w:List UInt8,(∀c∈w,eO c=true)->w.length=19->((Op.bytesLess w most ||decide (w=most))=true↔dE 0 w<=M):=λw hw hl=>by rw[bytesLess_eq];simp only[ahO,decide_eq_true_eq];have h1:=Oz w most hw hmd (by rw[hl,hml]);have h2:=Oz most w hmd hw (by rw[hl,hml]);rw[hm]at h1 h2;rw[h1];constructor;rintro(h|rfl);omega;omega;intro h;rcases aht (dE 0 w) M with h3|h3;exact .inl h3;refine .inr (ajY (aiw.1 λh4=>?_) (aiw.1 λh4=>?_));have:=h2.1 h4;omega;have:=h1.1 h4;omega
 unfold VB IU;simp only[ahe,ahO,ahM,decide_eq_false_iff_not,decide_eq_true_eq,ahk];constructor;rintro⟨⟨⟨hd,hpos⟩,h48⟩,hlen⟩;obtain⟨h1,h2⟩:=afR _ w rfl hd (by rintro rfl;simp at hpos) h48;refine⟨dE 0 w,h1,?_,h2.symm⟩;rcases hlen with hlt|⟨heq,hle⟩;have:=HN w hd;have h3:10^w.length<=10^18:=Nat.pow_le_pow_right (by decide) (by omega);omega;have:=(le19 w hd heq).1 (by simpa using hle);exact this;rintro⟨u,h1,h2,rfl⟩;obtain⟨k1,k2,k3,k4⟩:=aet u;obtain⟨c,r,e,c1,c2,c3⟩:=vr u;have hl19:(Lib.decDigits u).length<=19:=by rcases aht 19 (Lib.decDigits u).length with h|h;have h5:=k4 h1;have h6:10^19<=10^((Lib.decDigits u).length-1):=Nat.pow_le_pow_right (by decide) (by omega);omega;exact h
 refine⟨⟨⟨k2,by rw[e];simp⟩,?_⟩,?_⟩;rw[e];simp only[aig];intro h;have:=c3 (by rw[h];rfl);omega;rcases aht (Lib.decDigits u).length 19 with h|h;exact .inl h;have hl:(Lib.decDigits u).length=19:=by omega
 refine .inr ⟨hl,?_⟩;have:=(le19 _ k2 hl).2 (by rw[k1];exact h2);simpa using this
theorem W4(w:List UInt8):VB w abJ=true↔∃u,1<=u/\u<=9223372036854775807/\w=Lib.decDigits u:=VA (by decide) (by decide) (by decide) (by decide)
theorem W5(w:List UInt8):VB w abK=true↔∃u,1<=u/\u<=9223372036854775808/\w=Lib.decDigits u:=VA (by decide) (by decide) (by decide) (by decide)
theorem abA(v:List UInt8):abB v=true↔∃m,I64 m/\Lib.itoa m=v:=by
 unfold abB;by_cases h0:v=[48];rw[if_pos h0];refine⟨λ_=>⟨0,by unfold I64;omega,?_⟩,λ_=>rfl⟩;rw[h0,Lib.itoa,if_neg (by decide),Lib.decDigits,dif_pos (by decide)];rfl;rw[if_neg h0];have hz:Lib.itoa 0=[48]:=by rw[Lib.itoa,if_neg (by decide),Lib.decDigits,dif_pos (by decide)];rfl
 rcases v with _|⟨c,t⟩;simp only[ahp,false_iff];rintro⟨m,_,e⟩;obtain⟨c,r,e',_⟩:=ZE m;rw[e']at e;cases e;simp only;by_cases h45:c=45;rw[if_pos h45,W5];subst h45;constructor;rintro⟨u,h1,h2,rfl⟩;refine⟨-(u:Int),by unfold I64;omega,?_⟩;rw[Lib.itoa,if_pos (by omega),show(-(u:Int)).natAbs=u by omega];rintro⟨m,hm,e⟩;unfold I64 at hm;by_cases hneg:m<0;rw[Lib.itoa,if_pos hneg]at e;exact⟨m.natAbs,by omega,by omega,(List.cons.inj e).2.symm⟩;rw[Lib.itoa,if_neg hneg]at e;obtain⟨c,r,e',c1,c2,_⟩:=vr m.toNat;rw[e']at e;have:=(List.cons.inj e).1;rw[this]at c1;exact absurd c1 (by decide);rw[if_neg h45,W4];constructor;rintro⟨u,h1,h2,e⟩;refine⟨(u:Int),by unfold I64;omega,?_⟩;rw[e,Lib.itoa,if_neg (by omega)];congr 1;rintro⟨m,hm,e⟩;unfold I64 at hm;by_cases hneg:m<0;rw[Lib.itoa,if_pos hneg]at e;exact absurd (List.cons.inj e).1.symm h45;have hm0:m≠0:=λe0=>h0 (by rw[<- e,e0,hz])
 rw[Lib.itoa,if_neg hneg]at e;exact⟨m.toNat,by omega,by omega,e.symm⟩
theorem Zu(v:List UInt8):vd v=true↔∃m,I64 m/\Lib.itoa m=v:=by constructor;intro h;unfold vd at h;split at h;rename_i n hn;exact⟨n,PM hn,by simpa using h⟩;cases h;rintro⟨m,hm,rfl⟩;exact(abz hm).1
theorem afr(v:List UInt8):abB v=vd v:=by exact Bool.eq_iff_iff.2 ((abA v).trans (Zu v).symm)
theorem agU(h:i+2<=v.length):Uy ((v.drop i).take 2)=two v i:=by
 have e:(v.drop i).take 2=[v.getD i 0,v.getD (i+1) 0]:=by rw[mz (show i<v.length by omega),mz (show i+1<v.length by omega)];rfl
 rw[e];simp only[Uy,two,dig,ahZ,ajc];omega
theorem agT(h:4<=v.length):Uy (v.take 4)=two v 0*100+two v 2:=by
 have e:v.take 4=[v.getD 0 0,v.getD 1 0,v.getD 2 0,v.getD 3 0]:=by have:=mz (show 0<v.length by omega);rw[ai5]at this;rw[this,mz (show 0+1<v.length by omega),mz (show 0+1+1<v.length by omega),mz (show 0+1+1+1<v.length by omega)];rfl
 rw[e];simp only[Uy,two,dig,ahZ,ajc,air,Nat.reduceAdd];omega
theorem Tf(hv:v.length<=1100000)(h:K (.bool (HO v)) L):ag6 93 [.str v] L K:=by
 have no:HO v=false->K (.bool false) L:=λe=>by rw[<- e];exact h
 replace no:=hid no;replace h:=hid h;refine ad Od (by simp[qq]) ?_;simp only[qq,am];by_cases h15:v.length=15;rotate_left;have f1:¬(v.length:Int)=15:=by omega
 have h':=hid (no.out (by simp[HO,h15]));clear h15;refine wk ?_;exact aa h'.out;have f1:(v.length:Int)=15:=by omega
 obtain⟨w,hw⟩:=ag2 (v.take 14);have hwl:w.length=14:=by rw[<- hw];simp[h15]
 have hwl2:w.length<=1100000:=by omega
 cases hda:w.all eO with
 | false =>
   have h':=hid (no.out (by simp[HO,hw,hda]));have hds:IU w=false:=(by simp[IU,hda]);clear hwl h15;have kk1:=@hid _ (λL K=>dR hwl2 (L:=L) (K:=K));refine wk ?_;exact aa h'.out
 |true =>
 have hds:IU w=true:=by simp[IU,hda,hwl]
 obtain⟨z,hz⟩:=ag2 (v.getD 14 0);by_cases h90:z=90;rotate_left;have f2:¬(z.toNat:Int)=90:=λe=>h90 ((bp z 90).1 e)
 have h':=hid (no.out (by simp[HO,<- hz]at h90⊢;simp[h90]));clear h90 hwl h15;have kk1:=@hid _ (λL K=>dR hwl2 (L:=L) (K:=K));refine wk ?_;exact aa h'.out;have f2:(z.toNat:Int)=90:=by rw[h90];rfl
 have hdv:∀i,i<14->eO (v.getD i 0)=true:=λi hi=>by refine ahk.1 hda _ ?_;rw[<- hw];have:v.getD i 0=(v.take 14)[i]'(by simp;omega):=(by simp[show i<v.length by omega]);rw[this];exact ah9 _
 have hmem:∀(i n:Nat),i+n<=14->∀c∈(v.drop i).take n,eO c=true:=λi n hin c hc=>by obtain⟨j,hj,rfl⟩:=aiq.1 hc;simp only[ajb,aja]at hj;rw[List.getElem_take,List.getElem_drop];have:=hdv (i+j) (by omega);rwa[show v.getD (i+j) 0=v[i+j]by simp[show i+j<v.length by omega]]at this
 have hdate:HO v=Wi v:=by simp only[HO,h15,hz,h90,hw,hda];simp
 have ct:∀i:Nat,i+2<=14->∀(K:AV->List Blk->Prop),K (.int .i64 (two v i:Nat)) L->ag6 133 [.str ((v.drop i).take 2)] L K:=λi hi K h =>
  aeY (by simp;omega) (hmem i 2 hi) (by rw[agU (by omega)];exact h)
 have c4:∀(K:AV->List Blk->Prop),K (.int .i64 ((two v 0*100+two v 2:Nat):Int)) L->ag6 133 [.str (v.take 4)] L K:=λK h =>
  aeY (by simp;omega) (by have:=hmem 0 4 (by omega);rwa[ai5]at this) (by rw[agT (by omega)];exact h)
 have b0:=i6 (hdv 0 (by omega)) (hdv 1 (by omega));have b2:=i6 (hdv 2 (by omega)) (hdv 3 (by omega));have b4:=i6 (hdv 4 (by omega)) (hdv 5 (by omega));have b6:=i6 (hdv 6 (by omega)) (hdv 7 (by omega));have b8:=i6 (hdv 8 (by omega)) (hdv 9 (by omega));have b10:=i6 (hdv 10 (by omega)) (hdv 11 (by omega));have b12:=i6 (hdv 12 (by omega)) (hdv 13 (by omega));have kk1:=@hid _ (λ{K:ag7}=>c4 K);have kk3:=@hid _ (λ{K:ag7}=>ct 4 (by omega) K);have kk4:=@hid _ (λ{K:ag7}=>ct 6 (by omega) K);have kk5:=@hid _ (λ{K:ag7}=>ct 8 (by omega) K);have kk6:=@hid _ (λ{K:ag7}=>ct 10 (by omega) K);have kk7:=@hid _ (λ{K:ag7}=>ct 12 (by omega) K);have kk2:=@hid _ (λ{K:ag7}=>@dR w hwl2 L K);have hfin:=h.out;rw[hdate]at hfin;unfold Wi at hfin;obtain⟨Y,hY⟩:=ag2 (two v 0*100+two v 2);obtain⟨M,hM⟩:=ag2 (two v 4);obtain⟨D,hD⟩:=ag2 (two v 6);obtain⟨H,hH⟩:=ag2 (two v 8);obtain⟨I,hI⟩:=ag2 (two v 10);obtain⟨S,hS⟩:=ag2 (two v 12);have hYb:Y<=9999:=by omega
 rw[hY]at hfin kk1;rw[hM]at b4 hfin kk3;rw[hD]at b6 hfin kk4;rw[hH]at b8 hfin kk5;rw[hI]at b10 hfin kk6;rw[hS]at b12 hfin kk7;clear hY hM hD hH hI hS ct c4 hdate hdv hda h15 hwl hv h90 no h hmem b0 b2;have hbad:¬((1<=M/\M<=12)/\1<=D/\H<=23/\I<=59/\S<=59)->K (.bool false) L:=λe=>by rw[decide_eq_false e]at hfin;simpa using hfin
 replace hbad:=hid hbad;replace hfin:=hid hfin;by_cases m1:(M:Int)<1;refine wk ?_;exact aa (hbad.out (by omega));by_cases m2:(12:Int)<(M:Int);refine wk ?_;exact aa (hbad.out (by omega));by_cases m3:(D:Int)<1;refine wk ?_;exact aa (hbad.out (by omega));by_cases m4:(23:Int)<(H:Int);refine wk ?_;exact aa (hbad.out (by omega));by_cases m5:(59:Int)<(I:Int);refine wk ?_;exact aa (hbad.out (by omega));by_cases m6:(59:Int)<(S:Int);refine wk ?_;exact aa (hbad.out (by omega));have hfin2:=hfin.out;rw[show decide ((1<=M/\M<=12)/\1<=D/\H<=23/\I<=59/\S<=59)=true by simp;omega,aia]at hfin2;unfold Ty abP at hfin2;obtain⟨r4,hr4⟩:=ag2 (Y%4);obtain⟨r100,hr100⟩:=ag2 (Y%100);obtain⟨r400,hr400⟩:=ag2 (Y%400);rw[hr4,hr100,hr400]at hfin2;have t4:Int.tmod (Y:Int) 4=(r4:Int):=by rw[ai6 (by omega)];omega
 have t100:Int.tmod (Y:Int) 100=(r100:Int):=by rw[ai6 (by omega)];omega
 have t400:Int.tmod (Y:Int) 400=(r400:Int):=by rw[ai6 (by omega)];omega
 replace hfin2:=hid hfin2;clear hr4 hr100 hr400;have days:∀d:Nat,(if M=2/\(decide (r4=0) && !decide (r100=0) ||decide (r400=0))=true then UU M+1 else UU M)=d->K (.bool (decide ((D:Int)<=(d:Int)))) L:=λd e=>by have:=hfin2.out;rw[e]at this;rwa[show decide (D<=d)=decide ((D:Int)<=(d:Int))by simp only[decide_eq_decide];omega]at this
 replace days:=hid days;by_cases q2:(M:Int)=2
 .have e2:M=2:=(by omega);subst e2
  repeat' first
   |refine br ?_
   | (first|refine bh (by kernel_rfl) ?_|refine aH (by kernel_rfl) ?_|refine aK ?_|refine cO ?_|refine bB (fun _=>?_)|refine aB ?_|refine bm ?_|refine kk1.out ?_|refine kk2.out ?_|refine kk3.out ?_|refine kk4.out ?_|refine kk5.out ?_|refine kk6.out ?_|refine kk7.out ?_|refine bb (kk1.out ⟨rfl,rfl⟩) (kk1.out ⟨rfl,rfl⟩) ?_|refine bb (kk2.out ⟨rfl,rfl⟩) (kk2.out ⟨rfl,rfl⟩) ?_|refine bb (kk3.out ⟨rfl,rfl⟩) (kk3.out ⟨rfl,rfl⟩) ?_|refine bb (kk4.out ⟨rfl,rfl⟩) (kk4.out ⟨rfl,rfl⟩) ?_|refine bb (kk5.out ⟨rfl,rfl⟩) (kk5.out ⟨rfl,rfl⟩) ?_|refine bb (kk6.out ⟨rfl,rfl⟩) (kk6.out ⟨rfl,rfl⟩) ?_|refine bb (kk7.out ⟨rfl,rfl⟩) (kk7.out ⟨rfl,rfl⟩) ?_|refine aC (kk1.out ⟨rfl,rfl⟩) ?_|refine aC (kk2.out ⟨rfl,rfl⟩) ?_|refine aC (kk3.out ⟨rfl,rfl⟩) ?_|refine aC (kk4.out ⟨rfl,rfl⟩) ?_|refine aC (kk5.out ⟨rfl,rfl⟩) ?_|refine aC (kk6.out ⟨rfl,rfl⟩) ?_|refine aC (kk7.out ⟨rfl,rfl⟩) ?_)
     refine sm ?_
   | (first|refine a8 (by kernel_rfl) ?_|refine bc ?_|refine aJ ?_|refine bj ?_|refine bG (aA ?_))
     refine sl ?_
   |exact bC
   |first|apply bD|apply be|apply bE|apply bf|apply bF|apply bg
   |refine aN ?_
   |refine aI ?_
   |first|refine aL rfl ?_|refine aM rfl ?_|refine aw rfl ?_ ?_|refine aQ rfl (λ_=>?_) (λ_=>?_)|refine aP rfl (λ_=>?_) (λ_=>?_)
   |((first|refine au (λ_=>?_) (λ_=>?_)|refine az (λ_=>?_) (λ_=>?_))<;>try refine sm ?_)
   |refine And.intro trivial ?_
   |refine And.intro (by omega) ?_
   |refine aU rfl (λ_=>?_) (λ_=>?_)
   |refine And.intro ?_ ?_
  rename_i hx;exact aa (days.out 29 (by rw[if_pos ⟨rfl,by simp;omega⟩];rfl));rename_i hx;exact aa (days.out 28 (by rw[if_neg (λ⟨_,e⟩=>hx (by simp at e;omega))];rfl))
 by_cases q30:M=4\/M=6\/M=9\/M=11;have d30:=hid (days.out 30 (by unfold UU;rw[if_neg (by omega),if_neg (by omega),if_pos (by omega)]));rcases q30 with e|e|e|e;have p1:(M:Int)=4:=by omega
 clear e;refine wk ?_;exact aa d30.out;have p1:(M:Int)=6:=by omega
 clear e;refine wk ?_;exact aa d30.out;have p1:(M:Int)=9:=by omega
 clear e;refine wk ?_;exact aa d30.out;have p1:(M:Int)=11:=by omega
 clear e;refine wk ?_;exact aa d30.out;have d31:=hid (days.out 31 (by unfold UU;rw[if_neg (by omega),if_neg (by omega),if_neg (by omega)]));have p1:¬(M:Int)=4:=by omega
 have p2:¬(M:Int)=6:=by omega
 have p3:¬(M:Int)=9:=by omega
 have p4:¬(M:Int)=11:=by omega
 clear q30;refine wk ?_;exact aa d31.out
theorem Pm(h:K (Rm (dh syn v)) L):ag6 45 [.int .i64 syn,.str v] L K:=by
 unfold dh at h;refine ad Qh (by simp[vZ]) ?_;simp only[vZ,am];by_cases hl:4096<v.length;have f1:(4096:Int)<(v.length:Int):=by omega
 rw[if_pos hl]at h;replace h:=hid h;clear hl;refine wk ?_;exact aa h.out;have f1:¬(4096:Int)<(v.length:Int):=by omega
 rw[if_neg hl]at h;have vl1:v.length<=1100000:=by omega
 have vl2:(v.length:Int)<=100000:=by omega
 have hu:=Iv v.length v (ag9 _);have hnu:=afr v;unfold DG at h;clear hl;by_cases s1:syn=1;subst s1;rw[if_pos rfl]at h;by_cases hv:v=[];rw[if_pos hv]at h;replace h:=hid h;subst hv;have e0:([]:List UInt8).length=0:=rfl;refine wk ?_;exact aa h.out;rw[if_neg hv]at h;have f2:(0:Int)<(v.length:Int):=by have:=ain.2 hv;omega
 cases hd:Lib.validD v with
 | true =>
   rw[hd,if_pos rfl]at h;replace h:=hid h;rw[hd]at hu;have kk1:=@hid _ (λL K=>vB vl2 (L:=L) (K:=K));have kk2:=@hid _ (λL K=>X6 vl1 (L:=L) (K:=K));refine wk ?_;exact aa h.out
 | false =>
   rw[hd,if_neg (by simp)]at h;replace h:=hid h;rw[hd]at hu;have kk1:=@hid _ (λL K=>vB vl2 (L:=L) (K:=K));have kk2:=@hid _ (λL K=>X6 vl1 (L:=L) (K:=K));refine wk ?_;exact aa h.out
 rw[if_neg s1]at h;by_cases s2:syn=2;subst s2;rw[if_pos rfl]at h;by_cases hv:v=[];rw[if_pos hv]at h;replace h:=hid h;subst hv;have e0:([]:List UInt8).length=0:=rfl;refine wk ?_;exact aa h.out;rw[if_neg hv]at h;have f2:(0:Int)<(v.length:Int):=by have:=ain.2 hv;omega
 cases hd:Lib.validD v with
 | true =>
   rw[hd,if_pos rfl]at h;replace h:=hid h;rw[hd]at hu;have kk1:=@hid _ (λL K=>X6 vl1 (L:=L) (K:=K));refine wk ?_;exact aa h.out
 | false =>
   rw[hd,if_neg (by simp)]at h;replace h:=hid h;rw[hd]at hu;have kk1:=@hid _ (λL K=>X6 vl1 (L:=L) (K:=K));refine wk ?_;exact aa h.out
 rw[if_neg s2]at h;by_cases s3:syn=3;subst s3;rw[if_pos rfl]at h;replace h:=hid h;clear hu hnu;refine wk ?_;refine ak (λn T' L'=>∃i:Nat,n=v.length-i/\i<=v.length/\Hid (IW (v.take i)=true)/\T'=[(6,.int .i64 (i:Int)),(1,.str v),(12,.int .i64 3)]/\L=L') (CutS (b:=ag9 _)) ⟨0,rfl,ahf _,hid rfl,rfl,rfl⟩ ?_;rintro _ _ _ ⟨i,rfl,hi,hall,rfl,rfl⟩;by_cases hlt:i<v.length;have g1:(i:Int)<(v.length:Int):=by omega
 have g2:=ag4 i (by omega);obtain⟨c,hc⟩:=ag2 (v.getD i 0);have htk:v.take (i+1)=v.take i++[c]:=by rw[ahw hlt,<- hc];simp[hlt]
 have hm:c∈v:=by rw[<- hc];simp[hlt]
 by_cases ha:c.toNat<128;have f2:¬(128:Int)<=(c.toNat:Int):=by omega
 have hnext:IW (v.take (i+1))=true:=by have:=hall.out;unfold IW at this⊢;rw[htk,ajE,this];simp[ha]
 replace hnext:=hid hnext;clear ha htk hm;refine wk ?_;exact ah _ _ _ (by omega) (CutL (b:=ag9 _)) ⟨i+1,rfl,hlt,hnext,rfl,rfl⟩;have f2:(128:Int)<=(c.toNat:Int):=by omega
 have hbad:IW v=false:=by rw[<- aiI];intro e;have:=ahk.1 e c hm;simp at this;omega
 have h':=h.out;rw[hbad,if_neg (by simp)]at h';replace h':=hid h';clear ha htk hm hbad;refine wk ?_;exact aa h'.out;have hke:i=v.length:=by omega
 subst hke;have g1:¬(v.length:Int)<(v.length:Int):=by omega
 have e:=hall.out;rw[ahr]at e;have h':=h.out;rw[e,if_pos rfl]at h';replace h':=hid h';clear e;have kk1:=@hid _ (λL K=>vB vl2 (L:=L) (K:=K));refine wk ?_;exact aa h'.out;rw[if_neg s3]at h;by_cases s4:syn=4;subst s4;rw[if_pos rfl]at h;cases hd:vd v with
 | true =>
   rw[hd,if_pos rfl]at h;replace h:=hid h;rw[hd]at hnu;have kk1:=@hid _ (λL K=>Te vl1 (L:=L) (K:=K));refine wk ?_;exact aa h.out
 | false =>
   rw[hd,if_neg (by simp)]at h;replace h:=hid h;rw[hd]at hnu;have kk1:=@hid _ (λL K=>Te vl1 (L:=L) (K:=K));refine wk ?_;exact aa h.out
 rw[if_neg s4]at h;by_cases s5:syn=5;subst s5;rw[if_pos rfl]at h;clear hu hnu;by_cases t1:v=acY;rw[if_pos (.inl t1)]at h;replace h:=hid h;subst t1;refine wk ?_;exact aa h.out;by_cases t2:v=XV;rw[if_pos (.inr t2)]at h;replace h:=hid h;subst t2;have t3:¬([70,65,76,83,69]:List UInt8)=[84,82,85,69]:=by decide
 clear t1;refine wk ?_;exact aa h.out;rw[if_neg (λe=>e.elim t1 t2)]at h;replace h:=hid h;refine wk ?_;exact aa h.out;rw[if_neg s5]at h;clear hu hnu;by_cases s6:syn=6;subst s6;rw[if_pos rfl]at h;obtain⟨⟨k,e⟩,hk⟩:∃p,HU v=p:=⟨_,rfl⟩;rw[hk]at h;simp only at h;by_cases he:e=0;subst he;rw[if_pos rfl]at h;replace h:=hid h;refine wk ?_;refine aa7 ?_;rw[hk];simp only[rX];refine sk ?_;refine wk ?_;exact aa h.out;rw[if_neg he]at h;replace h:=hid h;refine wk ?_;refine aa7 ?_;rw[hk];simp only[rX];refine sk ?_;refine wk ?_;exact aa h.out;rw[if_neg s6]at h;by_cases s7:syn=7;subst s7;rw[if_pos rfl]at h;replace h:=hid h;refine wk ?_;exact aa h.out;rw[if_neg s7]at h;by_cases s8:syn=8;subst s8;rw[if_pos rfl]at h;cases hd:HO v with
 | true =>
   rw[hd,if_pos rfl]at h;replace h:=hid h;have kk1:=@hid _ (λL K=>Tf vl1 (L:=L) (K:=K));refine wk ?_;exact aa h.out
 | false =>
   rw[hd,if_neg (by simp)]at h;replace h:=hid h;have kk1:=@hid _ (λL K=>Tf vl1 (L:=L) (K:=K));refine wk ?_;exact aa h.out
 rw[if_neg s8]at h;replace h:=hid h;refine wk ?_;exact aa h.out
theorem X5(v:List UInt8)(rest:List UInt8)(hr:rest=[]\/∃c t,rest=c::t/\(c=44\/c=43)):∀(s b:List UInt8) (bl:Bool),b++s=v->(s=[]->bl=false)->fF b bl (wrL v.length b.length s++rest)=some (v,rest,true)
 | [],b,bl,e,h=>by
   rw[ahG]at e;subst e;simp only[wrL,ahJ];rw[h rfl];rcases hr with rfl|⟨c,t,rfl,hc⟩
   .exact mU
   .exact pL hc
 | c::s,b,bl,e,h=>by
   have ih:=λbl' (h':s=[]->bl'=false)=>X5 v rest hr s (b++[c]) bl' (by rw[<- e];simp) h'
   have hbl:(b++[c]).length=b.length+1:=(by simp);rw[hbl]at ih;have hvl:v.length=b.length+s.length+1:=(by rw[<- e];simp;omega);rw[wrL,aho];unfold wrB;split
   .rename_i hc;subst hc;show fF b bl (92::48::48::(wrL v.length (b.length+1) s++rest))=_;rw[DV (by decide)];exact ih false (λ_=>rfl)
   .rename_i hc;split
    .rename_i h2;show fF b bl (92::c::(wrL v.length (b.length+1) s++rest))=_;rw[rV]
     .exact ih false (λ_=>rfl)
     .rcases h2 with⟨_,rfl|rfl⟩|⟨_,rfl⟩|h2
      .decide
      .decide
      .decide
      .simp only[ahc,aiL,or_false]at h2⊢;rcases h2 with rfl|rfl|rfl|rfl|rfl|rfl|rfl<;>decide
    .rename_i h2;show fF b bl (c::(wrL v.length (b.length+1) s++rest))=_;have h5:¬c∈([34,43,44,59,60,62,92]:List UInt8):=λq=>h2 (.inr (.inr q))
     simp only[ahc,aiL,or_false,not_or]at h5;rw[mD (λq=>q.elim (λq=>h5.2.2.1 q) (λq=>h5.2.1 q)) (λq=>h5.2.2.2.2.2.2 q)];rw[if_neg]
     .refine ih _ (λhs=>?_);rw[decide_eq_false_iff_not];intro q;refine h2 (.inr (.inl ⟨?_,q⟩));rw[hvl,hs];simp
     .rintro(q|q|⟨q1,q2⟩)
      .exact hc q
      .simp only[ahc,aiL,or_false]at q;rcases q with q|q|q|q
       .exact h5.1 q
       .exact h5.2.2.2.1 q
       .exact h5.2.2.2.2.1 q
       .exact h5.2.2.2.2.2.1 q
      .exact h2 (.inl ⟨by rw[q1];rfl,q2⟩)
theorem LA(v:List UInt8){rest:List UInt8}(hr:rest=[]\/∃c t,rest=c::t/\(c=44\/c=43)):fF [] false (eu v++rest)=some (v,rest,true):=
 X5 v rest hr v [] false rfl (λ_=>rfl)
theorem Wk:∀(t r:List UInt8),(∀c∈t,c≠61)->kX (t++61::r)=some (t,r)
 |[],r,_=>by simp[kX]
 |c::t,r,h=>by rw[ahL,kX,if_neg (h c (by simp)),Wk t r (λx hx=>h x (by simp[hx]))]
theorem aaM(h:eT t=true):∀c∈t,c≠61:=by intro c hc e;simp only[eT,ahe,ahk]at h;have:=h.2 c hc;rw[e]at this;exact absurd this (by decide)
theorem Rv(x sep:List UInt8)(xs:List (List UInt8)):Lib.join (x::xs) sep=x++xs.flatMap (λy=>sep++y):=by
 induction xs generalizing x with
 |nil=>simp[Lib.join,List.intercalate]
 | cons y l ih =>
   have e:Lib.join (x::y::l) sep=x++(sep++Lib.join (y::l) sep):=(by simp[Lib.join,List.intercalate]);rw[e,ih];simp
def mK(t:Rdn):List UInt8:=t.flatMap λa=>43::avT false a
def mF(d:List Rdn):List UInt8:=d.flatMap λr=>44::dp false r
theorem Td(a:Ava)(t:Rdn):dp false (a::t)=avT false a++mK t:=by simp only[dp,ahp,if_false,ahl,Rv,mK];simp[List.flatMap_map]
theorem YW(r:Rdn)(d:List Rdn):dY false (r::d)=dp false r++mF d:=by simp only[dY,ahl,Rv,mF];simp[List.flatMap_map]
theorem Rj:∀(f:Nat) (out:List Rdn) (now:Rdn) (a:Ava) (t:Rdn) (d:List Rdn),(avT false a++(mK t++mF d)).length<f->out.length<32->dJ now (a::t)=0->lv (out.length+1) d=0 ->
  qB f out now (avT false a++(mK t++mF d))=(out++[now++a::t]++d,0)
 |0,_,_,_,_,_,h,_,_,_=>by omega
 | f+1,out,now,(ty,v),t,d,hf,ho,hc,hd=>by
   unfold dJ at hc;split at hc
   .cases hc
   rename_i hn8;split at hc
   .cases hc
   rename_i hty;split at hc
   .cases hc
   rename_i hha;simp only[Bool.not_eq_false]at hty;have e1:avT false (ty,v)++(mK t++mF d)=ty++61::(eu v++(mK t++mF d)):=(by simp[avT]);rw[e1]at hf⊢;rw[qB,if_neg (by omega),Wk _ _ (aaM hty)];simp only;rw[if_neg (by simp[hty]),if_neg hha];rcases t with _|⟨a2,t⟩
   .rcases d with _|⟨r,d⟩
    .rw[show mK []++mF []=([]:List UInt8)from rfl];rw[LA v (.inl rfl)];simp
    .rw[show mK []++mF (r::d)=44::(dp false r++mF d)by simp[mK,mF]]at hf⊢;rw[LA v (.inr ⟨44,_,rfl,.inl rfl⟩)];simp only[aij,if_false,if_true];unfold lv at hd;split at hd
     .cases hd
     rename_i h32;split at hd
     .cases hd
     rename_i hr0;split at hd
     .rename_i h5;exact absurd hd h5
     rename_i h5;simp only[ne_eq,ajp]at h5;rcases r with _|⟨a2,t⟩
     .exact absurd rfl hr0
     have ih:=Rj f (out++[now++[(ty,v)]]) [] a2 t d;rw[Td,aho]at hf⊢;rw[ih (by simp only[ahq,ahj]at hf⊢;omega) (by simp;omega) h5 (by simpa using hd)];simp
   .rw[show mK (a2::t)++mF d=43::(avT false a2++(mK t++mF d))by simp[mK]]at hf⊢;rw[LA v (.inr ⟨43,_,rfl,.inr rfl⟩)];simp only[aij,if_false,show ¬((43:UInt8)=44)by decide];have ih:=Rj f out (now++[(ty,v)]) a2 t d;rw[ih (by simp only[ahq,ahj]at hf⊢;omega) ho hc hd];simp
theorem abv{d:List Rdn}(h:lv 0 d=0)(hl:(dY false d).length<=4096):vb (dY false d)=(d,0):=by unfold vb;rw[if_neg (by omega)];rcases d with _|⟨r,d⟩;simp[dY,Lib.join];unfold lv at h;split at h;cases h;split at h;cases h;rename_i hr0;split at h;rename_i h5;exact absurd h h5;rename_i h5;simp only[ne_eq,ajp]at h5;rcases r with _|⟨a,t⟩;exact absurd rfl hr0;rw[YW,Td,aho];rw[if_neg (by simp[avT])];have:=Rj ((avT false a++(mK t++mF d)).length+1) [] [] a t d (by omega) (by simp) h5 h;rw[this];simp
theorem eM(c:UInt8):(dN c).toNat=if 65<=c.toNat/\c.toNat<=90 then c.toNat+32 else c.toNat:=by by_cases h:65<=c.toNat/\c.toNat<=90;have:=UD h.1 h.2;rw[if_pos h];omega;rw[vf h,if_neg h]
theorem TE(c:UInt8):dN (dN c)=dN c:=by refine vf ?_;rw[eM];split<;>omega
theorem RG(s:List UInt8):af (af s)=af s:=by unfold af;rw[ahK];exact aiT λc _=>TE c
theorem Q9(s:List UInt8)(c:UInt8):bI (s++[c])=ax (bI s) c:=by simp[bI]
theorem Ra(s:List UInt8):(bI s).length<=s.length:=by have:=pM s s.length;rwa[ahr]at this
theorem Us(c:UInt8)(h:bI b=b):bI (ax b c)=ax b c:=by by_cases hc:c=32/\vq b=true;simp only[ax,if_pos hc];exact h;simp only[ax,if_neg hc];rw[Q9,h,ax,if_neg hc]
theorem Wc:∀(s b:List UInt8),bI b=b->bI (s.foldl ax b)=s.foldl ax b
 |[],_,h=>h
 |c::s,b,h=>Wc s (ax b c) (Us c h)
theorem Ov(s:List UInt8):bI (bI s)=bI s:=Wc s [] rfl
theorem aeo(h:bI (b++[c])=b++[c]):bI b=b/\¬(c=32/\vq b=true):=by rw[Q9]at h;unfold ax at h;split at h;have:=Ra b;rw[h]at this;simp at this;omega;rename_i hc;have:=List.append_cancel_right h;rw[this]at hc;exact⟨this,hc⟩
theorem Oo(h:bI b=b):bI (dk b)=dk b/\dk (dk b)=dk b:=by
 rcases aiZ b with rfl|⟨d,c,rfl⟩;simp[dk,bI];rw[ajs]at h⊢;obtain⟨h1,h2⟩:=aeo h;rw[fR];split;rename_i hc;refine⟨h1,?_⟩;have h3:vq d=false:=by simpa[hc]using h2
 unfold dk;rw[if_neg];intro e;simp[vq,e]at h3;rename_i hc;exact⟨h,by rw[fR,if_neg hc]⟩
theorem UC(h:x∈ax b c):x∈b\/x=c:=by unfold ax at h;split at h;exact .inl h;simpa using h
theorem VE:∀(s b:List UInt8){x:UInt8},x∈s.foldl ax b->x∈b\/x∈s
 |[],_,_,h=>.inl h
 | c::s,b,x,h=>by
   rcases VE s (ax b c) h with h1|h1
   .rcases UC h1 with h2|h2
    .exact .inl h2
    .exact .inr (by simp[h2])
   .exact .inr (by simp[h1])
theorem Zx(h:x∈dk b):x∈b:=by unfold dk at h;split at h;exact(List.dropLast_sublist b).subset h;exact h
theorem TB(h:x∈bz s):∃c∈s,x=dN c:=by rcases VE _ _ (Zx h)with h1|h1;cases h1;obtain⟨c,hc,rfl⟩:=ahd.1 h1;exact⟨c,hc,rfl⟩
theorem Wd(s:List UInt8):af (bz s)=bz s:=by unfold af;rw[aiT (g:=id) (λx hx=>?_),List.map_id];obtain⟨c,_,rfl⟩:=TB hx;exact TE c
theorem LI(s:List UInt8):bz (bz s)=bz s:=by
 have h1:bz (bz s)=dk (bI (bz s)):=by show dk (bI (af (bz s)))=_;rw[Wd]
 rw[h1];have h2:=Oo (Ov (af s));show dk (bI (dk (bI (af s))))=dk (bI (af s));rw[h2.1,h2.2]
def Chr(q:List UInt8):Prop:=q≠[]/\(∀s,Lib.validD (q++s)=Lib.validD s)/\((∃c:UInt8,q=[c]/\c.toNat<128)\/∀c∈q,128<=c.toNat)
inductive Seg:List UInt8->Prop
 |nil:Seg []
 |cons{q s:List UInt8}:Chr q->Seg s->Seg (q++s)
theorem mT(b:UInt8)(t:List UInt8):Lib.validD (b::t)=if iY (t.length+1) b.toNat (t.getD 0 0).toNat (t.getD 1 0).toNat (t.getD 2 0).toNat=0 then false else Lib.validD ((b::t).drop (iY (t.length+1) b.toNat (t.getD 0 0).toNat (t.getD 1 0).toNat (t.getD 2 0).toNat)):=by rw[<- Iv (t.length+1) (b::t) (by simp),Vf];split;rfl;rename_i hn;refine Iv _ _ ?_;rw[aja,ahj];omega
theorem Seg.valid(h:Seg s):Lib.validD s=true:=by
 induction h with
 |nil=>exact Lib.validD_nil
 |cons hq _ ih=>rw[hq.2.1];exact ih
theorem Seg.app{a:List UInt8}(h:Seg a)(hb:Seg b):Seg (a++b):=by
 induction h with
 |nil=>exact hb
 |cons hq _ ih=>rw[aho];exact .cons hq ih
theorem UX(h:c.toNat<128):Chr [c]:=by refine⟨by simp,λs=>?_,.inl ⟨c,rfl,h⟩⟩;rw[ajP,mT];rw[show iY (s.length+1) c.toNat (s.getD 0 0).toNat (s.getD 1 0).toNat (s.getD 2 0).toNat=1 by rw[iY,if_pos h]];simp
theorem afj(h:n<2)(hb:¬b0<128):iY n b0 b1 b2 b3=0:=by rw[iY,if_neg hb,if_pos (show Ik n b0 b1 from .inl h),if_pos (show Og n b0 b1 b2 from .inl (by omega)),if_pos (show IV n b0 b1 b2 b3 from .inl (by omega))];simp
theorem afi(h:n<3)(hb:¬b0<224):iY n b0 b1 b2 b3=0:=by rw[iY,if_neg (show ¬b0<128 by omega),if_neg hb,if_pos (show Og n b0 b1 b2 from .inl h),if_pos (show IV n b0 b1 b2 b3 from .inl (by omega))];simp
theorem afh(h:n<4)(hb:¬b0<240):iY n b0 b1 b2 b3=0:=by rw[iY,if_neg (show ¬b0<128 by omega),if_neg (show ¬b0<224 by omega),if_neg hb,if_pos (show IV n b0 b1 b2 b3 from .inl h)];simp
theorem QS:∀(n:Nat) (s:List UInt8),s.length<=n->Lib.validD s=true->Seg s
 |_,[],_,_=>.nil
 |0,_::_,h,_=>by simp at h
 | n+1,b::t,h,hv=>by
   rw[mT]at hv;split at hv
   .cases hv
   rename_i hz;by_cases h1:b.toNat<128
   .rw[show iY (t.length+1) b.toNat (t.getD 0 0).toNat (t.getD 1 0).toNat (t.getD 2 0).toNat=1 by rw[iY,if_pos h1]]at hv;exact Seg.cons (q:=[b]) (UX h1) (QS n t (by simpa using h) (by simpa using hv))
   have hbb:=b.toNat_lt;obtain⟨k,hk⟩:=ag2 (iY (t.length+1) b.toNat (t.getD 0 0).toNat (t.getD 1 0).toNat (t.getD 2 0).toNat);rw[hk]at hv hz;rcases t with _|⟨x,t⟩
   .exfalso;rw[afj (by simp) (by assumption)]at hk;exact hz hk.symm
   by_cases h2:b.toNat<224
   .have hA:128<=b.toNat/\Cn x.toNat/\128<=(b.toNat-192)*64+x.toNat-128/\¬b.toNat<192/\k=2:=by
     simp only[iY,if_neg h1,if_pos h2,aig,Ik]at hk
     repeat' split at hk
     all_goals first|(exfalso;omega)|(unfold Cn;rename_i h5 h6;unfold Cn at h6;omega)
    obtain⟨a1,a2,a3,a4,rfl⟩:=hA;refine Seg.cons (q:=[b,x]) ⟨by simp,λs=>?_,.inr (aiV.2 ⟨a1,aiV.2 ⟨a2.1,λ_ h=>nomatch h⟩⟩)⟩ (QS n t (by simp at h;omega) (by simpa using hv));show Lib.validD (b::x::s)=_;rw[mT];rw[show iY ((x::s).length+1) b.toNat ((x::s).getD 0 0).toNat ((x::s).getD 1 0).toNat ((x::s).getD 2 0).toNat=2 by
     rw[iY,if_neg h1,if_neg a4,if_pos h2,if_neg];simp only[Ik,aig,ahj];rintro(e|e|e)
     .omega
     .exact e a2
     .omega]
    simp
   rcases t with _|⟨y,t⟩
   .exfalso;rw[afi (by simp) (by assumption)]at hk;exact hz hk.symm
   by_cases h3:b.toNat<240
   .have hA:Cn x.toNat/\Cn y.toNat/\¬Og (t.length+3) b.toNat x.toNat y.toNat/\k=3:=by
     simp only[iY,if_neg h1,if_neg h2,if_neg (show ¬b.toNat<192 by omega),if_pos h3,aig,aiR,ahj]at hk;split at hk
     .exfalso;omega
     .rename_i h6;refine⟨?_,?_,h6,hk.symm⟩
      .by_cases e:Cn x.toNat
       .exact e
       .exact absurd (.inr (.inl e)) h6
      .by_cases e:Cn y.toNat
       .exact e
       .exact absurd (.inr (.inr (.inl e))) h6
    obtain⟨a1,a2,a3,rfl⟩:=hA;refine Seg.cons (q:=[b,x,y]) ⟨by simp,λs=>?_,.inr (aiV.2 ⟨(by omega),aiV.2 ⟨a1.1,aiV.2 ⟨a2.1,λ_ h=>nomatch h⟩⟩⟩)⟩ (QS n t (by simp at h;omega) (by simpa using hv));show Lib.validD (b::x::y::s)=_;rw[mT];rw[show iY ((x::y::s).length+1) b.toNat ((x::y::s).getD 0 0).toNat ((x::y::s).getD 1 0).toNat ((x::y::s).getD 2 0).toNat=3 by
     rw[iY,if_neg h1,if_neg (show ¬b.toNat<192 by omega),if_neg h2,if_pos h3,if_neg];simp only[aig,aiR,ahj];intro e;apply a3;rcases e with e|e
     .omega
     .exact .inr e]
    simp
   rcases t with _|⟨z,t⟩
   .exfalso;rw[afh (by simp) (by assumption)]at hk;exact hz hk.symm
   have hA:Cn x.toNat/\Cn y.toNat/\Cn z.toNat/\¬IV (t.length+4) b.toNat x.toNat y.toNat z.toNat/\k=4:=by
    simp only[iY,if_neg h1,if_neg h2,if_neg (show ¬b.toNat<192 by omega),if_neg h3,aig,aiR,ahj]at hk;split at hk
    .exfalso;omega
    .rename_i h6;refine⟨?_,?_,?_,h6,hk.symm⟩
     .by_cases e:Cn x.toNat
      .exact e
      .exact absurd (.inr (.inl e)) h6
     .by_cases e:Cn y.toNat
      .exact e
      .exact absurd (.inr (.inr (.inl e))) h6
     .by_cases e:Cn z.toNat
      .exact e
      .exact absurd (.inr (.inr (.inr (.inl e)))) h6
   obtain⟨a1,a2,a4,a3,rfl⟩:=hA;refine Seg.cons (q:=[b,x,y,z]) ⟨by simp,λs=>?_,.inr (aiV.2 ⟨(by omega),aiV.2 ⟨a1.1,aiV.2 ⟨a2.1,aiV.2 ⟨a4.1,λ_ h=>nomatch h⟩⟩⟩⟩)⟩ (QS n t (by simp at h;omega) (by simpa using hv));show Lib.validD (b::x::y::z::s)=_;rw[mT];rw[show iY ((x::y::z::s).length+1) b.toNat ((x::y::z::s).getD 0 0).toNat ((x::y::z::s).getD 1 0).toNat ((x::y::z::s).getD 2 0).toNat=4 by
    rw[iY,if_neg h1,if_neg (show ¬b.toNat<192 by omega),if_neg h2,if_neg h3,if_neg];simp only[aig,aiR,ahj];intro e;apply a3;rcases e with e|e
    .omega
    .exact .inr e]
   simp
theorem Seg.last(h:Seg s):∀d:List UInt8,s=d++[32]->Seg d:=by
 induction h with
 |nil=>intro d e;simp at e
 | @cons q s hq hs ih =>
   intro d e;rcases aiZ s with rfl|⟨s',c,rfl⟩
   .rw[ahG]at e;subst e;rcases hq.2.2 with⟨c,e2,_⟩|h2
    .have:d=[]:=by have:=congrArg List.length e2;simp at this;exact this
     subst this;exact .nil
    .have:=h2 32 (by simp);exact absurd this (by decide)
   .rw[ajs]at *;rw[<- aho]at e;obtain⟨e1,e2⟩:=List.append_inj' e rfl;subst e1;rw[e2]at ih hs;exact .cons hq (ih s' rfl)
theorem acq{q:List UInt8}(hq:∀c∈q,128<=c.toNat):∀b,q.foldl ax b=b++q:=by
 induction q with
 |nil=>simp
 | cons c q ih =>
   intro b;have hc:=hq c (by simp);have h32:¬(c=32/\vq b=true):=(by rintro⟨rfl,_⟩;exact absurd hc (by decide));rw[ahZ,ax,if_neg h32,ih (λc hc=>hq c (by simp[hc]))];simp
theorem aev{q:List UInt8}(hq:Chr q):Chr (af q)/\((∃c:UInt8,af q=[c]/\c.toNat<128)\/∀c∈af q,128<=c.toNat):=by
 have h:Chr (af q):=by
  rcases hq.2.2 with⟨c,rfl,hc⟩|h2;refine UX (c:=dN c) ?_;rw[eM];split<;>omega;have:af q=q:=by unfold af;rw[aiT (g:=id) (λx hx=>?_),List.map_id];refine vf ?_;have:=h2 x hx;omega
  rw[this];exact hq
 exact⟨h,h.2.2⟩
theorem aaY(h:Seg s):∀b,Seg b->Seg ((af s).foldl ax b):=by
 induction h with
 |nil=>exact λb hb=>hb
 | @cons q s hq hs ih =>
   intro b hb;rw[show af (q++s)=af q++af s by simp[af],ai7];refine ih _ ?_;obtain⟨h1,⟨c,e,hc⟩|h2⟩:=aev hq
   .rw[e];simp only[ahZ,ajc,ax];split
    .exact hb
    .exact hb.app (.cons (s:=[]) (UX hc) .nil)
   .rw[acq h2];refine hb.app ?_;have:=Seg.cons h1 .nil;rwa[ahG]at this
theorem Ve(h:Lib.validD s=true):Lib.validD (bz s)=true:=by have h1:=aaY (QS _ s (ag9 _) h) [] .nil;refine Seg.valid ?_;show Seg (dk (bI (af s)));unfold bI;obtain⟨b,hb⟩:=ag2 ((af s).foldl ax []);rw[hb]at h1⊢;rcases aiZ b with rfl|⟨d,c,rfl⟩;exact .nil;rw[ajs]at h1⊢;rw[fR];split;rename_i hc;subst hc;exact h1.last d rfl;exact h1
def Dif(a b:Ava):Prop:=af a.1≠af b.1
theorem Yv{r:Rdn}:lu r t=false↔∀a∈r,af a.1≠af t:=by simp[lu]
theorem RV:∀(t done:Rdn),done.length<=8->(dJ done t=0↔done.length+t.length<=8/\(∀a∈t,eT a.1=true)/\(∀a∈done,∀b∈t,Dif a b)/\t.Pairwise Dif)
 |[],done,h=>by simp[dJ,h]
 | a::t,done,h=>by
   unfold dJ;by_cases h8:done.length=8
   .rw[if_pos h8];simp only[ahj];constructor
    .intro e;cases e
    .intro e;omega
   rw[if_neg h8];by_cases hty:eT a.1=false
   .rw[if_pos hty];constructor
    .intro e;cases e
    .intro e;have:=e.2.1 a (by simp);rw[hty]at this;cases this
   rw[if_neg hty];by_cases hh:lu done a.1=true
   .rw[if_pos hh];constructor
    .intro e;cases e
    .intro e;have:lu done a.1=false:=Yv.2 λb hb=>e.2.2.1 b hb a (by simp)
     rw[hh]at this;cases this
   rw[if_neg hh,RV t (done++[a]) (by simp;omega)];simp only[Bool.not_eq_false]at hty;have hh2:=Yv.1 (by simpa using hh);simp only[ahq,ahj,ahX,ahb,ahs,ahc,aiL,or_false,forall_eq_or_imp,ahR];constructor
   .rintro⟨e1,e2,e3,e4⟩;refine⟨by omega,⟨hty,e2⟩,λx hx=>⟨hh2 x hx,λb hb=>e3 x (.inl hx) b hb⟩,λb hb=>e3 a (.inr rfl) b hb,e4⟩
   .rintro⟨e1,⟨_,e2⟩,e3,e4,e5⟩;refine⟨by omega,e2,?_,e5⟩;rintro x (hx|rfl) b hb
    .exact(e3 x hx).2 b hb
    .exact e4 b hb
theorem YV(h:eT t=true):eT (af t)=true:=by
 simp only[eT,ahe,ahk,decide_eq_true_eq]at h⊢;obtain⟨⟨⟨h1,h2⟩,h3⟩,h4⟩:=h;have hlet:∀c:UInt8,oH (c.toNat:Int)=true->oH ((dN c).toNat:Int)=true:=by intro c hc;have:=eM c;split at this;rw[this];simp only[oH,ahO,ahe,decide_eq_true_eq]at hc⊢;omega;rw[this];exact hc
 refine⟨⟨⟨by simpa[af]using h1,by simpa[af]using h2⟩,?_⟩,?_⟩;rcases t with _|⟨c,t⟩;simp at h1;simpa[af]using hlet c (by simpa using h3);intro c hc;obtain⟨x,hx,rfl⟩:=ahd.1 hc;have:=h4 x hx;simp only[Mo,ahO]at this⊢;rcases this with(e|e)|e;exact .inl (.inl (hlet x e));refine .inl (.inr ?_);simp only[ahe,decide_eq_true_eq]at e⊢;rw[eM,if_neg (by omega)];exact e;refine .inr ?_;simp only[decide_eq_true_eq]at e⊢;rw[eM,if_neg (by omega)];exact e
theorem Rc(r:Rdn):(fy r).Perm (r.map ry):=by have:=(N4 r [] List.Pairwise.nil).2;rwa[ahJ]at this
theorem Zr(a:Ava):ry (ry a)=ry a:=by simp[ry,RG,LI]
theorem UY{r:Rdn}(h:dJ [] r=0):dJ [] (fy r)=0:=by
 rw[RV _ _ (by simp)]at h⊢;obtain⟨h1,h2,_,h4⟩:=h;have hp:=Rc r;refine⟨by simpa[vH]using h1,λa ha=>?_,λa ha=>(by cases ha),?_⟩;obtain⟨b,hb,rfl⟩:=ahd.1 (hp.mem_iff.1 ha);exact YV (h2 b hb);refine(hp.pairwise_iff (λ{a b} e=>Ne.symm e)).2 ?_;rw[ajF];refine h4.imp λ{a b} e=>?_
 simpa[Dif,ry,RG]using e
theorem RW:∀(d:List Rdn) (i:Nat),lv i d=0->lv i (kL d)=0
 |[],_,h=>h
 | r::d,i,h=>by
   unfold lv at h;show lv i (fy r::kL d)=0;unfold lv;split at h
   .cases h
   rename_i h32;split at h
   .cases h
   rename_i hr;split at h
   .rename_i h5;exact absurd h h5
   rename_i h5;simp only[ne_eq,ajp]at h5;rw[if_neg h32,if_neg,if_neg (by simpa using UY h5),RW d _ h];intro e;have:=congrArg List.length e;rw[vH]at this;exact hr (ahH.1 this)
def wtB(c:UInt8):Nat:=if c=0 then 3 else if c∈([34,43,44,59,60,62,92]:List UInt8)then 2 else 1
def wtS(s:List UInt8):Nat:=(s.map wtB).sum
theorem X3(a b:List UInt8):wtS (a++b)=wtS a+wtS b:=by simp[wtS]
theorem ae6:∀c:UInt8,wtB (dN c)=wtB c:=by
 intro c;by_cases h:65<=c.toNat/\c.toNat<=90
 .have h2:=eM c;rw[if_pos h]at h2;have g:∀x:UInt8,65<=x.toNat->x.toNat≠92->wtB x=1:=by
   intro x hx hn;unfold wtB;rw[if_neg (by rintro rfl;exact absurd hx (by decide)),if_neg];simp only[ahc,aiL,or_false];rintro(rfl|rfl|rfl|rfl|rfl|rfl|rfl)
   all_goals first|exact absurd hx (by decide)|exact absurd rfl hn
  rw[g c (by omega) (by omega),g _ (by omega) (by omega)]
 rw[vf h]
theorem Vc(s:List UInt8):wtS (af s)=wtS s:=by simp only[wtS,af,ahK];rw[show(wtB∘dN)=wtB from funext ae6]
theorem afa(i n:Nat)(c:UInt8):wtB c<=(wrB i n c).length:=by unfold wtB wrB;by_cases h0:c=0;rw[if_pos h0,if_pos h0];simp;rw[if_neg h0,if_neg h0];by_cases h7:c∈([34,43,44,59,60,62,92]:List UInt8);rw[if_pos h7,if_pos (.inr (.inr h7))];simp;rw[if_neg h7];split<;>simp
theorem WG(n:Nat):∀(s:List UInt8) (i:Nat),wtS s<=(wrL n i s).length
 |[],_=>by simp[wtS]
 |c::s,i=>by have h1:=WG n s (i+1);have h2:=afa i n c;simp only[wrL,ahq,wtS,ahl,aiy]at h1⊢;omega
theorem afc(hi:i≠0)(hc:c≠32):(wrB i n c).length=wtB c:=by
 unfold wtB wrB;by_cases h0:c=0;rw[if_pos h0,if_pos h0];simp;rw[if_neg h0,if_neg h0];by_cases h7:c∈([34,43,44,59,60,62,92]:List UInt8);rw[if_pos h7,if_pos (.inr (.inr h7))];simp;rw[if_neg h7,if_neg];· simp
 rintro(e|e|e);exact hi e.1;exact hc e.2;exact h7 e
theorem afb(hi:i≠0)(hn:i+1≠n):(wrB i n 32).length=wtB 32:=by
 have e:wrB i n 32=[32]:=by unfold wrB;rw[if_neg (by decide),if_neg];rintro(e|e|e);exact hi e.1;exact hn e.1;exact absurd e (by decide)
 rw[e];decide
theorem aaD(n:Nat):∀(s:List UInt8) (i:Nat),i≠0->n=i+s.length->s.getLast?≠some 32->(wrL n i s).length=wtS s
 |[],_,_,_,_=>by simp[wrL,wtS]
 | c::s,i,hi,hn,hl=>by
   have h1:s.getLast?≠some 32:=by
    rcases s with _|⟨x,s⟩
    .simp
    .rwa[List.getLast?_cons_cons]at hl
   have ih:=aaD n s (i+1) (by omega) (by simp at hn;omega) h1;have h2:(wrB i n c).length=wtB c:=by
    by_cases hc:c=32
    .subst hc;refine afb hi λe=>?_
     have:s=[]:=ahH.1 (by simp at hn;omega);subst this;exact hl rfl
    .exact afc hi hc
   rw[wrL,ahq,ih,h2];simp[wtS]
theorem aaC(s:List UInt8):wtS s<=(eu s).length:=WG _ _ _
theorem WF(s:List UInt8):wtS (35::s)+1<=(eu (35::s)).length:=by
 have h1:=WG (s.length+1) s 1;have e:wrB 0 (s.length+1) 35=[92,35]:=by unfold wrB;rw[if_neg (by decide),if_pos (.inl ⟨rfl,.inr rfl⟩)]
 show _<=(wrB 0 (s.length+1) 35++wrL (s.length+1) 1 s).length;rw[e];have:wtB 35=1:=by decide
 simp only[wtS,ahl,aiy,ahq,ahj,ahX]at h1⊢;omega
theorem aaB(h1:c≠32)(h2:(c::s).getLast?≠some 32):(eu (c::s)).length=wtS (c::s)+(if c=35 then 1 else 0):=by
 have hs:s.getLast?≠some 32:=by rcases s with _|⟨x,s⟩;simp;rwa[List.getLast?_cons_cons]at h2
 have h3:=aaD (s.length+1) s 1 (by omega) (by omega) hs;show(wrB 0 (s.length+1) c++wrL (s.length+1) 1 s).length=_;rw[ahq,h3];have h4:(wrB 0 (s.length+1) c).length=wtB c+(if c=35 then 1 else 0):=by
  unfold wtB wrB;by_cases h0:c=0;subst h0;rfl;rw[if_neg h0,if_neg h0];by_cases h7:c∈([34,43,44,59,60,62,92]:List UInt8);rw[if_pos h7,if_pos (.inr (.inr h7)),if_neg];rfl;rintro rfl;exact absurd h7 (by decide);rw[if_neg h7];by_cases h35:c=35;rw[if_pos h35,if_pos (.inl ⟨rfl,.inr h35⟩)];rfl;rw[if_neg h35,if_neg];· rfl
  rintro(e|e|e);rcases e.2 with e|e;exact h1 e;exact h35 e;exact h1 e.2;exact h7 e
 rw[h4];simp[wtS];omega
theorem adr(b:List UInt8)(c:UInt8):wtS (ax b c)<=wtS b+wtB c:=by unfold ax;split;omega;rw[X3];simp[wtS]
theorem Uk:∀(s b:List UInt8),wtS (s.foldl ax b)<=wtS b+wtS s
 |[],b=>by simp[wtS]
 |c::s,b=>by have h1:=Uk s (ax b c);have h2:=adr b c;simp only[ahZ,wtS,ahl,aiy]at h1 h2⊢;omega
theorem X2(b:List UInt8):wtS (dk b)<=wtS b:=by rcases aiZ b with rfl|⟨d,c,rfl⟩;simp[dk];rw[ajs,fR];split;rw[X3];omega;omega
theorem OI:∀(s:List UInt8) (x:UInt8) (b:List UInt8),∃t,s.foldl ax (x::b)=x::t
 |[],x,b=>⟨b,rfl⟩
 | c::s,x,b=>by
   rw[ahZ,ax];split
   .exact OI s x b
   .exact OI s x (b++[c])
theorem ads(c:UInt8):1<=wtB c:=by unfold wtB;split;omega;split<;>omega
theorem Xh(s:List UInt8):(bz s).getLast?≠some 32:=by have h:=Oo (Ov (af s));have e:dk (bz s)=bz s:=h.2;intro hl;rcases aiZ (bz s)with q|⟨d,c,q⟩;rw[q]at hl;cases hl;rw[q,ajs]at e hl;rw[fR,if_pos (by simpa using hl)]at e;have:=congrArg List.length e;simp at this
theorem Xp(h:bz s=c::t):c≠32:=by have e:bI (bz s)=bz s:=(Oo (Ov (af s))).1;rw[h]at e;rintro rfl;have:=Ra t;have e2:bI (32::t)=t.foldl ax []:=rfl;rw[e2]at e;have:=congrArg List.length e;have h3:(t.foldl ax []).length<=t.length:=Ra t;simp at this;omega
theorem YN(s:List UInt8):(eu (bz s)).length<=(eu s).length:=by
 have hge:=aaC s;have hw:wtS (bz s)<=wtS s:=by have h1:=X2 (bI (af s));have h2:=Uk (af s) [];have h3:=Vc s;have h4:wtS (bI (af s))=wtS ((af s).foldl ax []):=rfl;have h5:wtS ([]:List UInt8)=0:=rfl;show wtS (dk (bI (af s)))<=_;omega
 rcases hp:bz s with _|⟨c,t⟩;simp[eu,wrL];have hl:=Xh s;rw[hp]at hl hw;rw[aaB (Xp hp) hl];split;rename_i h35;subst h35;rcases s with _|⟨x,s⟩;have:bz []=[]:=rfl;rw[this]at hp;cases hp;by_cases hx:x=35;subst hx;have:=WF s;omega;by_cases hx2:x=32;subst hx2;have e:bz (32::s)=bz s:=rfl;have h1:=X2 (bI (af s));have h2:=Uk (af s) [];have h3:=Vc s;have h4:wtS (bI (af s))=wtS ((af s).foldl ax []):=rfl;have h5:wtS ([]:List UInt8)=0:=rfl;have h6:wtS (bz s)=wtS (dk (bI (af s))):=rfl;rw[e]at hp;rw[hp]at h6;have h7:wtS (32::s)=wtB 32+wtS s:=by simp[wtS]
 have h8:=ads 32;omega;exfalso;have hlx:¬(dN x=32):=by
  intro q;have:=eM x;rw[q]at this;apply hx2;have:x.toNat=32:=by split at this;have h9:(32:UInt8).toNat=32:=rfl;omega;exact this.symm
  exact UInt8.toNat.inj this
 have hlx5:¬(dN x=35):=by
  intro q;have:=eM x;rw[q]at this;apply hx;have:x.toNat=35:=by split at this;have h9:(35:UInt8).toNat=35:=rfl;omega;exact this.symm
  exact UInt8.toNat.inj this
 have e1:af (x::s)=dN x::af s:=rfl;obtain⟨u,hu⟩:=OI (af s) (dN x) [];have e2:bI (af (x::s))=dN x::u:=by rw[e1,<- hu];show(af s).foldl ax (ax [] (dN x))=_;rw[ax,if_neg (λq=>hlx q.1)];rfl
 have e3:dk (dN x::u)=35::t:=by rw[<- e2];exact hp
 rcases aiZ u with rfl|⟨d,y,rfl⟩;have:dk ([]++[dN x])=[]++[dN x]:=by rw[fR,if_neg hlx]
 rw[show[dN x]=[]++[dN x]from rfl,this]at e3;exact hlx5 (by simpa using congrArg List.head? e3);rw[ajs,<- ahL,fR]at e3;split at e3;exact hlx5 (by simpa using congrArg List.head? e3);exact hlx5 (by simpa using congrArg List.head? e3);omega
theorem NX(xs:List (List UInt8))(c:UInt8):(Lib.join xs [c]).length+1=(xs.map List.length).sum+xs.length+(if xs=[]then 1 else 0):=by
 rcases xs with _|⟨x,xs⟩;simp[Lib.join];rw[Rv,if_neg (by simp)];have:(xs.flatMap λy=>[c]++y).length=(xs.map List.length).sum+xs.length:=by
  induction xs with
  |nil=>rfl
  |cons y l ih=>simp only[aif,ahq,ih,ahl,aiy,ahj,ahX];omega
 simp only[ahq,this,ahl,aiy,ahj];omega
theorem WO{α:Type}{f g:α->Nat}:∀l:List α,(∀a∈l,f a<=g a)->(l.map f).sum<=(l.map g).sum
 |[],_=>ag9 _
 | a::l,h=>by
   have h1:=WO l λx hx=>h x (by simp[hx])
   have h2:=h a (by simp);simp only[ahl,aiy];omega
theorem abq{l m:List Nat}(h:l.Perm m):l.sum=m.sum:=by
 induction h with
 |nil=>rfl
 |cons _ _ ih=>simp only[aiy,ih]
 |swap a b l=>simp only[aiy];omega
 |trans _ _ a b=>exact a.trans b
theorem Vp(r:Rdn):(dp true r).length<=(dp false r).length:=by
 have hs:(dH (r.map (avT true))).Perm (r.map (avT true)):=ajm _ _;have h1:=NX (dH (r.map (avT true))) 43;have h2:=NX (r.map (avT false)) 43;have h3:((dH (r.map (avT true))).map List.length).sum=((r.map (avT true)).map List.length).sum:=abq (hs.map _);have h4:(dH (r.map (avT true))).length=r.length:=by rw[hs.length_eq];simp
 have h5:((r.map (avT true)).map List.length).sum<=((r.map (avT false)).map List.length).sum:=by
  rw[ahK,ahK];refine WO r λa _=>?_
  have:=YN a.2;simp only[aj2,avT,if_true,ahp,if_false,ahq,ahj,ahX];simp only[af,ahP];omega
 have h6:(if dH (r.map (avT true))=[]then 1 else 0)=(if r.map (avT false)=[]then 1 else 0):=by
  have:dH (r.map (avT true))=[]↔r.map (avT false)=[]:=by rw[<- ahH,<- ahH,h4];simp
  simp only[this]
 simp only[dp,if_true,ahp,if_false];rw[h3,h4,h6]at h1;simp only[ahP]at h2;omega
theorem Vi(d:List Rdn):(dY true d).length<=(dY false d).length:=by
 have h1:=NX (d.map (dp true)) 44;have h2:=NX (d.map (dp false)) 44;have h3:((d.map (dp true)).map List.length).sum<=((d.map (dp false)).map List.length).sum:=by rw[ahK,ahK];exact WO d λr _=>Vp r
 have h6:(if d.map (dp true)=[]then 1 else 0)=(if d.map (dp false)=[]then 1 else 0):=by simp only[ake]
 rw[h6]at h1;simp only[ahP]at h1 h2;unfold dY;omega
theorem Y1{xs ys:List (List UInt8)}(h:xs.Perm ys):dH xs=dH ys:=by
 have hs:∀zs:List (List UInt8),(dH zs).Pairwise λx y=>x<=y:=λzs=>by
  have:=akd (le:=λx y:List UInt8=>decide (x<=y)) (λa b c h1 h2=>by
   simp only[decide_eq_true_eq]at *;exact List.le_trans h1 h2) (λa b=>by
   simp only[ahO,decide_eq_true_eq];exact List.le_total a b) zs
  exact this.imp λh=>by simpa using h
 refine aj3 (le:=λx y=>x<=y) (λa b _ _=>ajY) (hs xs) (hs ys) ?_;exact(ajm _ _).trans (h.trans (ajm _ _).symm)
theorem WQ(r:Rdn):dp true (fy r)=dp true r:=by simp only[dp,if_true];congr 1;refine Y1 ?_;refine((Rc r).map _).trans ?_;rw[ahK];rw[show(avT true∘ry)=avT true from funext λa=>by simp only[aj2,YD,Zr]]
theorem WL(d:List Rdn):dY true (kL d)=dY true d:=by unfold dY kL;rw[ahK];rw[show(dp true∘fy)=dp true from funext WQ]
theorem Xi(h:(HU s).2=0):HU (HU s).1=HU s/\(HU s).1.length<=4096:=by
 unfold HU at h;split at h;rename_i h1;exact absurd h h1;rename_i h1;have hk:HU s=Rl (vb s).1:=by rw[HU,if_neg h1]
 rw[hk];obtain⟨d,hd⟩:=ag2 ((vb s).1);rw[hd]at h⊢;unfold Rl at h;split at h;rename_i h2;exact absurd h h2;rename_i h2;have hn:Rl d=(dY true d,0):=by rw[Rl,if_neg h2]
 rw[hn];simp only[ne_eq,ajp]at h2;have hp:lv 0 d=0/\(dY false d).length<=4096:=by unfold prS at h2;split at h2;rename_i h3;exact absurd h2 h3;rename_i h3;split at h2;cases h2;split at h2;cases h2;exact⟨by simpa using h3,by omega⟩
 have hl:=Vi d;have ht:=Rb d;have hc:=RW d 0 hp.1;have hl2:(dY false (kL d)).length<=4096:=by rw[ht];omega
 refine⟨?_,by simp only;omega⟩;simp only;rw[<- ht];unfold HU;rw[abv hc hl2];simp only;rw[if_neg (by simp)];unfold Rl;have hpr:prS (kL d)=(dY false (kL d),0):=by unfold prS;rw[if_neg (by simpa using hc),VJ (Vm (ahy (X7 _) hl2)),if_neg (by simp),if_neg (by omega)]
 rw[hpr];simp only;rw[if_neg (by simp),WL,ht]
theorem aak(h:IW v=true):IW (bz v)=true:=by simp only[IW,ahk,decide_eq_true_eq]at h⊢;intro x hx;obtain⟨c,hc,rfl⟩:=TB hx;have:=h c hc;have h2:=eM c;split at h2<;>omega
theorem W6{n:List UInt8}(h:dh syn v=some n)(hx:¬(n=[]/\syn=1)):dh syn n=some n:=by unfold dh at h;split at h;cases h;rename_i hl;have hpl:=u9 v;unfold DG at h;split at h;rename_i hs;split at h;cases h;split at h;rename_i hv;cases h;unfold dh DG;rw[if_neg (by omega),if_pos hs,if_neg (λe=>hx ⟨e,hs⟩),if_pos (Ve hv),LI];cases h;split at h;rename_i h1 hs;split at h;cases h;rename_i h0;split at h;rename_i hv;cases h;unfold dh DG;rw[if_neg hl,if_neg h1,if_pos hs,if_neg h0,if_pos hv];cases h;split at h;rename_i h1 h2 hs;split at h;rename_i ha;cases h;unfold dh DG;rw[if_neg (by omega),if_neg h1,if_neg h2,if_pos hs,if_pos (aak ha),LI];cases h;split at h;rename_i h1 h2 h3 hs;split at h;rename_i ha;cases h;unfold dh DG;rw[if_neg hl,if_neg h1,if_neg h2,if_neg h3,if_pos hs,if_pos ha];cases h;split at h;rename_i h1 h2 h3 h4 hs;split at h;rename_i ha;cases h;unfold dh DG;rw[if_neg hl,if_neg h1,if_neg h2,if_neg h3,if_neg h4,if_pos hs,if_pos ha];cases h;split at h;rename_i h1 h2 h3 h4 h5 hs;split at h;rename_i ha;cases h;have hk:=Xi ha;unfold dh DG;rw[if_neg (by omega),if_neg h1,if_neg h2,if_neg h3,if_neg h4,if_neg h5,if_pos hs,hk.1,if_pos ha];cases h;split at h;rename_i h1 h2 h3 h4 h5 h6 hs;cases h;unfold dh DG;rw[if_neg hl,if_neg h1,if_neg h2,if_neg h3,if_neg h4,if_neg h5,if_neg h6,if_pos hs];split at h;rename_i h1 h2 h3 h4 h5 h6 h7 hs;split at h;rename_i ha;cases h;unfold dh DG;rw[if_neg hl,if_neg h1,if_neg h2,if_neg h3,if_neg h4,if_neg h5,if_neg h6,if_neg h7,if_pos hs,if_pos ha];cases h;cases h
theorem qh(s:List UInt8):(dI s).length=s.length-2:=by simp[dI]
theorem ZL(h:i+3<=s.length):(dI s).take (i+1)=(dI s).take i++[(s.drop i).take 3]:=by
 have hi:i<(dI s).length:=by rw[qh];omega
 rw[ahw hi];simp[dI]
theorem abC{n:List UInt8}(h:dh syn v=some n):n.length<=4096:=by by_cases c:n=[]/\syn=1;rw[c.1];simp;exact Zv (W6 h c)
theorem Yw(hs:s.length<=100000)(h:K (LE (dI s)) L):ag6 41 [.str s] L K:=by
 replace h:=hid h;refine ag5 Pd ?_;refine bX (l:=[]) (n:=0) 3 1 rfl (ahD 1).symm ?_;refine ak (λm T' L'=>∃(k:Nat) (C:List AV) (X:List Blk),m=s.length-k/\k<=s.length-2/\C=((dI s).take k).map AV.str/\T'=[(4,.int .i64 (k:Int)),(3,.gsl C k L.length 1),(0,.str s)]/\L'=L++(.spare k 1::X)) (CutS (b:=by simp)) ⟨0,[],[],rfl,ahf _,rfl,rfl,rfl⟩ ?_;rintro _ _ _ ⟨k,C,X,rfl,hk,hC,rfl,rfl⟩;by_cases hlt:k+3<=s.length;have g2:IntKind.i64.wrap ((k:Int)+3)=(k:Int)+3:=ac (by omega) (by omega);have g3:=ag4 k (by omega);have g1:(k:Int)+3<=(s.length:Int):=by omega
 have htk:=ZL hlt;replace htk:=hid htk;replace hC:=hid hC;have e3:((k:Int)+3).toNat-k=3:=by omega
 refine wk ?_;exact ah _ _ _ (by omega) (CutL (b:=by simp)) ⟨k+1,_,X,rfl,by omega,by rw[htk.out,ahE,hC.out];rfl,rfl,rfl⟩;have g2:IntKind.i64.wrap ((k:Int)+3)=(k:Int)+3:=ac (by omega) (by omega);have g1:¬(k:Int)+3<=(s.length:Int):=by omega
 have hke:k=s.length-2:=by omega
 have htk:((dI s).take k)=dI s:=aib (by rw[qh];omega);rw[htk]at hC;subst hC;have hl:=hid (show k=(dI s).length by rw[qh];exact hke);clear hke htk hk;refine wk ?_;refine ba ?_;simp only[AV.frz,eh];rw[hl.out];exact ae (by simp only[AV.refs,hP]) h.out
end Go.Proofs.YtcmfcpjnhephaaaGreatDoor.Av
set_option maxRecDepth 100000
namespace Go.Proofs.YtcmfcpjnhephaaaGreatDoor.Av
open Go
def Jz:LSO:=[Af 4]
def Jy:LSO:=[Aa 7 0,Am 8 7,Ac 9 0]
def Jx:LSO:=[Al 10 9 8]
def Jw:LSO:=[An 11 1 7 9,Ab 12 1 11,Aa 6 12]
def Jv:LSO:=[Aa 13 6,Aa 14 1,AC 15 13 14]
def Ju:LSO:=[A0 4]
def Jt:LSO:=[Ag 16 9 1,Aa 9 16]
def Js:LSO:=[Af 4]
def H8:aO:=⟨17,(akg Jz [] (.seq (akg Jy [] (akj 0 (akg Jx [] (.seq (akk 10 0) (.seq (.block 1 (akg Jw Cr (akg Jv Cr (aki 15 (.sreg Ju []))))) (.sreg Jt Cq)))))) (akg Js [] .ret))),[(.tmp 4)]⟩
attribute [push_cast] Jz Jy Jx Jw Jv Ju Jt Js
theorem R3:akl 82=akm H8:=by kernel_rfl
attribute [push_cast] H8
end Go.Proofs.YtcmfcpjnhephaaaGreatDoor.Av
