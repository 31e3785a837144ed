/- Joined texts of the walk, made small by a program. -/
import Derived.Test.YtcmfcpjnhephaaaGreatDoorFk11
import Derived.Test.YtcmfcpjnhephaaaGreatDoorFk9
import Derived.Test.YtcmfcpjnhephaaaGreatDoorFk6
import Derived.Lib.ValidLaws
import Derived.Sort.Walk0
import Derived.Test.YtcmfcpjnhephaaaGreatDoorFk14
set_option linter.unusedSimpArgs false
set_option linter.unusedVariables false
namespace Go.Proofs.YtcmfcpjnhephaaaGreatDoor.Av
open Go
variable {L:List Blk} {K:Zy}
set_option maxHeartbeats 8000000
set_option maxRecDepth 100000
def k8 (b:Nat):Nat×Nat:=if 240<=b then (4,b - 240) else if 224<=b then (3,b - 224) else if 192<=b then (2,b - 192) else (1,b)
def G1 (n c:Nat):Bool:=decide (¬ (n=2/\c<128\/n=3/\c<2048\/n=4/\c<65536\/1114111<c\/55296<=c/\c<57344))
def Gf:Nat->List UInt8->Nat->Option Nat
 | 0,_,c=>some c
 | _+1,[],_=>none
 | k+1,x::t,c=>if 128<=x.toNat/\x.toNat<192 then Gf k t (c * 64+x.toNat - 128) else none
def Ks:Nat->List UInt8->Bool
 | _,[]=>true
 | 0,_::_=>true
 | f+1,b::t=>if 128<=b.toNat/\b.toNat<192 then false else if t.length+1<(k8 b.toNat).1 then false else
   match Gf ((k8 b.toNat).1 - 1) t (k8 b.toNat).2 with
   | none=>false
   | some c=>G1 (k8 b.toNat).1 c && Ks f (t.drop ((k8 b.toNat).1 - 1))
theorem Rq {s:List UInt8} (hs:s.length<=1100000) (h:K (.bool (Ks s.length s)) L):Zx 89 [.str s] L K:=by
 obtain ⟨R,hR⟩:=Zt (Ks s.length s);rw [hR] at h;replace h:=hid h;refine Zw Mj ?_;refine ak (fun n T' L'=>∃ (f:Nat) (u:List UInt8),f=n/\u.length<=1100000/\Hid (u.length<=f/\Ks f u=R)/\T'=[(0,.str u)]/\L=L') (CutS (b:=ZA _)) ⟨s.length,s,rfl,hs,hid ⟨ZA _,hR⟩,rfl,rfl⟩ ?_;clear hR hs;rintro _ _ _ ⟨f,u,rfl,hu,hI,rfl,rfl⟩;rcases u with _|⟨b,t⟩
 ·have h':=h.out;rw [<- hI.out.2,show Ks f []=true by cases f<;>rfl] at h';replace h':=hid h';have e0:([]:List UInt8).length=0:=rfl;refine wk ?_;exact aa h'.out
 obtain ⟨u,hut⟩:=Zt (b::t);obtain ⟨f,rfl⟩:∃ g,f=g+1:=⟨f - 1,by have:=hI.out.1;simp at this;omega⟩;have hb0:u.getD 0 0=b:=by rw [<- hut];rfl
 have hul:u.length=t.length+1:=by rw [<- hut];rfl
 have hI2:=hI.out.2;have hfl:=hI.out.1;rw [Ks] at hI2;rw [hut] at hu hfl ⊢;obtain ⟨x,hx⟩:=Zt (b.toNat);have hx256:x<256:=by rw [<- hx];exact b.toNat_lt
 rw [hx] at hI2;have hpos:(0:Int)<(u.length:Int):=by omega
 have w0:IntKind.i64.wrap (x:Int)=(x:Int):=ac (by omega) (by omega);have hxi:(b.toNat:Int)=(x:Int):=by omega
 have hbad:R=false->Fin L (.bool false) L K:=fun e=>aa (by have h':=h.out;rwa [e] at h')
 replace hbad:=hid hbad;have hdr:∀ i,u.drop (i+1)=t.drop i:=fun i=>by rw [<- hut];rfl
 replace hut:=hid hut;replace hul:=hid hul;clear hx hI;by_cases hmid:128<=x/\x<192
 ·rw [if_pos hmid] at hI2;have c1:¬ (240:Int)<=(x:Int):=by omega
  have c2:¬ (224:Int)<=(x:Int):=by omega
  have c3:¬ (192:Int)<=(x:Int):=by omega
  have c4:(128:Int)<=(x:Int):=by omega
  have e:=hid hI2.symm;clear hmid hI2;refine wk ?_;exact hbad.out e.out
 rw [if_neg hmid] at hI2;obtain ⟨⟨n,c0⟩,hn⟩:∃ p,k8 x=p:=⟨_,rfl⟩;rw [hn] at hI2;simp only at hI2;have hn14:1<=n/\n<=4/\c0<256:=by
  unfold k8 at hn
  repeat' split at hn
  all_goals (cases hn;omega)
 obtain ⟨hn1,hn4,hc0⟩:=hn14;replace hI2:=hid hI2
 iterate 13 first
  | refine bb ?_
  | (first|refine aU (by kernel_rfl) ?_|refine aA (by kernel_rfl) ?_|refine aD ?_|refine bS ?_|refine bh (fun _=>?_)|refine ay ?_|refine aW ?_)
    simp (config:={ maxSteps:=2000000 }) only [Kon,push_cast,reduceIte,Nat.reduceEqDiff,Nat.reduceAdd,Nat.reduceMul,Nat.reduceSub,Nat.reduceLT,Nat.reduceLeDiff,Int.reduceLT,Int.reduceLE,Int.reduceAdd,Int.reduceSub,Int.reduceNeg,Int.reduceToNat,Int.reduceEq,reduceCtorEq, *]
  | (first|refine aP (by kernel_rfl) ?_|refine aQ ?_|refine aC ?_|refine aV ?_|refine bq (ax ?_))
    simp only [push_cast,reduceIte,Nat.reduceEqDiff,Nat.reduceAdd,Nat.reduceMul,Nat.reduceSub,Nat.reduceLT,Nat.reduceLeDiff,Int.reduceLT,Int.reduceLE,Int.reduceAdd,Int.reduceSub,Int.reduceNeg,Int.reduceToNat,Int.reduceEq,reduceCtorEq, *]
  | exact bj
  | first|apply bm|apply aR|apply bo|apply aS|apply bp|apply aT
  | refine aG ?_
  | refine aB ?_
  | first|refine aE rfl ?_|refine aF rfl ?_|refine an rfl ?_ ?_|refine aI rfl (fun _=>?_) (fun _=>?_)|refine aH rfl (fun _=>?_) (fun _=>?_)
  | ((first|refine am (fun _=>?_) (fun _=>?_)|refine aw (fun _=>?_) (fun _=>?_))<;>try simp (config:={ maxSteps:=2000000 }) only [Kon,push_cast,reduceIte,Nat.reduceEqDiff,Nat.reduceAdd,Nat.reduceMul,Nat.reduceSub,Nat.reduceLT,Nat.reduceLeDiff,Int.reduceLT,Int.reduceLE,Int.reduceAdd,Int.reduceSub,Int.reduceNeg,Int.reduceToNat,Int.reduceEq,reduceCtorEq, *])
  | refine And.intro trivial ?_
  | refine And.intro (by omega) ?_
  | refine aM rfl (fun _=>?_) (fun _=>?_)
  | refine And.intro ?_ ?_
 refine K1 (fun T2 L2=>T2=[(4,.int .i64 (n:Int)),(3,.int .i64 (c0:Int)),(0,.str u)]/\L=L2) ?_ ?_
 ·unfold k8 at hn;by_cases q1:240<=x
  ·rw [if_pos q1] at hn;cases hn;have c1:(240:Int)<=(x:Int):=by omega
   have w1:IntKind.i64.wrap ((x:Int) - 240)=((x - 240:Nat):Int):=by rw [ac (by omega) (by omega)];omega
   obtain ⟨d,hd⟩:=Zt (x - 240);rw [hd] at w1 ⊢;clear q1 hd hmid;refine wk ?_;exact nX _ _ (CutL (b:=by simp)) ⟨rfl,rfl⟩
  rw [if_neg q1] at hn;have c1:¬ (240:Int)<=(x:Int):=by omega
  by_cases q2:224<=x
  ·rw [if_pos q2] at hn;cases hn;have c2:(224:Int)<=(x:Int):=by omega
   have w1:IntKind.i64.wrap ((x:Int) - 224)=((x - 224:Nat):Int):=by rw [ac (by omega) (by omega)];omega
   obtain ⟨d,hd⟩:=Zt (x - 224);rw [hd] at w1 ⊢;clear q1 q2 hd hmid;refine wk ?_;exact nX _ _ (CutL (b:=by simp)) ⟨rfl,rfl⟩
  rw [if_neg q2] at hn;have c2:¬ (224:Int)<=(x:Int):=by omega
  by_cases q3:192<=x
  ·rw [if_pos q3] at hn;cases hn;have c3:(192:Int)<=(x:Int):=by omega
   have w1:IntKind.i64.wrap ((x:Int) - 192)=((x - 192:Nat):Int):=by rw [ac (by omega) (by omega)];omega
   obtain ⟨d,hd⟩:=Zt (x - 192);rw [hd] at w1 ⊢;clear q1 q2 q3 hd hmid;refine wk ?_;exact nX _ _ (CutL (b:=by simp)) ⟨rfl,rfl⟩
  rw [if_neg q3] at hn;cases hn;have c3:¬ (192:Int)<=(x:Int):=by omega
  have c4:¬ (128:Int)<=(x:Int):=by omega
  clear q1 q2 q3 hmid;refine wk ?_;exact nX _ _ (CutL (b:=by simp)) ⟨rfl,rfl⟩
 rintro _ _ ⟨rfl,rfl⟩ -;clear hn hmid hxi w0;by_cases hsh:t.length+1<n
 ·have hI3:=hI2.out;rw [if_pos hsh] at hI3;have k1:(u.length:Int)<(n:Int):=by have:=hul.out;omega
  have e:=hid hI3.symm;clear hsh hI3;refine wk ?_;exact hbad.out e.out
 have hI3:=hI2.out;rw [if_neg hsh] at hI3;have k1:¬ (u.length:Int)<(n:Int):=by have:=hul.out;omega
 have hnu:n<=u.length:=by have:=hul.out;omega
 obtain ⟨o,ho⟩:=Zt (Gf (n - 1) t c0);rw [ho] at hI3;replace hI3:=hid hI3;clear hI2;refine wk ?_;refine ak (fun m T' L'=>∃ (i c:Nat),m=n - i/\1<=i/\i<=n/\c<256 * 64 ^ (i - 1)/\Hid (Gf (n - i) (u.drop i) c=o)/\T'=[(5,.int .i64 (i:Int)),(4,.int .i64 (n:Int)),(3,.int .i64 (c:Int)),(0,.str u)]/\L=L') (CutS (b:=ZA _)) ⟨1,c0,rfl,ZA _,hn1,by simpa using hc0,hid (by rw [hdr 0];exact ho),rfl,rfl⟩ ?_;clear ho;rintro _ _ _ ⟨i,c,rfl,hi1,hin,hc,hO,rfl,rfl⟩;have hc4:c<67108864:=by
  refine aaV hc ?_;have:i=1\/i=2\/i=3\/i=4:=by omega
  rcases this with rfl|rfl|rfl|rfl<;>decide
 by_cases hlt:i<n
 ·have g1:(i:Int)<(n:Int):=by omega
  have g2:(i:Int)<(u.length:Int):=by omega
  have g3:=Zv i (by omega);obtain ⟨y,hy⟩:=Zt (u.getD i 0);obtain ⟨z,hz⟩:=Zt (y.toNat);have hz256:z<256:=by rw [<- hz];exact y.toNat_lt
  have hzi:(y.toNat:Int)=(z:Int):=by omega
  have hO2:=hO.out;rw [iH (show i<u.length by omega),hy,show n - i=(n - (i+1))+1 by omega,Gf,hz] at hO2;have w1:IntKind.i64.wrap (z:Int)=(z:Int):=ac (by omega) (by omega);clear hz;by_cases hcn:128<=z/\z<192
  ·rw [if_pos hcn] at hO2;have k2:¬ (z:Int)<128:=by omega
   have k3:¬ (192:Int)<=(z:Int):=by omega
   have w2:IntKind.i64.wrap ((c:Int) * 64)=(c:Int) * 64:=ac (by omega) (by omega);have w3:IntKind.i64.wrap ((c:Int) * 64+(z:Int))=(c:Int) * 64+(z:Int):=ac (by omega) (by omega);have w4:IntKind.i64.wrap ((c:Int) * 64+(z:Int) - 128)=((c * 64+z - 128:Nat):Int):=by rw [ac (by omega) (by omega)];omega
   have hcc:c * 64+z - 128<256 * 64 ^ (i+1 - 1):=by
    have:i=1\/i=2\/i=3:=by omega
    rcases this with rfl|rfl|rfl<;>simp at hc ⊢<;>omega
   obtain ⟨c',hc'⟩:=Zt (c * 64+z - 128);rw [hc'] at w4 hO2 hcc;replace hO2:=hid hO2;clear hcn hc';refine wk ?_;exact aj _ _ _ (by omega) (CutL (b:=by simp)) ⟨i+1,c',rfl,by omega,hlt,hcc,hO2,rfl,rfl⟩
  ·rw [if_neg hcn] at hO2;have hI4:=hI3.out;rw [<- hO2] at hI4;have e:=hid hI4.symm;by_cases k2:(z:Int)<128
   ·clear hcn hO2 hI4;refine wk ?_;exact hbad.out e.out
   ·have k3:(192:Int)<=(z:Int):=by omega
    clear hcn hO2 hI4;refine wk ?_;exact hbad.out e.out
 ·have hke:i=n:=by omega
  subst hke;have g1:¬ (i:Int)<(i:Int):=by omega
  have hO2:=hO.out;rw [aaY,Gf] at hO2;have hI4:=hI3.out;rw [<- hO2] at hI4;simp only [G1] at hI4;have e1:((i:Int)).toNat=i:=by omega
  have g2:(i:Int)<=(u.length:Int):=by omega
  have e2:(u.drop i).take (u.length - i)=u.drop i:=aaR (by simp);have e3:u.drop i=t.drop (i - 1):=by rw [<- hdr (i - 1),show i - 1+1=i by omega]
  have hb2:(i=2/\c<128\/i=3/\c<2048\/i=4/\c<65536\/1114111<c\/55296<=c/\c<57344)->R=false:=fun e=>by
   rw [decide_eq_false (fun hn=>hn e),aa5] at hI4;exact hI4.symm
  have hg2:¬ (i=2/\c<128\/i=3/\c<2048\/i=4/\c<65536\/1114111<c\/55296<=c/\c<57344)->Ks f (u.drop i)=R:=fun e=>by
   rw [decide_eq_true e,aaw] at hI4;rw [e3];exact hI4
  replace hb2:=hid hb2;replace hg2:=hid hg2;replace e3:=hid e3;clear hI4 hO2 hI3
  repeat' first
   | refine bb ?_
   | (first|refine aU (by kernel_rfl) ?_|refine aA (by kernel_rfl) ?_|refine aD ?_|refine bS ?_|refine bh (fun _=>?_)|refine ay ?_|refine aW ?_)
     simp (config:={ maxSteps:=2000000 }) only [Kon,push_cast,reduceIte,Nat.reduceEqDiff,Nat.reduceAdd,Nat.reduceMul,Nat.reduceSub,Nat.reduceLT,Nat.reduceLeDiff,Int.reduceLT,Int.reduceLE,Int.reduceAdd,Int.reduceSub,Int.reduceNeg,Int.reduceToNat,Int.reduceEq,reduceCtorEq, *]
   | (first|refine aP (by kernel_rfl) ?_|refine aQ ?_|refine aC ?_|refine aV ?_|refine bq (ax ?_))
     simp only [push_cast,reduceIte,Nat.reduceEqDiff,Nat.reduceAdd,Nat.reduceMul,Nat.reduceSub,Nat.reduceLT,Nat.reduceLeDiff,Int.reduceLT,Int.reduceLE,Int.reduceAdd,Int.reduceSub,Int.reduceNeg,Int.reduceToNat,Int.reduceEq,reduceCtorEq, *]
   | exact bj
   | first|apply bm|apply aR|apply bo|apply aS|apply bp|apply aT
   | refine aG ?_
   | refine aB ?_
   | first|refine aE rfl ?_|refine aF rfl ?_|refine an rfl ?_ ?_|refine aI rfl (fun _=>?_) (fun _=>?_)|refine aH rfl (fun _=>?_) (fun _=>?_)
   | ((first|refine am (fun _=>?_) (fun _=>?_)|refine aw (fun _=>?_) (fun _=>?_))<;>try simp (config:={ maxSteps:=2000000 }) only [Kon,push_cast,reduceIte,Nat.reduceEqDiff,Nat.reduceAdd,Nat.reduceMul,Nat.reduceSub,Nat.reduceLT,Nat.reduceLeDiff,Int.reduceLT,Int.reduceLE,Int.reduceAdd,Int.reduceSub,Int.reduceNeg,Int.reduceToNat,Int.reduceEq,reduceCtorEq, *])
   | refine And.intro trivial ?_
   | refine And.intro (by omega) ?_
   | refine aM rfl (fun _=>?_) (fun _=>?_)
   | refine And.intro ?_ ?_
  ·rename_i hx
   exact hbad.out (hb2.out (by omega))
  ·rename_i hx
   refine aj _ _ _ (by omega) (CutL (b:=ZA _)) ⟨f,u.drop i,rfl,?_,hid ⟨?_,hg2.out (by omega)⟩,rfl,rfl⟩
   ·simp;omega
   ·simp;omega
def Cn (x:Nat):Prop:=128<=x/\x<192
instance (x:Nat):Decidable (Cn x):=by unfold Cn;infer_instance
def Dc (n b0 b1:Nat):Prop:=n<2\/¬ Cn b1\/(b0 - 192) * 64+b1 - 128<128
def IP (n b0 b1 b2:Nat):Prop:=n<3\/¬ Cn b1\/¬ Cn b2\/((b0 - 224) * 64+b1 - 128) * 64+b2 - 128<2048\/55296<=((b0 - 224) * 64+b1 - 128) * 64+b2 - 128/\((b0 - 224) * 64+b1 - 128) * 64+b2 - 128<57344
def DH (n b0 b1 b2 b3:Nat):Prop:=n<4\/¬ Cn b1\/¬ Cn b2\/¬ Cn b3\/(((b0 - 240) * 64+b1 - 128) * 64+b2 - 128) * 64+b3 - 128<65536\/1114111<(((b0 - 240) * 64+b1 - 128) * 64+b2 - 128) * 64+b3 - 128
instance (n b0 b1:Nat):Decidable (Dc n b0 b1):=by unfold Dc;infer_instance
instance (n b0 b1 b2:Nat):Decidable (IP n b0 b1 b2):=by unfold IP;infer_instance
instance (n b0 b1 b2 b3:Nat):Decidable (DH n b0 b1 b2 b3):=by unfold DH;infer_instance
def fO (n b0 b1 b2 b3:Nat):Nat :=
 if b0<128 then 1 else if b0<192 then 0
 else if b0<224 then (if Dc n b0 b1 then 0 else 2)
 else if b0<240 then (if IP n b0 b1 b2 then 0 else 3)
 else (if DH n b0 b1 b2 b3 then 0 else 4)
set_option maxRecDepth 100000 in
set_option maxHeartbeats 4000000 in
theorem O0 (n b0 b1 b2 b3:Nat) (h0:b0<256) (h1:b1<256) (h2:b2<256) (h3:b3<256) :
  (fO n b0 b1 b2 b3=0/\Lib.decodeN n b0 b1 b2 b3=(65533,1))\/(1<=fO n b0 b1 b2 b3/\(Lib.decodeN n b0 b1 b2 b3).2=fO n b0 b1 b2 b3/\¬ ((Lib.decodeN n b0 b1 b2 b3).1=65533/\(Lib.decodeN n b0 b1 b2 b3).2=1)):=by
 unfold fO Lib.decodeN;by_cases c1:b0<128
 ·rw [if_pos c1,if_pos c1];right;exact ⟨by omega,rfl,fun h=>by have h1:b0=65533:=h.1;omega⟩
 rw [if_neg c1,if_neg c1];by_cases c2:b0<192
 ·rw [if_pos c2,if_neg (by omega),if_neg (by omega),if_neg (by omega)];exact .inl ⟨rfl,rfl⟩
 rw [if_neg c2];by_cases c3:b0<224
 ·rw [if_pos c3];by_cases hA:Dc n b0 b1
  ·rw [if_pos hA];refine .inl ⟨rfl,?_⟩;unfold Dc Cn at hA;by_cases hc:b0 / 32=6/\(1<n/\b1 / 64=2)
   ·rw [if_pos hc,if_neg (by omega)]
   ·rw [if_neg hc,if_neg (by omega),if_neg (by omega)]
  ·rw [if_neg hA];unfold Dc Cn at hA;rw [if_pos (by omega),if_pos (by omega)];exact .inr ⟨by omega,rfl,fun h=>by have h2:(2:Nat)=1:=h.2;omega⟩
 rw [if_neg c3];by_cases c4:b0<240
 ·rw [if_pos c4,if_neg (show ¬ (b0 / 32=6/\(1<n/\b1 / 64=2)) by omega)];by_cases hA:IP n b0 b1 b2
  ·rw [if_pos hA];refine .inl ⟨rfl,?_⟩;unfold IP Cn at hA;by_cases hc:b0 / 16=14/\(1<n/\b1 / 64=2)/\(2<n/\b2 / 64=2)
   ·rw [if_pos hc,if_neg (by omega)]
   ·rw [if_neg hc,if_neg (by omega)]
  ·rw [if_neg hA];unfold IP Cn at hA;rw [if_pos (by omega),if_pos (by omega)];exact .inr ⟨by omega,rfl,fun h=>by have h2:(3:Nat)=1:=h.2;omega⟩
 ·rw [if_neg c4,if_neg (show ¬ (b0 / 32=6/\(1<n/\b1 / 64=2)) by omega),if_neg (show ¬ (b0 / 16=14/\(1<n/\b1 / 64=2)/\(2<n/\b2 / 64=2)) by omega)];by_cases hA:DH n b0 b1 b2 b3
  ·rw [if_pos hA];refine .inl ⟨rfl,?_⟩;unfold DH Cn at hA;by_cases hc:b0 / 8=30/\(1<n/\b1 / 64=2)/\(2<n/\b2 / 64=2)/\(3<n/\b3 / 64=2)
   ·rw [if_pos hc,if_neg (by omega)]
   ·rw [if_neg hc]
  ·rw [if_neg hA];unfold DH Cn at hA;rw [if_pos (by omega),if_pos (by omega)];exact .inr ⟨by omega,rfl,fun h=>by have h2:(4:Nat)=1:=h.2;omega⟩
theorem OZ (b:UInt8) (t:List UInt8) (f:Nat):Ks (f+1) (b::t)=if fO (t.length+1) b.toNat (t.getD 0 0).toNat (t.getD 1 0).toNat (t.getD 2 0).toNat=0 then false else Ks f ((b::t).drop (fO (t.length+1) b.toNat (t.getD 0 0).toNat (t.getD 1 0).toNat (t.getD 2 0).toNat)):=by
 have hb:=b.toNat_lt;rw [Ks];obtain ⟨x,hx⟩:=Zt (b.toNat);rw [hx] at hb ⊢;unfold fO;by_cases c1:x<128
 ·have e1:¬ (128<=x/\x<192):=by omega
  have hh:k8 x=(1,x):=by unfold k8;rw [if_neg (by omega),if_neg (by omega),if_neg (by omega)]
  rw [hh,if_neg e1,if_pos c1];simp only [Gf,aaY,abk];rw [if_neg (by omega),if_neg (by omega),show G1 1 x=true from decide_eq_true (by omega)];rfl
 by_cases c2:x<192
 ·simp [c1,c2,show 128<=x by omega]
 have e1:¬ (128<=x/\x<192):=by omega
 rw [if_neg e1,if_neg c1,if_neg c2];by_cases c3:x<224
 ·have hh:k8 x=(2,x - 192):=by unfold k8;rw [if_neg (by omega),if_neg (by omega),if_pos (by omega)]
  rw [if_pos c3,hh];simp only [show 2 - 1=1 from rfl];rcases t with _|⟨y,t⟩
  ·simp [Dc]
  ·simp only [ZN,aaB,Gf];rw [if_neg (by omega)];by_cases hA:Dc (t.length+1+1) x y.toNat
   ·simp only [if_pos hA,if_true];by_cases hy:128<=y.toNat/\y.toNat<192
    ·simp only [if_pos hy];unfold Dc Cn at hA;rw [show G1 2 ((x - 192) * 64+y.toNat - 128)=false from decide_eq_false (by omega)];rfl
    ·simp only [if_neg hy]
   ·simp only [if_neg hA];unfold Dc Cn at hA;simp only [if_pos (show 128<=y.toNat/\y.toNat<192 by omega),Nat.reduceEqDiff,if_false];rw [show G1 2 ((x - 192) * 64+y.toNat - 128)=true from decide_eq_true (by omega)];rfl
 ·rw [if_neg c3];by_cases c4:x<240
  ·have hh:k8 x=(3,x - 224):=by unfold k8;rw [if_neg (by omega),if_pos (by omega)]
   rw [if_pos c4,hh];simp only [show 3 - 1=2 from rfl];rcases t with _|⟨y,_|⟨z,t⟩⟩
   ·simp [IP]
   ·simp [IP]
   ·simp only [ZN,aaB,aba,Gf];rw [if_neg (by omega)];by_cases hA:IP (t.length+1+1+1) x y.toNat z.toNat
    ·simp only [if_pos hA,if_true];by_cases hy:128<=y.toNat/\y.toNat<192
     ·by_cases hz:128<=z.toNat/\z.toNat<192
      ·simp only [if_pos hy,if_pos hz];unfold IP Cn at hA;rw [show G1 3 (((x - 224) * 64+y.toNat - 128) * 64+z.toNat - 128)=false from decide_eq_false (by omega)];rfl
      ·simp only [if_pos hy,if_neg hz]
     ·simp only [if_neg hy]
    ·simp only [if_neg hA];unfold IP Cn at hA;simp only [if_pos (show 128<=y.toNat/\y.toNat<192 by omega),if_pos (show 128<=z.toNat/\z.toNat<192 by omega),Nat.reduceEqDiff,if_false];rw [show G1 3 (((x - 224) * 64+y.toNat - 128) * 64+z.toNat - 128)=true from decide_eq_true (by omega)];rfl
  ·have hh:k8 x=(4,x - 240):=by unfold k8;rw [if_pos (by omega)]
   rw [if_neg c4,hh];simp only [show 4 - 1=3 from rfl];rcases t with _|⟨y,_|⟨z,_|⟨w,t⟩⟩⟩
   ·simp [DH]
   ·simp [DH]
   ·simp [DH]
   ·simp only [ZN,aaB,aba,Gf];rw [if_neg (by omega)];by_cases hA:DH (t.length+1+1+1+1) x y.toNat z.toNat w.toNat
    ·simp only [if_pos hA,if_true];by_cases hy:128<=y.toNat/\y.toNat<192
     ·by_cases hz:128<=z.toNat/\z.toNat<192
      ·by_cases hw:128<=w.toNat/\w.toNat<192
       ·simp only [if_pos hy,if_pos hz,if_pos hw];unfold DH Cn at hA;rw [show G1 4 ((((x - 240) * 64+y.toNat - 128) * 64+z.toNat - 128) * 64+w.toNat - 128)=false from decide_eq_false (by omega)];rfl
       ·simp only [if_pos hy,if_pos hz,if_neg hw]
      ·simp only [if_pos hy,if_neg hz]
     ·simp only [if_neg hy]
    ·simp only [if_neg hA];unfold DH Cn at hA;simp only [if_pos (show 128<=y.toNat/\y.toNat<192 by omega),if_pos (show 128<=z.toNat/\z.toNat<192 by omega),if_pos (show 128<=w.toNat/\w.toNat<192 by omega),Nat.reduceEqDiff,if_false];rw [show G1 4 ((((x - 240) * 64+y.toNat - 128) * 64+z.toNat - 128) * 64+w.toNat - 128)=true from decide_eq_true (by omega)];rfl
theorem Dl:∀ (f:Nat) (l:List UInt8),l.length<=f->Ks f l=Lib.validD l
 | _,[],_=>by simp [Ks,Lib.validD_nil]
 | 0,_::_,h=>by simp at h
 | f+1,b::t,h=>by
   rw [OZ,Lib.validD_step _ (by simp),Lib.decodeL_N];simp only [ZN,aaB,aba];rcases O0 (t.length+1) b.toNat (t.getD 0 0).toNat (t.getD 1 0).toNat (t.getD 2 0).toNat b.toNat_lt (t.getD 0 0).toNat_lt (t.getD 1 0).toNat_lt (t.getD 2 0).toNat_lt with ⟨h1,h2⟩|⟨h1,h2,h3⟩
   ·rw [h1,h2];simp
   ·rw [if_neg (by omega),if_neg h3,h2];refine Dl f _ ?_;rw [abC];simp only [ZN] at h ⊢;omega
def DG (s:List UInt8):Bool:=s.all dX && decide (0<s.length)
theorem dE {s:List UInt8} (hs:s.length<=1100000) {L:List Blk} {K:Zy} (h:K (.bool (DG s)) L):Zx 130 [.str s] L K:=by
 have no:s.all dX=false->K (.bool false) L:=fun e=>by have h':=h;rwa [DG,e,aa5] at h'
 replace no:=hid no;replace h:=hid h;refine Zw IM ?_;refine ak (fun n T' L'=>∃ i:Nat,n=s.length - i/\i<=s.length/\Hid ((s.take i).all dX=true)/\T'=[(3,.int .i64 (i:Int)),(0,.str s)]/\L=L') (CutS (b:=ZA _)) ⟨0,rfl,ZI _,hid rfl,rfl,rfl⟩ ?_;rintro _ _ _ ⟨i,rfl,hi,hall,rfl,rfl⟩;by_cases hlt:i<s.length
 ·have g1:(i:Int)<(s.length:Int):=by omega
  have g2:=Zv i (by omega);obtain ⟨c,hc⟩:=Zt (s.getD i 0);have hm:c∈s:=by rw [<- hc];simp [hlt]
  have htk:s.take (i+1)=s.take i++[c]:=by rw [ZY hlt,<- hc];simp [hlt]
  have bad:=hid fun (e:dX c=false)=>no.out (acg.2 ⟨c,hm,by rw [e];simp⟩)
  have good:=hid fun (e:dX c=true)=>show (s.take (i+1)).all dX=true by rw [htk,aci,hall.out];simp [e]
  clear hm htk
  repeat' first
   | refine bb ?_
   | (first|refine aU (by kernel_rfl) ?_|refine aA (by kernel_rfl) ?_|refine aD ?_|refine bS ?_|refine bh (fun _=>?_)|refine ay ?_|refine aW ?_)
     refine sm ?_
   | (first|refine aP (by kernel_rfl) ?_|refine aQ ?_|refine aC ?_|refine aV ?_|refine bq (ax ?_))
     refine sl ?_
   | exact bj
   | first|apply bm|apply aR|apply bo|apply aS|apply bp|apply aT
   | refine aG ?_
   | refine aB ?_
   | first|refine aE rfl ?_|refine aF rfl ?_|refine an rfl ?_ ?_|refine aI rfl (fun _=>?_) (fun _=>?_)|refine aH rfl (fun _=>?_) (fun _=>?_)
   | ((first|refine am (fun _=>?_) (fun _=>?_)|refine aw (fun _=>?_) (fun _=>?_))<;>try refine sm ?_)
   | refine And.intro trivial ?_
   | refine And.intro (by omega) ?_
   | refine aM rfl (fun _=>?_) (fun _=>?_)
   | refine And.intro ?_ ?_
  ·rename_i hx
   refine aa (bad.out ?_);simp only [dX,abY,decide_eq_false_iff_not];omega
  ·rename_i hx
   refine aj _ _ _ (by omega) (CutL (b:=ZA _)) ⟨i+1,rfl,by omega,hid (good.out ?_),rfl,rfl⟩;simp only [dX,ZE,decide_eq_true_eq];omega
 ·have hke:i=s.length:=by omega
  subst hke;have g1:¬ (s.length:Int)<(s.length:Int):=by omega
  have hda:=hall.out;rw [ZW] at hda;have h':=h.out;rw [DG,hda,aaw,show decide (0<s.length)=decide ((0:Int)<(s.length:Int)) by simp] at h';replace h':=hid h';clear hda;refine wk ?_;exact aa h'.out
def Oh (s:List UInt8):Nat:=s.foldl (fun n c=>10 * n+(c.toNat - 48)) 0
theorem XE {s:List UInt8} (hs:s.length<=4) (hd:∀ c∈s,dX c=true) (h:K (.int .i64 (Oh s:Nat)) L):Zx 133 [.str s] L K:=by
 replace h:=hid h;replace hd:=hid hd;refine Zw Mk ?_;refine ak (fun m T' L'=>∃ (i n:Nat),m=s.length - i/\i<=s.length/\n<10 ^ i/\Hid (n=Oh (s.take i))/\T'=[(4,.int .i64 (i:Int)),(3,.int .i64 (n:Int)),(0,.str s)]/\L=L') (CutS (b:=ZA _)) ⟨0,0,rfl,ZI _,by decide,hid rfl,rfl,rfl⟩ ?_;rintro _ _ _ ⟨i,n,rfl,hi,hn,hI,rfl,rfl⟩;by_cases hlt:i<s.length
 ·have g1:(i:Int)<(s.length:Int):=by omega
  have g2:=Zv i (by omega);obtain ⟨c,hc⟩:=Zt (s.getD i 0);have hm:=hd.out c (by rw [<- hc];simp [hlt]);simp only [dX,ZE,decide_eq_true_eq] at hm;have htk:s.take (i+1)=s.take i++[c]:=by rw [ZY hlt,<- hc];simp [hlt]
  obtain ⟨x,hx⟩:∃ x:Nat,c.toNat=48+x:=⟨c.toNat - 48,by omega⟩;have hx9:x<=9:=by omega
  have hxi:(c.toNat:Int)=48+(x:Int):=by omega
  have hn4:n<1000:=by
   refine aaV hn ?_;have:i=0\/i=1\/i=2\/i=3:=by omega
   rcases this with rfl|rfl|rfl|rfl<;>decide
  have hnx:Oh (s.take (i+1))=10 * n+x:=by
   rw [htk,Oh,abo,<- Oh,<- hI.out];simp only [aat,abq];omega
  have w1:IntKind.u8.wrap (48+(x:Int) - 48)=(x:Int):=by rw [cv (by omega) (by omega)];omega
  have w2:IntKind.i64.wrap (x:Int)=(x:Int):=ac (by omega) (by omega);have w3:IntKind.i64.wrap (10 * (n:Int))=10 * (n:Int):=ac (by omega) (by omega);have w4:IntKind.i64.wrap (10 * (n:Int)+(x:Int))=10 * (n:Int)+(x:Int):=ac (by omega) (by omega);have hnn:10 * n+x<10 ^ (i+1):=by rw [ab3];omega
  replace hnx:=hid hnx;clear hm htk hx;refine wk ?_;exact aj _ _ _ (by omega) (CutL (b:=ZA _)) ⟨i+1,10 * n+x,rfl,by omega,hnn,hid hnx.out.symm,rfl,rfl⟩
 ·have hke:i=s.length:=by omega
  subst hke;have g1:¬ (s.length:Int)<(s.length:Int):=by omega
  have e:=hI.out;rw [ZW] at e;have h':=h.out;rw [<- e] at h';replace h':=hid h';clear e hI;refine wk ?_;exact aa h'.out
abbrev U5:List UInt8:=[57,50,50,51,51,55,50,48,51,54,56,53,52,55,55,53,56,48,55]
abbrev U6:List UInt8:=[57,50,50,51,51,55,50,48,51,54,56,53,52,55,55,53,56,48,56]
def Pl (w most:List UInt8):Bool:=DG w && !decide (w.getD 0 0=48) && (decide (w.length<19) || decide (w.length=19) && (Op.bytesLess w most || decide (w=most)))
def UY (v:List UInt8):Bool:=if v=[48] then true else match v with
 | []=>false
 | c::t=>if c=45 then Pl t U6 else Pl (c::t) U5
theorem Kc {w most:List UInt8} (hw:w.length<=1100000):Pl w most=(if DG w=true then (!decide (w.getD 0 0=48) && (decide (w.length<19) || decide (w.length=19) && (Op.bytesLess w most || decide (w=most)))) else false):=by
 unfold Pl;cases DG w<;>rfl
theorem Ng {v:List UInt8} (hv:v.length<=1100000) (h:K (.bool (UY v)) L):Zx 91 [.str v] L K:=by
 unfold UY at h;refine ad IK (by simp [mD]) ?_;simp only [mD,aq];by_cases h0:v=[48]
 ·rw [if_pos h0] at h;replace h:=hid h;refine wk ?_;exact aa h.out
 rw [if_neg h0] at h;have dg:∀ w:List UInt8,DG w=true->(0:Int)<(w.length:Int):=fun w e=>by
  simp only [DG,ZE,decide_eq_true_eq] at e;omega
 rcases v with _|⟨c,t⟩
 ·simp only at h;replace h:=hid h;have e0:DG []=false:=rfl;have e1:([]:List UInt8).length=0:=rfl;have kk1:=@hid _ (fun L K=>dE hv (L:=L) (K:=K));refine wk ?_;exact aa h.out
 simp only at h;have hl:(c::t).length=t.length+1:=rfl;have hc0:(c::t).getD 0 0=c:=rfl;have hd1:(c::t).drop 1=t:=rfl;simp only [ZN] at hv;have htl:t.length<=1100000:=by omega
 have q7:t.take (((t.length:Int)+1).toNat - 1)=t:=by rw [show ((t.length:Int)+1).toNat - 1=t.length by omega,ZW]
 have q8:(0:Int)<(t.length:Int)+1:=by omega
 by_cases h45:c=45
 ·rw [if_pos h45,Kc htl] at h;subst h45;have k1:((45:UInt8).toNat:Int)=45:=rfl;cases hd:DG t with
  | false =>
    rw [hd,if_neg (by simp)] at h;replace h:=hid h;have kk1:=@hid _ (fun L K=>dE htl (L:=L) (K:=K));refine wk ?_;exact aa h.out
  | true =>
    rw [hd,if_pos rfl] at h;obtain ⟨x,hx⟩:=Zt (t.getD 0 0);rw [hx,show decide (x=48)=decide ((x.toNat:Int)=48) by rw [decide_eq_decide];exact (bu x 48).symm,show decide (t.length<19)=decide ((t.length:Int)<19) by simp;omega,show decide (t.length=19)=decide ((t.length:Int)=19) by rw [decide_eq_decide];omega] at h;replace h:=hid h;have g1:=dg t hd
    repeat' first
     | refine bb ?_
     | (first|refine aU (by kernel_rfl) ?_|refine aA (by kernel_rfl) ?_|refine aD ?_|refine bS ?_|refine bh (fun _=>?_)|refine ay ?_|refine aW ?_|refine dE htl ?_|refine bg (dE htl ⟨rfl,rfl⟩) (dE htl ⟨rfl,rfl⟩) ?_|refine aL (dE htl ⟨rfl,rfl⟩) ?_)
       refine sm ?_
     | (first|refine aP (by kernel_rfl) ?_|refine aQ ?_|refine aC ?_|refine aV ?_|refine bq (ax ?_))
       refine sl ?_
     | exact bj
     | first|apply bm|apply aR|apply bo|apply aS|apply bp|apply aT
     | refine aG ?_
     | refine aB ?_
     | first|refine aE rfl ?_|refine aF rfl ?_|refine an rfl ?_ ?_|refine aI rfl (fun _=>?_) (fun _=>?_)|refine aH rfl (fun _=>?_) (fun _=>?_)
     | ((first|refine am (fun _=>?_) (fun _=>?_)|refine aw (fun _=>?_) (fun _=>?_))<;>try refine sm ?_)
     | refine And.intro trivial ?_
     | refine And.intro (by omega) ?_
     | refine aM rfl (fun _=>?_) (fun _=>?_)
     | refine And.intro ?_ ?_
    exact aa h.out
 ·rw [if_neg h45,Kc (by simp;omega)] at h;have k1:¬ (c.toNat:Int)=45:=fun e=>h45 ((bu c 45).1 e)
  obtain ⟨v,hv2⟩:=Zt (c::t);rw [hv2] at h hl hc0 h0 ⊢;have hvl:v.length<=1100000:=by omega
  have g0:(0:Int)<(v.length:Int):=by omega
  replace hv2:=hid hv2;clear hd1 hl q7 q8;cases hd:DG v with
  | false =>
    rw [hd,if_neg (by simp)] at h;replace h:=hid h;have kk1:=@hid _ (fun L K=>dE hvl (L:=L) (K:=K));refine wk ?_;exact aa h.out
  | true =>
    rw [hd,if_pos rfl] at h;rw [hc0,show decide (c=48)=decide ((c.toNat:Int)=48) by rw [decide_eq_decide];exact (bu c 48).symm,show decide (v.length<19)=decide ((v.length:Int)<19) by simp;omega,show decide (v.length=19)=decide ((v.length:Int)=19) by rw [decide_eq_decide];omega] at h;replace h:=hid h
    repeat' first
     | refine bb ?_
     | (first|refine aU (by kernel_rfl) ?_|refine aA (by kernel_rfl) ?_|refine aD ?_|refine bS ?_|refine bh (fun _=>?_)|refine ay ?_|refine aW ?_|refine dE hvl ?_|refine bg (dE hvl ⟨rfl,rfl⟩) (dE hvl ⟨rfl,rfl⟩) ?_|refine aL (dE hvl ⟨rfl,rfl⟩) ?_)
       refine sm ?_
     | (first|refine aP (by kernel_rfl) ?_|refine aQ ?_|refine aC ?_|refine aV ?_|refine bq (ax ?_))
       refine sl ?_
     | exact bj
     | first|apply bm|apply aR|apply bo|apply aS|apply bp|apply aT
     | refine aG ?_
     | refine aB ?_
     | first|refine aE rfl ?_|refine aF rfl ?_|refine an rfl ?_ ?_|refine aI rfl (fun _=>?_) (fun _=>?_)|refine aH rfl (fun _=>?_) (fun _=>?_)
     | ((first|refine am (fun _=>?_) (fun _=>?_)|refine aw (fun _=>?_) (fun _=>?_))<;>try refine sm ?_)
     | refine And.intro trivial ?_
     | refine And.intro (by omega) ?_
     | refine aM rfl (fun _=>?_) (fun _=>?_)
     | refine And.intro ?_ ?_
    exact aa h.out
def dr (n:Nat) (s:List UInt8):Nat:=s.foldl (fun n c=>10 * n+(c.toNat - 48)) n
theorem KY {c:UInt8} (h:dX c=true):∃ d,d<=9/\c.toNat=48+d:=by
 simp only [dX,ZE,decide_eq_true_eq] at h;exact ⟨c.toNat - 48,by omega,by omega⟩
theorem qG:∀ (s:List UInt8) (n:Nat),dr n s=n * 10 ^ s.length+dr 0 s
 | [],n=>by simp [dr]
 | c::s,n=>by
   have h1:=qG s (10 * n+(c.toNat - 48));have h2:=qG s (10 * 0+(c.toNat - 48));simp only [dr,aat] at h1 h2 ⊢;rw [h1,h2,ZN,ab3];rw [Nat.mul_zero,aaN,aau,Nat.mul_comm (10 ^ s.length) 10,<- Nat.mul_assoc,Nat.mul_comm n 10];omega
theorem zX:∀ (s:List UInt8),(∀ c∈s,dX c=true)->dr 0 s<10 ^ s.length
 | [],_=>by simp [dr]
 | c::s,h=>by
   have ih:=zX s fun d hd=>h d (aa7 _ hd)
   obtain ⟨d,hd,hc⟩:=KY (h c (by simp));have e:=qG s (10 * 0+(c.toNat - 48));simp only [dr,aat] at e ih ⊢;rw [e,ZN,ab3,hc];have:(10 * 0+(48+d - 48)) * 10 ^ s.length<=9 * 10 ^ s.length:=aaH _ (by omega);omega
theorem I0:∀ (a b:List UInt8),(∀ c∈a,dX c=true)->(∀ c∈b,dX c=true)->a.length=b.length->(a<b↔dr 0 a<dr 0 b)
 | [],[],_,_,_=>by simp [dr]
 | [],_::_,_,_,h=>by simp at h
 | _::_,[],_,_,h=>by simp at h
 | x::a,y::b,ha,hb,hl=>by
   simp only [ZN,Nat.add_right_cancel_iff] at hl;have ha':=fun c hc=>ha c (aa7 _ hc)
   have hb':=fun c hc=>hb c (aa7 _ hc)
   have ih:=I0 a b ha' hb' hl;have la:=zX a ha';have lb:=zX b hb';obtain ⟨d,hd,hx⟩:=KY (ha x (by simp));obtain ⟨e,he,hy⟩:=KY (hb y (by simp));have ea:dr 0 (x::a)=d * 10 ^ a.length+dr 0 a:=by
    have:=qG a (10 * 0+(x.toNat - 48));rw [hx,show 10 * 0+(48+d - 48)=d by omega] at this;rw [<- this];simp only [dr,aat,hx];congr 1;omega
   have eb:dr 0 (y::b)=e * 10 ^ b.length+dr 0 b:=by
    have:=qG b (10 * 0+(y.toNat - 48));rw [hy,show 10 * 0+(48+e - 48)=e by omega] at this;rw [<- this];simp only [dr,aat,hy];congr 1;omega
   rw [ea,eb,List.cons_lt_cons_iff,ih,hl];rw [hl] at la;have hxy:x<y↔d<e:=by
    show x.toNat<y.toNat↔_
    omega
   have hxe:x=y↔d=e:=by rw [<- abb];omega
   rw [hxy,hxe];obtain ⟨p,hp⟩:=Zt (10 ^ b.length);rw [hp] at la lb ⊢;rcases Nat.lt_trichotomy d e with h|h|h
   ·have:(d+1) * p<=e * p:=aaH _ h;rw [aau] at this;constructor
    ·intro _;omega
    ·intro _;exact .inl h
   ·subst h;constructor
    ·rintro (h|⟨_,h⟩)
     ·omega
     ·omega
    ·intro h;exact .inr ⟨rfl,by omega⟩
   ·have:(e+1) * p<=d * p:=aaH _ h;rw [aau] at this;constructor
    ·rintro (h|⟨h,_⟩)<;>omega
    ·intro h;omega
theorem Xe:∀ u:Nat,dr 0 (Lib.decDigits u)=u/\(∀ c∈Lib.decDigits u,dX c=true)/\u<10 ^ (Lib.decDigits u).length/\(1<=u->10 ^ ((Lib.decDigits u).length - 1)<=u):=by
 intro u
 induction u using Nat.strongRecOn with
 | _ u ih =>
   by_cases h10:u<10
   ·have hd:(UInt8.ofNat (48+u)).toNat=48+u:=u8n (by omega);rw [Lib.decDigits,dif_pos h10];refine ⟨?_,?_,?_,?_⟩
    ·simp only [dr,aat,abq,hd];omega
    ·intro c hc;rw [ZS.1 hc];simp only [dX,hd,ZE,decide_eq_true_eq];omega
    ·simpa using h10
    ·intro h;simpa using h
   ·obtain ⟨i1,i2,i3,i4⟩:=ih (u / 10) (by omega);have hd:(UInt8.ofNat (48+u % 10)).toNat=48+u % 10:=u8n (by omega);rw [Lib.decDigits,dif_neg h10];refine ⟨?_,?_,?_,?_⟩
    ·unfold dr at i1 ⊢;rw [abo,i1];simp only [aat,abq,hd];omega
    ·intro c hc;rcases ZD.1 hc with h|h
     ·exact i2 c h
     ·rw [ZS.1 h];simp only [dX,hd,ZE,decide_eq_true_eq];omega
    ·rw [ZQ,acv,ab3];omega
    ·intro _;have:=i4 (by omega);rw [ZQ,acv,Nat.add_sub_cancel];obtain ⟨c,r,e,_⟩:=qW (u / 10);have hl:1<=(Lib.decDigits (u / 10)).length:=by rw [e];simp
     obtain ⟨k,hk⟩:∃ k,(Lib.decDigits (u / 10)).length=k+1:=⟨(Lib.decDigits (u / 10)).length - 1,by omega⟩;rw [hk] at this ⊢;rw [Nat.add_sub_cancel] at this;rw [ab3];omega
theorem Yt:∀ (n:Nat) (w:List UInt8),w.length=n->(∀ c∈w,dX c=true)->w≠[]->w.getD 0 0≠48->1<=dr 0 w/\Lib.decDigits (dr 0 w)=w:=by
 intro n
 induction n with
 | zero=>intro w hl _ hne;exact absurd (aaj.1 hl) hne
 | succ n ih =>
   intro w hl hd hne h48;obtain ⟨t,c,rfl⟩:∃ t c,w=t++[c]:=⟨w.dropLast,w.getLast hne,(List.dropLast_concat_getLast hne).symm⟩;obtain ⟨d,hd9,hc⟩:=KY (hd c (by simp));have hcc:UInt8.ofNat (48+d)=c:=by rw [<- hc];simp
   have ev:dr 0 (t++[c])=10 * dr 0 t+d:=by
    simp only [dr,abo,aat,abq,hc];omega
   rcases t with _|⟨x,t⟩
   ·have:d≠0:=fun e=>h48 (by
     simp only [aab,aaB];exact abb.1 (by rw [hc,e];rfl))
    have e0:dr 0 ([]:List UInt8)=0:=rfl;rw [ev,e0];refine ⟨by omega,?_⟩;rw [Lib.decDigits,dif_pos (by omega),show 48+(10 * 0+d)=48+d by omega,hcc];rfl
   ·obtain ⟨j1,j2⟩:=ih (x::t) (by simpa using hl) (fun c hc=>hd c (aa4 _ hc)) (by simp) (by simpa using h48);rw [ev];refine ⟨by omega,?_⟩;rw [Lib.decDigits,dif_neg (by omega),show (10 * dr 0 (x::t)+d) / 10=dr 0 (x::t) by omega,show (10 * dr 0 (x::t)+d) % 10=d by omega,j2,hcc]
theorem Pk {w most:List UInt8} {M:Nat} (hm:dr 0 most=M) (hml:most.length=19) (hmd:∀ c∈most,dX c=true) (hM:10 ^ 18<=M):Pl w most=true↔∃ u,1<=u/\u<=M/\w=Lib.decDigits u:=by
 have hM19:M<10 ^ 19:=by rw [<- hm,<- hml];exact zX most hmd
 have le19:∀ w:List UInt8,(∀ c∈w,dX c=true)->w.length=19->((Op.bytesLess w most || decide (w=most))=true↔dr 0 w<=M):=fun w hw hl=>by
  rw [bytesLess_eq];simp only [aaa,decide_eq_true_eq];have h1:=I0 w most hw hmd (by rw [hl,hml]);have h2:=I0 most w hmd hw (by rw [hl,hml]);rw [hm] at h1 h2;rw [h1];constructor
  ·rintro (h|rfl)
   ·omega
   ·omega
  ·intro h;rcases ZT (dr 0 w) M with h3|h3
   ·exact .inl h3
   ·refine .inr (ack (aaS.1 fun h4=>?_) (aaS.1 fun h4=>?_))
    ·have:=h2.1 h4;omega
    ·have:=h1.1 h4;omega
 unfold Pl DG;simp only [ZE,aaa,Z8,decide_eq_false_iff_not,decide_eq_true_eq,ZJ];constructor
 ·rintro ⟨⟨⟨hd,hpos⟩,h48⟩,hlen⟩;obtain ⟨h1,h2⟩:=Yt _ w rfl hd (by rintro rfl;simp at hpos) h48;refine ⟨dr 0 w,h1,?_,h2.symm⟩;rcases hlen with hlt|⟨heq,hle⟩
  ·have:=zX w hd;have h3:10 ^ w.length<=10 ^ 18:=Nat.pow_le_pow_right (by decide) (by omega);omega
  ·have:=(le19 w hd heq).1 (by simpa using hle);exact this
 ·rintro ⟨u,h1,h2,rfl⟩;obtain ⟨k1,k2,k3,k4⟩:=Xe u;obtain ⟨c,r,e,c1,c2,c3⟩:=qW u;have hl19:(Lib.decDigits u).length<=19:=by
   rcases ZT 19 (Lib.decDigits u).length with h|h
   ·have h5:=k4 h1;have h6:10 ^ 19<=10 ^ ((Lib.decDigits u).length - 1):=Nat.pow_le_pow_right (by decide) (by omega);omega
   ·exact h
  refine ⟨⟨⟨k2,by rw [e];simp⟩,?_⟩,?_⟩
  ·rw [e];simp only [aaB];intro h;have:=c3 (by rw [h];rfl);omega
  ·rcases ZT (Lib.decDigits u).length 19 with h|h
   ·exact .inl h
   ·have hl:(Lib.decDigits u).length=19:=by omega
    refine .inr ⟨hl,?_⟩;have:=(le19 _ k2 hl).2 (by rw [k1];exact h2);simpa using this
theorem Qy (w:List UInt8):Pl w U5=true↔∃ u,1<=u/\u<=9223372036854775807/\w=Lib.decDigits u:=Pk (by decide) (by decide) (by decide) (by decide)
theorem Qz (w:List UInt8):Pl w U6=true↔∃ u,1<=u/\u<=9223372036854775808/\w=Lib.decDigits u:=Pk (by decide) (by decide) (by decide) (by decide)
theorem UX (v:List UInt8):UY v=true↔∃ m,I64 m/\Lib.itoa m=v:=by
 unfold UY;by_cases h0:v=[48]
 ·rw [if_pos h0];refine ⟨fun _=>⟨0,by unfold I64;omega,?_⟩,fun _=>rfl⟩;rw [h0,Lib.itoa,if_neg (by decide),Lib.decDigits,dif_pos (by decide)];rfl
 rw [if_neg h0];have hz:Lib.itoa 0=[48]:=by rw [Lib.itoa,if_neg (by decide),Lib.decDigits,dif_pos (by decide)];rfl
 rcases v with _|⟨c,t⟩
 ·simp only [ZP,false_iff];rintro ⟨m,_,e⟩;obtain ⟨c,r,e',_⟩:=SX m;rw [e'] at e;cases e
 simp only;by_cases h45:c=45
 ·rw [if_pos h45,Qz];subst h45;constructor
  ·rintro ⟨u,h1,h2,rfl⟩;refine ⟨-(u:Int),by unfold I64;omega,?_⟩;rw [Lib.itoa,if_pos (by omega),show (-(u:Int)).natAbs=u by omega]
  ·rintro ⟨m,hm,e⟩;unfold I64 at hm;by_cases hneg:m<0
   ·rw [Lib.itoa,if_pos hneg] at e;exact ⟨m.natAbs,by omega,by omega,(List.cons.inj e).2.symm⟩
   ·rw [Lib.itoa,if_neg hneg] at e;obtain ⟨c,r,e',c1,c2,_⟩:=qW m.toNat;rw [e'] at e;have:=(List.cons.inj e).1;rw [this] at c1;exact absurd c1 (by decide)
 ·rw [if_neg h45,Qy];constructor
  ·rintro ⟨u,h1,h2,e⟩;refine ⟨(u:Int),by unfold I64;omega,?_⟩;rw [e,Lib.itoa,if_neg (by omega)];congr 1
  ·rintro ⟨m,hm,e⟩;unfold I64 at hm;by_cases hneg:m<0
   ·rw [Lib.itoa,if_pos hneg] at e;exact absurd (List.cons.inj e).1.symm h45
   ·have hm0:m≠0:=fun e0=>h0 (by rw [<- e,e0,hz])
    rw [Lib.itoa,if_neg hneg] at e;exact ⟨m.toNat,by omega,by omega,e.symm⟩
theorem SO (v:List UInt8):qH v=true↔∃ m,I64 m/\Lib.itoa m=v:=by
 constructor
 ·intro h;unfold qH at h;split at h
  ·rename_i n hn
   exact ⟨n,Kb hn,by simpa using h⟩
  ·cases h
 ·rintro ⟨m,hm,rfl⟩;exact (UW hm).1
theorem Ya (v:List UInt8):UY v=qH v:=by
 exact Bool.eq_iff_iff.2 ((UX v).trans (SO v).symm)
theorem Zo {v:List UInt8} {i:Nat} (h:i+2<=v.length):Oh ((v.drop i).take 2)=two v i:=by
 have e:(v.drop i).take 2=[v.getD i 0,v.getD (i+1) 0]:=by
  rw [iH (show i<v.length by omega),iH (show i+1<v.length by omega)];rfl
 rw [e];simp only [Oh,two,dig,aat,abq];omega
theorem Zn {v:List UInt8} (h:4<=v.length):Oh (v.take 4)=two v 0 * 100+two v 2:=by
 have e:v.take 4=[v.getD 0 0,v.getD 1 0,v.getD 2 0,v.getD 3 0]:=by
  have:=iH (show 0<v.length by omega);rw [abk] at this;rw [this,iH (show 0+1<v.length by omega),iH (show 0+1+1<v.length by omega),iH (show 0+1+1+1<v.length by omega)];rfl
 rw [e];simp only [Oh,two,dig,aat,abq,aaN,Nat.reduceAdd];omega
theorem Nh {v:List UInt8} (hv:v.length<=1100000) (h:K (.bool (zZ v)) L):Zx 93 [.str v] L K:=by
 have no:zZ v=false->K (.bool false) L:=fun e=>by rw [<- e];exact h
 replace no:=hid no;replace h:=hid h;refine ad IL (by simp [mE]) ?_;simp only [mE,aq];by_cases h15:v.length=15;rotate_left
 ·have f1:¬ (v.length:Int)=15:=by omega
  have h':=hid (no.out (by simp [zZ,h15]));clear h15;refine wk ?_;exact aa h'.out
 have f1:(v.length:Int)=15:=by omega
 obtain ⟨w,hw⟩:=Zt (v.take 14);have hwl:w.length=14:=by rw [<- hw];simp [h15]
 have hwl2:w.length<=1100000:=by omega
 cases hda:w.all dX with
 | false =>
   have h':=hid (no.out (by simp [zZ,hw,hda]));have hds:DG w=false:=by simp [DG,hda]
   clear hwl h15;have kk1:=@hid _ (fun L K=>dE hwl2 (L:=L) (K:=K));refine wk ?_;exact aa h'.out
 | true =>
 have hds:DG w=true:=by simp [DG,hda,hwl]
 obtain ⟨z,hz⟩:=Zt (v.getD 14 0);by_cases h90:z=90;rotate_left
 ·have f2:¬ (z.toNat:Int)=90:=fun e=>h90 ((bu z 90).1 e)
  have h':=hid (no.out (by simp [zZ,<- hz] at h90 ⊢;simp [h90]));clear h90 hwl h15;have kk1:=@hid _ (fun L K=>dE hwl2 (L:=L) (K:=K));refine wk ?_;exact aa h'.out
 have f2:(z.toNat:Int)=90:=by rw [h90];rfl
 have hdv:∀ i,i<14->dX (v.getD i 0)=true:=fun i hi=>by
  refine ZJ.1 hda _ ?_;rw [<- hw];have:v.getD i 0=(v.take 14)[i]'(by simp;omega):=by simp [show i<v.length by omega]
  rw [this];exact aaI _
 have hmem:∀ (i n:Nat),i+n<=14->∀ c∈(v.drop i).take n,dX c=true:=fun i n hin c hc=>by
  obtain ⟨j,hj,rfl⟩:=aa1.1 hc;simp only [acq,abC] at hj;rw [List.getElem_take,List.getElem_drop];have:=hdv (i+j) (by omega)
  rwa [show v.getD (i+j) 0=v[i+j] by simp [show i+j<v.length by omega]] at this
 have hdate:zZ v=PR v:=by
  simp only [zZ,h15,hz,h90,hw,hda];simp
 have ct:∀ i:Nat,i+2<=14->∀ (K:AV->List Blk->Prop),K (.int .i64 (two v i:Nat)) L->Zx 133 [.str ((v.drop i).take 2)] L K:=fun i hi K h =>
  XE (by simp;omega) (hmem i 2 hi) (by rw [Zo (by omega)];exact h)
 have c4:∀ (K:AV->List Blk->Prop),K (.int .i64 ((two v 0 * 100+two v 2:Nat):Int)) L->Zx 133 [.str (v.take 4)] L K:=fun K h =>
  XE (by simp;omega) (by have:=hmem 0 4 (by omega);rwa [abk] at this) (by rw [Zn (by omega)];exact h)
 have b0:=fQ (hdv 0 (by omega)) (hdv 1 (by omega));have b2:=fQ (hdv 2 (by omega)) (hdv 3 (by omega));have b4:=fQ (hdv 4 (by omega)) (hdv 5 (by omega));have b6:=fQ (hdv 6 (by omega)) (hdv 7 (by omega));have b8:=fQ (hdv 8 (by omega)) (hdv 9 (by omega));have b10:=fQ (hdv 10 (by omega)) (hdv 11 (by omega));have b12:=fQ (hdv 12 (by omega)) (hdv 13 (by omega));have kk1:=@hid _ (fun {K:Zy}=>c4 K);have kk3:=@hid _ (fun {K:Zy}=>ct 4 (by omega) K);have kk4:=@hid _ (fun {K:Zy}=>ct 6 (by omega) K);have kk5:=@hid _ (fun {K:Zy}=>ct 8 (by omega) K);have kk6:=@hid _ (fun {K:Zy}=>ct 10 (by omega) K);have kk7:=@hid _ (fun {K:Zy}=>ct 12 (by omega) K);have kk2:=@hid _ (fun {K:Zy}=>@dE w hwl2 L K);have hfin:=h.out;rw [hdate] at hfin;unfold PR at hfin;obtain ⟨Y,hY⟩:=Zt (two v 0 * 100+two v 2);obtain ⟨M,hM⟩:=Zt (two v 4);obtain ⟨D,hD⟩:=Zt (two v 6);obtain ⟨H,hH⟩:=Zt (two v 8);obtain ⟨I,hI⟩:=Zt (two v 10);obtain ⟨S,hS⟩:=Zt (two v 12);have hYb:Y<=9999:=by omega
 rw [hY] at hfin kk1;rw [hM] at b4 hfin kk3;rw [hD] at b6 hfin kk4;rw [hH] at b8 hfin kk5;rw [hI] at b10 hfin kk6;rw [hS] at b12 hfin kk7;clear hY hM hD hH hI hS ct c4 hdate hdv hda h15 hwl hv h90 no h hmem b0 b2;have hbad:¬ ((1<=M/\M<=12)/\1<=D/\H<=23/\I<=59/\S<=59)->K (.bool false) L:=fun e=>by
  rw [decide_eq_false e] at hfin;simpa using hfin
 replace hbad:=hid hbad;replace hfin:=hid hfin;by_cases m1:(M:Int)<1
 ·refine wk ?_;exact aa (hbad.out (by omega))
 by_cases m2:(12:Int)<(M:Int)
 ·refine wk ?_;exact aa (hbad.out (by omega))
 by_cases m3:(D:Int)<1
 ·refine wk ?_;exact aa (hbad.out (by omega))
 by_cases m4:(23:Int)<(H:Int)
 ·refine wk ?_;exact aa (hbad.out (by omega))
 by_cases m5:(59:Int)<(I:Int)
 ·refine wk ?_;exact aa (hbad.out (by omega))
 by_cases m6:(59:Int)<(S:Int)
 ·refine wk ?_;exact aa (hbad.out (by omega))
 have hfin2:=hfin.out;rw [show decide ((1<=M/\M<=12)/\1<=D/\H<=23/\I<=59/\S<=59)=true by simp;omega,aaw] at hfin2;unfold Ny Vb at hfin2;obtain ⟨r4,hr4⟩:=Zt (Y % 4);obtain ⟨r100,hr100⟩:=Zt (Y % 100);obtain ⟨r400,hr400⟩:=Zt (Y % 400);rw [hr4,hr100,hr400] at hfin2;have t4:Int.tmod (Y:Int) 4=(r4:Int):=by rw [abA (by omega)];omega
 have t100:Int.tmod (Y:Int) 100=(r100:Int):=by rw [abA (by omega)];omega
 have t400:Int.tmod (Y:Int) 400=(r400:Int):=by rw [abA (by omega)];omega
 replace hfin2:=hid hfin2;clear hr4 hr100 hr400;have days:∀ d:Nat,(if M=2/\(decide (r4=0) && !decide (r100=0) || decide (r400=0))=true then OI M+1 else OI M)=d->K (.bool (decide ((D:Int)<=(d:Int)))) L:=fun d e=>by
  have:=hfin2.out;rw [e] at this
  rwa [show decide (D<=d)=decide ((D:Int)<=(d:Int)) by simp only [decide_eq_decide];omega] at this
 replace days:=hid days;by_cases q2:(M:Int)=2
 ·have e2:M=2:=by omega
  subst e2
  repeat' first
   | refine bb ?_
   | (first|refine aU (by kernel_rfl) ?_|refine aA (by kernel_rfl) ?_|refine aD ?_|refine bS ?_|refine bh (fun _=>?_)|refine ay ?_|refine aW ?_|refine kk1.out ?_|refine kk2.out ?_|refine kk3.out ?_|refine kk4.out ?_|refine kk5.out ?_|refine kk6.out ?_|refine kk7.out ?_|refine bg (kk1.out ⟨rfl,rfl⟩) (kk1.out ⟨rfl,rfl⟩) ?_|refine bg (kk2.out ⟨rfl,rfl⟩) (kk2.out ⟨rfl,rfl⟩) ?_|refine bg (kk3.out ⟨rfl,rfl⟩) (kk3.out ⟨rfl,rfl⟩) ?_|refine bg (kk4.out ⟨rfl,rfl⟩) (kk4.out ⟨rfl,rfl⟩) ?_|refine bg (kk5.out ⟨rfl,rfl⟩) (kk5.out ⟨rfl,rfl⟩) ?_|refine bg (kk6.out ⟨rfl,rfl⟩) (kk6.out ⟨rfl,rfl⟩) ?_|refine bg (kk7.out ⟨rfl,rfl⟩) (kk7.out ⟨rfl,rfl⟩) ?_|refine aL (kk1.out ⟨rfl,rfl⟩) ?_|refine aL (kk2.out ⟨rfl,rfl⟩) ?_|refine aL (kk3.out ⟨rfl,rfl⟩) ?_|refine aL (kk4.out ⟨rfl,rfl⟩) ?_|refine aL (kk5.out ⟨rfl,rfl⟩) ?_|refine aL (kk6.out ⟨rfl,rfl⟩) ?_|refine aL (kk7.out ⟨rfl,rfl⟩) ?_)
     refine sm ?_
   | (first|refine aP (by kernel_rfl) ?_|refine aQ ?_|refine aC ?_|refine aV ?_|refine bq (ax ?_))
     refine sl ?_
   | exact bj
   | first|apply bm|apply aR|apply bo|apply aS|apply bp|apply aT
   | refine aG ?_
   | refine aB ?_
   | first|refine aE rfl ?_|refine aF rfl ?_|refine an rfl ?_ ?_|refine aI rfl (fun _=>?_) (fun _=>?_)|refine aH rfl (fun _=>?_) (fun _=>?_)
   | ((first|refine am (fun _=>?_) (fun _=>?_)|refine aw (fun _=>?_) (fun _=>?_))<;>try refine sm ?_)
   | refine And.intro trivial ?_
   | refine And.intro (by omega) ?_
   | refine aM rfl (fun _=>?_) (fun _=>?_)
   | refine And.intro ?_ ?_
  ·rename_i hx
   exact aa (days.out 29 (by rw [if_pos ⟨rfl,by simp;omega⟩];rfl))
  ·rename_i hx
   exact aa (days.out 28 (by rw [if_neg (fun ⟨_,e⟩=>hx (by simp at e;omega))];rfl))
 by_cases q30:M=4\/M=6\/M=9\/M=11
 ·have d30:=hid (days.out 30 (by unfold OI;rw [if_neg (by omega),if_neg (by omega),if_pos (by omega)]));rcases q30 with e|e|e|e
  ·have p1:(M:Int)=4:=by omega
   clear e;refine wk ?_;exact aa d30.out
  ·have p1:(M:Int)=6:=by omega
   clear e;refine wk ?_;exact aa d30.out
  ·have p1:(M:Int)=9:=by omega
   clear e;refine wk ?_;exact aa d30.out
  ·have p1:(M:Int)=11:=by omega
   clear e;refine wk ?_;exact aa d30.out
 ·have d31:=hid (days.out 31 (by unfold OI;rw [if_neg (by omega),if_neg (by omega),if_neg (by omega)]));have p1:¬ (M:Int)=4:=by omega
  have p2:¬ (M:Int)=6:=by omega
  have p3:¬ (M:Int)=9:=by omega
  have p4:¬ (M:Int)=11:=by omega
  clear q30;refine wk ?_;exact aa d31.out
theorem JK {syn:Int} {v:List UInt8} (h:K (Lz (cW syn v)) L):Zx 45 [.int .i64 syn,.str v] L K:=by
 unfold cW at h;refine ad KH (by simp [rI]) ?_;simp only [rI,aq];by_cases hl:4096<v.length
 ·have f1:(4096:Int)<(v.length:Int):=by omega
  rw [if_pos hl] at h;replace h:=hid h;clear hl;refine wk ?_;exact aa h.out
 have f1:¬ (4096:Int)<(v.length:Int):=by omega
 rw [if_neg hl] at h;have vl1:v.length<=1100000:=by omega
 have vl2:(v.length:Int)<=100000:=by omega
 have hu:=Dl v.length v (ZA _);have hnu:=Ya v;unfold vQ at h;clear hl;by_cases s1:syn=1
 ·subst s1;rw [if_pos rfl] at h;by_cases hv:v=[]
  ·rw [if_pos hv] at h;replace h:=hid h;subst hv;have e0:([]:List UInt8).length=0:=rfl;refine wk ?_;exact aa h.out
  ·rw [if_neg hv] at h;have f2:(0:Int)<(v.length:Int):=by have:=aaQ.2 hv;omega
   cases hd:Lib.validD v with
   | true =>
     rw [hd,if_pos rfl] at h;replace h:=hid h;rw [hd] at hu;have kk1:=@hid _ (fun L K=>rf vl2 (L:=L) (K:=K));have kk2:=@hid _ (fun L K=>Rq vl1 (L:=L) (K:=K));refine wk ?_;exact aa h.out
   | false =>
     rw [hd,if_neg (by simp)] at h;replace h:=hid h;rw [hd] at hu;have kk1:=@hid _ (fun L K=>rf vl2 (L:=L) (K:=K));have kk2:=@hid _ (fun L K=>Rq vl1 (L:=L) (K:=K));refine wk ?_;exact aa h.out
 rw [if_neg s1] at h;by_cases s2:syn=2
 ·subst s2;rw [if_pos rfl] at h;by_cases hv:v=[]
  ·rw [if_pos hv] at h;replace h:=hid h;subst hv;have e0:([]:List UInt8).length=0:=rfl;refine wk ?_;exact aa h.out
  ·rw [if_neg hv] at h;have f2:(0:Int)<(v.length:Int):=by have:=aaQ.2 hv;omega
   cases hd:Lib.validD v with
   | true =>
     rw [hd,if_pos rfl] at h;replace h:=hid h;rw [hd] at hu;have kk1:=@hid _ (fun L K=>Rq vl1 (L:=L) (K:=K));refine wk ?_;exact aa h.out
   | false =>
     rw [hd,if_neg (by simp)] at h;replace h:=hid h;rw [hd] at hu;have kk1:=@hid _ (fun L K=>Rq vl1 (L:=L) (K:=K));refine wk ?_;exact aa h.out
 rw [if_neg s2] at h;by_cases s3:syn=3
 ·subst s3;rw [if_pos rfl] at h;replace h:=hid h;clear hu hnu;refine wk ?_;refine ak (fun n T' L'=>∃ i:Nat,n=v.length - i/\i<=v.length/\Hid (DI (v.take i)=true)/\T'=[(6,.int .i64 (i:Int)),(1,.str v),(12,.int .i64 3)]/\L=L') (CutS (b:=ZA _)) ⟨0,rfl,ZI _,hid rfl,rfl,rfl⟩ ?_;rintro _ _ _ ⟨i,rfl,hi,hall,rfl,rfl⟩;by_cases hlt:i<v.length
  ·have g1:(i:Int)<(v.length:Int):=by omega
   have g2:=Zv i (by omega);obtain ⟨c,hc⟩:=Zt (v.getD i 0);have htk:v.take (i+1)=v.take i++[c]:=by rw [ZY hlt,<- hc];simp [hlt]
   have hm:c∈v:=by rw [<- hc];simp [hlt]
   by_cases ha:c.toNat<128
   ·have f2:¬ (128:Int)<=(c.toNat:Int):=by omega
    have hnext:DI (v.take (i+1))=true:=by
     have:=hall.out;unfold DI at this ⊢;rw [htk,aci,this];simp [ha]
    replace hnext:=hid hnext;clear ha htk hm;refine wk ?_;exact aj _ _ _ (by omega) (CutL (b:=ZA _)) ⟨i+1,rfl,hlt,hnext,rfl,rfl⟩
   ·have f2:(128:Int)<=(c.toNat:Int):=by omega
    have hbad:DI v=false:=by
     rw [<- aa0];intro e;have:=ZJ.1 e c hm;simp at this;omega
    have h':=h.out;rw [hbad,if_neg (by simp)] at h';replace h':=hid h';clear ha htk hm hbad;refine wk ?_;exact aa h'.out
  ·have hke:i=v.length:=by omega
   subst hke;have g1:¬ (v.length:Int)<(v.length:Int):=by omega
   have e:=hall.out;rw [ZW] at e;have h':=h.out;rw [e,if_pos rfl] at h';replace h':=hid h';clear e;have kk1:=@hid _ (fun L K=>rf vl2 (L:=L) (K:=K));refine wk ?_;exact aa h'.out
 rw [if_neg s3] at h;by_cases s4:syn=4
 ·subst s4;rw [if_pos rfl] at h;cases hd:qH v with
  | true =>
    rw [hd,if_pos rfl] at h;replace h:=hid h;rw [hd] at hnu;have kk1:=@hid _ (fun L K=>Ng vl1 (L:=L) (K:=K));refine wk ?_;exact aa h.out
  | false =>
    rw [hd,if_neg (by simp)] at h;replace h:=hid h;rw [hd] at hnu;have kk1:=@hid _ (fun L K=>Ng vl1 (L:=L) (K:=K));refine wk ?_;exact aa h.out
 rw [if_neg s4] at h;by_cases s5:syn=5
 ·subst s5;rw [if_pos rfl] at h;clear hu hnu;by_cases t1:v=V4
  ·rw [if_pos (.inl t1)] at h;replace h:=hid h;subst t1;refine wk ?_;exact aa h.out
  ·by_cases t2:v=Rh
   ·rw [if_pos (.inr t2)] at h;replace h:=hid h;subst t2;have t3:¬ ([70,65,76,83,69]:List UInt8)=[84,82,85,69]:=by decide
    clear t1;refine wk ?_;exact aa h.out
   ·rw [if_neg (fun e=>e.elim t1 t2)] at h;replace h:=hid h;refine wk ?_;exact aa h.out
 rw [if_neg s5] at h;clear hu hnu;by_cases s6:syn=6
 ·subst s6;rw [if_pos rfl] at h;obtain ⟨⟨k,e⟩,hk⟩:∃ p,CD v=p:=⟨_,rfl⟩;rw [hk] at h;simp only at h;by_cases he:e=0
  ·subst he;rw [if_pos rfl] at h;replace h:=hid h;refine wk ?_;refine Ux ?_;rw [hk];simp only [oa];refine sk ?_;refine wk ?_;exact aa h.out
  ·rw [if_neg he] at h;replace h:=hid h;refine wk ?_;refine Ux ?_;rw [hk];simp only [oa];refine sk ?_;refine wk ?_;exact aa h.out
 rw [if_neg s6] at h;by_cases s7:syn=7
 ·subst s7;rw [if_pos rfl] at h;replace h:=hid h;refine wk ?_;exact aa h.out
 rw [if_neg s7] at h;by_cases s8:syn=8
 ·subst s8;rw [if_pos rfl] at h;cases hd:zZ v with
  | true =>
    rw [hd,if_pos rfl] at h;replace h:=hid h;have kk1:=@hid _ (fun L K=>Nh vl1 (L:=L) (K:=K));refine wk ?_;exact aa h.out
  | false =>
    rw [hd,if_neg (by simp)] at h;replace h:=hid h;have kk1:=@hid _ (fun L K=>Nh vl1 (L:=L) (K:=K));refine wk ?_;exact aa h.out
 rw [if_neg s8] at h;replace h:=hid h;refine wk ?_;exact aa h.out
end Go.Proofs.YtcmfcpjnhephaaaGreatDoor.Av
