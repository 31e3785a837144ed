/- Joined texts of the walk, made small by a program. -/
import Derived.Test.YtigifoeopopnbaaGreatDoorQk11
import Derived.Test.YtigifoeopopnbaaGreatDoorQk9
import Derived.Test.YtigifoeopopnbaaGreatDoorQk6
import Derived.Lib.ValidLaws
import Derived.Sort.Walk0
import Derived.Test.YtigifoeopopnbaaGreatDoorQk16
set_option linter.unusedSimpArgs false
set_option linter.unusedVariables false
namespace Go.Proofs.YtigifoeopopnbaaGreatDoor.Av
open Go
variable {L:List Blk} {K:aef}
set_option maxHeartbeats 8000000
set_option maxRecDepth 100000
def k7 (b:Nat):Nat×Nat:=if 240<=b then (4,b - 240) else if 224<=b then (3,b - 224) else if 192<=b then (2,b - 192) else (1,b)
def LP (n c:Nat):Bool:=decide (¬ (n=2/\c<128\/n=3/\c<2048\/n=4/\c<65536\/1114111<c\/55296<=c/\c<57344))
def K0:Nat->List UInt8->Nat->Option Nat
 | 0,_,c=>some c
 | _+1,[],_=>none
 | k+1,x::t,c=>if 128<=x.toNat/\x.toNat<192 then K0 k t (c * 64+x.toNat - 128) else none
def Px:Nat->List UInt8->Bool
 | _,[]=>true
 | 0,_::_=>true
 | f+1,b::t=>if 128<=b.toNat/\b.toNat<192 then false else if t.length+1<(k7 b.toNat).1 then false else
   match K0 ((k7 b.toNat).1 - 1) t (k7 b.toNat).2 with
   | none=>false
   | some c=>LP (k7 b.toNat).1 c && Px f (t.drop ((k7 b.toNat).1 - 1))
theorem WK {s:List UInt8} (hs:s.length<=1100000) (h:K (.bool (Px s.length s)) L):aee 61 [.str s] L K:=by
 obtain ⟨R,hR⟩:=aea (Px s.length s);rw [hR] at h;replace h:=hid h;refine aed Rt ?_;refine ai (fun n T' L'=>∃ (f:Nat) (u:List UInt8),f=n/\u.length<=1100000/\Hid (u.length<=f/\Px f u=R)/\T'=[(0,.str u)]/\L=L') (CutS (b:=aeg _)) ⟨s.length,s,rfl,hs,hid ⟨aeg _,hR⟩,rfl,rfl⟩ ?_;clear hR hs;rintro _ _ _ ⟨f,u,rfl,hu,hI,rfl,rfl⟩;rcases u with _|⟨b,t⟩
 ·have h':=h.out;rw [<- hI.out.2,show Px f []=true by cases f<;>rfl] at h';replace h':=hid h';have e0:([]:List UInt8).length=0:=rfl;refine wk ?_;exact ac h'.out
 obtain ⟨u,hut⟩:=aea (b::t);obtain ⟨f,rfl⟩:∃ g,f=g+1:=⟨f - 1,by have:=hI.out.1;simp at this;omega⟩;have hb0:u.getD 0 0=b:=by rw [<- hut];rfl
 have hul:u.length=t.length+1:=by rw [<- hut];rfl
 have hI2:=hI.out.2;have hfl:=hI.out.1;rw [Px] at hI2;rw [hut] at hu hfl ⊢;obtain ⟨x,hx⟩:=aea (b.toNat);have hx256:x<256:=by rw [<- hx];exact b.toNat_lt
 rw [hx] at hI2;have hpos:(0:Int)<(u.length:Int):=by omega
 have w0:IntKind.i64.wrap (x:Int)=(x:Int):=ad (by omega) (by omega);have hxi:(b.toNat:Int)=(x:Int):=by omega
 have hbad:R=false->Fin L (.bool false) L K:=fun e=>ac (by have h':=h.out;rwa [e] at h')
 replace hbad:=hid hbad;have hdr:∀ i,u.drop (i+1)=t.drop i:=fun i=>by rw [<- hut];rfl
 replace hut:=hid hut;replace hul:=hid hul;clear hx hI;by_cases hmid:128<=x/\x<192
 ·rw [if_pos hmid] at hI2;have c1:¬ (240:Int)<=(x:Int):=by omega
  have c2:¬ (224:Int)<=(x:Int):=by omega
  have c3:¬ (192:Int)<=(x:Int):=by omega
  have c4:(128:Int)<=(x:Int):=by omega
  have e:=hid hI2.symm;clear hmid hI2;refine wk ?_;exact hbad.out e.out
 rw [if_neg hmid] at hI2;obtain ⟨⟨n,c0⟩,hn⟩:∃ p,k7 x=p:=⟨_,rfl⟩;rw [hn] at hI2;simp only at hI2;have hn14:1<=n/\n<=4/\c0<256:=by
  unfold k7 at hn
  repeat' split at hn
  all_goals (cases hn;omega)
 obtain ⟨hn1,hn4,hc0⟩:=hn14;replace hI2:=hid hI2
 iterate 13 first
  | refine aY ?_
  | (first|refine aO (by kernel_rfl) ?_|refine aA (by kernel_rfl) ?_|refine aB ?_|refine bw ?_|refine a6 (fun _=>?_)|refine ax ?_|refine aR ?_)
    simp (config:={ maxSteps:=2000000 }) only [Kon,push_cast,reduceIte,Nat.reduceEqDiff,Nat.reduceAdd,Nat.reduceMul,Nat.reduceSub,Nat.reduceLT,Nat.reduceLeDiff,Int.reduceLT,Int.reduceLE,Int.reduceAdd,Int.reduceSub,Int.reduceNeg,Int.reduceToNat,Int.reduceEq,reduceCtorEq, *]
  | (first|refine aK (by kernel_rfl) ?_|refine aP ?_|refine aQ ?_|refine bd (aw ?_))
    simp only [push_cast,reduceIte,Nat.reduceEqDiff,Nat.reduceAdd,Nat.reduceMul,Nat.reduceSub,Nat.reduceLT,Nat.reduceLeDiff,Int.reduceLT,Int.reduceLE,Int.reduceAdd,Int.reduceSub,Int.reduceNeg,Int.reduceToNat,Int.reduceEq,reduceCtorEq, *]
  | exact a7
  | first|apply a8|apply aL|apply ba|apply aM|apply bc|apply aN
  | refine aE ?_
  | first|refine aC rfl ?_|refine aD rfl ?_|refine ap rfl ?_ ?_|refine aG rfl (fun _=>?_) (fun _=>?_)|refine aF rfl (fun _=>?_) (fun _=>?_)
  | ((first|refine ao (fun _=>?_) (fun _=>?_)|refine au (fun _=>?_) (fun _=>?_))<;>try simp (config:={ maxSteps:=2000000 }) only [Kon,push_cast,reduceIte,Nat.reduceEqDiff,Nat.reduceAdd,Nat.reduceMul,Nat.reduceSub,Nat.reduceLT,Nat.reduceLeDiff,Int.reduceLT,Int.reduceLE,Int.reduceAdd,Int.reduceSub,Int.reduceNeg,Int.reduceToNat,Int.reduceEq,reduceCtorEq, *])
  | refine And.intro trivial ?_
  | refine And.intro (by omega) ?_
  | refine aI rfl (fun _=>?_) (fun _=>?_)
  | refine And.intro ?_ ?_
 refine uW (fun T2 L2=>T2=[(4,.int .i64 (n:Int)),(3,.int .i64 (c0:Int)),(0,.str u)]/\L=L2) ?_ ?_
 ·unfold k7 at hn;by_cases q1:240<=x
  ·rw [if_pos q1] at hn;cases hn;have c1:(240:Int)<=(x:Int):=by omega
   have w1:IntKind.i64.wrap ((x:Int) - 240)=((x - 240:Nat):Int):=by rw [ad (by omega) (by omega)];omega
   obtain ⟨d,hd⟩:=aea (x - 240);rw [hd] at w1 ⊢;clear q1 hd hmid;refine wk ?_;exact gT _ _ (CutL (b:=by simp)) ⟨rfl,rfl⟩
  rw [if_neg q1] at hn;have c1:¬ (240:Int)<=(x:Int):=by omega
  by_cases q2:224<=x
  ·rw [if_pos q2] at hn;cases hn;have c2:(224:Int)<=(x:Int):=by omega
   have w1:IntKind.i64.wrap ((x:Int) - 224)=((x - 224:Nat):Int):=by rw [ad (by omega) (by omega)];omega
   obtain ⟨d,hd⟩:=aea (x - 224);rw [hd] at w1 ⊢;clear q1 q2 hd hmid;refine wk ?_;exact gT _ _ (CutL (b:=by simp)) ⟨rfl,rfl⟩
  rw [if_neg q2] at hn;have c2:¬ (224:Int)<=(x:Int):=by omega
  by_cases q3:192<=x
  ·rw [if_pos q3] at hn;cases hn;have c3:(192:Int)<=(x:Int):=by omega
   have w1:IntKind.i64.wrap ((x:Int) - 192)=((x - 192:Nat):Int):=by rw [ad (by omega) (by omega)];omega
   obtain ⟨d,hd⟩:=aea (x - 192);rw [hd] at w1 ⊢;clear q1 q2 q3 hd hmid;refine wk ?_;exact gT _ _ (CutL (b:=by simp)) ⟨rfl,rfl⟩
  rw [if_neg q3] at hn;cases hn;have c3:¬ (192:Int)<=(x:Int):=by omega
  have c4:¬ (128:Int)<=(x:Int):=by omega
  clear q1 q2 q3 hmid;refine wk ?_;exact gT _ _ (CutL (b:=by simp)) ⟨rfl,rfl⟩
 rintro _ _ ⟨rfl,rfl⟩ -;clear hn hmid hxi w0;by_cases hsh:t.length+1<n
 ·have hI3:=hI2.out;rw [if_pos hsh] at hI3;have k1:(u.length:Int)<(n:Int):=by have:=hul.out;omega
  have e:=hid hI3.symm;clear hsh hI3;refine wk ?_;exact hbad.out e.out
 have hI3:=hI2.out;rw [if_neg hsh] at hI3;have k1:¬ (u.length:Int)<(n:Int):=by have:=hul.out;omega
 have hnu:n<=u.length:=by have:=hul.out;omega
 obtain ⟨o,ho⟩:=aea (K0 (n - 1) t c0);rw [ho] at hI3;replace hI3:=hid hI3;clear hI2;refine wk ?_;refine ai (fun m T' L'=>∃ (i c:Nat),m=n - i/\1<=i/\i<=n/\c<256 * 64 ^ (i - 1)/\Hid (K0 (n - i) (u.drop i) c=o)/\T'=[(5,.int .i64 (i:Int)),(4,.int .i64 (n:Int)),(3,.int .i64 (c:Int)),(0,.str u)]/\L=L') (CutS (b:=aeg _)) ⟨1,c0,rfl,aeg _,hn1,by simpa using hc0,hid (by rw [hdr 0];exact ho),rfl,rfl⟩ ?_;clear ho;rintro _ _ _ ⟨i,c,rfl,hi1,hin,hc,hO,rfl,rfl⟩;have hc4:c<67108864:=by
  refine afO hc ?_;have:i=1\/i=2\/i=3\/i=4:=by omega
  rcases this with rfl|rfl|rfl|rfl<;>decide
 by_cases hlt:i<n
 ·have g1:(i:Int)<(n:Int):=by omega
  have g2:(i:Int)<(u.length:Int):=by omega
  have g3:=aec i (by omega);obtain ⟨y,hy⟩:=aea (u.getD i 0);obtain ⟨z,hz⟩:=aea (y.toNat);have hz256:z<256:=by rw [<- hz];exact y.toNat_lt
  have hzi:(y.toNat:Int)=(z:Int):=by omega
  have hO2:=hO.out;rw [jm (show i<u.length by omega),hy,show n - i=(n - (i+1))+1 by omega,K0,hz] at hO2;have w1:IntKind.i64.wrap (z:Int)=(z:Int):=ad (by omega) (by omega);clear hz;by_cases hcn:128<=z/\z<192
  ·rw [if_pos hcn] at hO2;have k2:¬ (z:Int)<128:=by omega
   have k3:¬ (192:Int)<=(z:Int):=by omega
   have w2:IntKind.i64.wrap ((c:Int) * 64)=(c:Int) * 64:=ad (by omega) (by omega);have w3:IntKind.i64.wrap ((c:Int) * 64+(z:Int))=(c:Int) * 64+(z:Int):=ad (by omega) (by omega);have w4:IntKind.i64.wrap ((c:Int) * 64+(z:Int) - 128)=((c * 64+z - 128:Nat):Int):=by rw [ad (by omega) (by omega)];omega
   have hcc:c * 64+z - 128<256 * 64 ^ (i+1 - 1):=by
    have:i=1\/i=2\/i=3:=by omega
    rcases this with rfl|rfl|rfl<;>simp at hc ⊢<;>omega
   obtain ⟨c',hc'⟩:=aea (c * 64+z - 128);rw [hc'] at w4 hO2 hcc;replace hO2:=hid hO2;clear hcn hc';refine wk ?_;exact ag _ _ _ (by omega) (CutL (b:=by simp)) ⟨i+1,c',rfl,by omega,hlt,hcc,hO2,rfl,rfl⟩
  ·rw [if_neg hcn] at hO2;have hI4:=hI3.out;rw [<- hO2] at hI4;have e:=hid hI4.symm;by_cases k2:(z:Int)<128
   ·clear hcn hO2 hI4;refine wk ?_;exact hbad.out e.out
   ·have k3:(192:Int)<=(z:Int):=by omega
    clear hcn hO2 hI4;refine wk ?_;exact hbad.out e.out
 ·have hke:i=n:=by omega
  subst hke;have g1:¬ (i:Int)<(i:Int):=by omega
  have hO2:=hO.out;rw [afn,K0] at hO2;have hI4:=hI3.out;rw [<- hO2] at hI4;simp only [LP] at hI4;have e1:((i:Int)).toNat=i:=by omega
  have g2:(i:Int)<=(u.length:Int):=by omega
  have e2:(u.drop i).take (u.length - i)=u.drop i:=aeV (by simp);have e3:u.drop i=t.drop (i - 1):=by rw [<- hdr (i - 1),show i - 1+1=i by omega]
  have hb2:(i=2/\c<128\/i=3/\c<2048\/i=4/\c<65536\/1114111<c\/55296<=c/\c<57344)->R=false:=fun e=>by
   rw [decide_eq_false (fun hn=>hn e),afy] at hI4;exact hI4.symm
  have hg2:¬ (i=2/\c<128\/i=3/\c<2048\/i=4/\c<65536\/1114111<c\/55296<=c/\c<57344)->Px f (u.drop i)=R:=fun e=>by
   rw [decide_eq_true e,ae7] at hI4;rw [e3];exact hI4
  replace hb2:=hid hb2;replace hg2:=hid hg2;replace e3:=hid e3;clear hI4 hO2 hI3
  repeat' first
   | refine aY ?_
   | (first|refine aO (by kernel_rfl) ?_|refine aA (by kernel_rfl) ?_|refine aB ?_|refine bw ?_|refine a6 (fun _=>?_)|refine ax ?_|refine aR ?_)
     simp (config:={ maxSteps:=2000000 }) only [Kon,push_cast,reduceIte,Nat.reduceEqDiff,Nat.reduceAdd,Nat.reduceMul,Nat.reduceSub,Nat.reduceLT,Nat.reduceLeDiff,Int.reduceLT,Int.reduceLE,Int.reduceAdd,Int.reduceSub,Int.reduceNeg,Int.reduceToNat,Int.reduceEq,reduceCtorEq, *]
   | (first|refine aK (by kernel_rfl) ?_|refine aP ?_|refine aQ ?_|refine bd (aw ?_))
     simp only [push_cast,reduceIte,Nat.reduceEqDiff,Nat.reduceAdd,Nat.reduceMul,Nat.reduceSub,Nat.reduceLT,Nat.reduceLeDiff,Int.reduceLT,Int.reduceLE,Int.reduceAdd,Int.reduceSub,Int.reduceNeg,Int.reduceToNat,Int.reduceEq,reduceCtorEq, *]
   | exact a7
   | first|apply a8|apply aL|apply ba|apply aM|apply bc|apply aN
   | refine aE ?_
   | first|refine aC rfl ?_|refine aD rfl ?_|refine ap rfl ?_ ?_|refine aG rfl (fun _=>?_) (fun _=>?_)|refine aF rfl (fun _=>?_) (fun _=>?_)
   | ((first|refine ao (fun _=>?_) (fun _=>?_)|refine au (fun _=>?_) (fun _=>?_))<;>try simp (config:={ maxSteps:=2000000 }) only [Kon,push_cast,reduceIte,Nat.reduceEqDiff,Nat.reduceAdd,Nat.reduceMul,Nat.reduceSub,Nat.reduceLT,Nat.reduceLeDiff,Int.reduceLT,Int.reduceLE,Int.reduceAdd,Int.reduceSub,Int.reduceNeg,Int.reduceToNat,Int.reduceEq,reduceCtorEq, *])
   | refine And.intro trivial ?_
   | refine And.intro (by omega) ?_
   | refine aI rfl (fun _=>?_) (fun _=>?_)
   | refine And.intro ?_ ?_
  ·rename_i hx
   exact hbad.out (hb2.out (by omega))
  ·rename_i hx
   refine ag _ _ _ (by omega) (CutL (b:=aeg _)) ⟨f,u.drop i,rfl,?_,hid ⟨?_,hg2.out (by omega)⟩,rfl,rfl⟩
   ·simp;omega
   ·simp;omega
def Iy (s:List UInt8):Bool:=s.all fM && decide (0<s.length)
theorem eP {s:List UInt8} (hs:s.length<=1100000) {L:List Blk} {K:aef} (h:K (.bool (Iy s)) L):aee 89 [.str s] L K:=by
 have no:s.all fM=false->K (.bool false) L:=fun e=>by have h':=h;rwa [Iy,e,afy] at h'
 replace no:=hid no;replace h:=hid h;refine aed NW ?_;refine ai (fun n T' L'=>∃ i:Nat,n=s.length - i/\i<=s.length/\Hid ((s.take i).all fM=true)/\T'=[(3,.int .i64 (i:Int)),(0,.str s)]/\L=L') (CutS (b:=aeg _)) ⟨0,rfl,aej _,hid rfl,rfl,rfl⟩ ?_;rintro _ _ _ ⟨i,rfl,hi,hall,rfl,rfl⟩;by_cases hlt:i<s.length
 ·have g1:(i:Int)<(s.length:Int):=by omega
  have g2:=aec i (by omega);obtain ⟨c,hc⟩:=aea (s.getD i 0);have hm:c∈s:=by rw [<- hc];simp [hlt]
  have htk:s.take (i+1)=s.take i++[c]:=by rw [aeL hlt,<- hc];simp [hlt]
  have bad:=hid fun (e:fM c=false)=>no.out (agW.2 ⟨c,hm,by rw [e];simp⟩)
  have good:=hid fun (e:fM c=true)=>show (s.take (i+1)).all fM=true by rw [htk,agG,hall.out];simp [e]
  clear hm htk
  repeat' first
   | refine aY ?_
   | (first|refine aO (by kernel_rfl) ?_|refine aA (by kernel_rfl) ?_|refine aB ?_|refine bw ?_|refine a6 (fun _=>?_)|refine ax ?_|refine aR ?_)
     refine sm ?_
   | (first|refine aK (by kernel_rfl) ?_|refine aP ?_|refine aQ ?_|refine bd (aw ?_))
     refine sl ?_
   | exact a7
   | first|apply a8|apply aL|apply ba|apply aM|apply bc|apply aN
   | refine aE ?_
   | first|refine aC rfl ?_|refine aD rfl ?_|refine ap rfl ?_ ?_|refine aG rfl (fun _=>?_) (fun _=>?_)|refine aF rfl (fun _=>?_) (fun _=>?_)
   | ((first|refine ao (fun _=>?_) (fun _=>?_)|refine au (fun _=>?_) (fun _=>?_))<;>try refine sm ?_)
   | refine And.intro trivial ?_
   | refine And.intro (by omega) ?_
   | refine aI rfl (fun _=>?_) (fun _=>?_)
   | refine And.intro ?_ ?_
  ·rename_i hx
   refine ac (bad.out ?_);simp only [fM,agF,decide_eq_false_iff_not];omega
  ·rename_i hx
   refine ag _ _ _ (by omega) (CutL (b:=aeg _)) ⟨i+1,rfl,by omega,hid (good.out ?_),rfl,rfl⟩;simp only [fM,aek,decide_eq_true_eq];omega
 ·have hke:i=s.length:=by omega
  subst hke;have g1:¬ (s.length:Int)<(s.length:Int):=by omega
  have hda:=hall.out;rw [aeE] at hda;have h':=h.out;rw [Iy,hda,ae7,show decide (0<s.length)=decide ((0:Int)<(s.length:Int)) by simp] at h';replace h':=hid h';clear hda;refine wk ?_;exact ac h'.out
def Tr (s:List UInt8):Nat:=s.foldl (fun n c=>10 * n+(c.toNat - 48)) 0
theorem ach {s:List UInt8} (hs:s.length<=4) (hd:∀ c∈s,fM c=true) (h:K (.int .i64 (Tr s:Nat)) L):aee 92 [.str s] L K:=by
 replace h:=hid h;replace hd:=hid hd;refine aed Ru ?_;refine ai (fun m T' L'=>∃ (i n:Nat),m=s.length - i/\i<=s.length/\n<10 ^ i/\Hid (n=Tr (s.take i))/\T'=[(4,.int .i64 (i:Int)),(3,.int .i64 (n:Int)),(0,.str s)]/\L=L') (CutS (b:=aeg _)) ⟨0,0,rfl,aej _,by decide,hid rfl,rfl,rfl⟩ ?_;rintro _ _ _ ⟨i,n,rfl,hi,hn,hI,rfl,rfl⟩;by_cases hlt:i<s.length
 ·have g1:(i:Int)<(s.length:Int):=by omega
  have g2:=aec i (by omega);obtain ⟨c,hc⟩:=aea (s.getD i 0);have hm:=hd.out c (by rw [<- hc];simp [hlt]);simp only [fM,aek,decide_eq_true_eq] at hm;have htk:s.take (i+1)=s.take i++[c]:=by rw [aeL hlt,<- hc];simp [hlt]
  obtain ⟨x,hx⟩:∃ x:Nat,c.toNat=48+x:=⟨c.toNat - 48,by omega⟩;have hx9:x<=9:=by omega
  have hxi:(c.toNat:Int)=48+(x:Int):=by omega
  have hn4:n<1000:=by
   refine afO hn ?_;have:i=0\/i=1\/i=2\/i=3:=by omega
   rcases this with rfl|rfl|rfl|rfl<;>decide
  have hnx:Tr (s.take (i+1))=10 * n+x:=by
   rw [htk,Tr,agq,<- Tr,<- hI.out];simp only [afq,agu];omega
  have w1:IntKind.u8.wrap (48+(x:Int) - 48)=(x:Int):=by rw [cx (by omega) (by omega)];omega
  have w2:IntKind.i64.wrap (x:Int)=(x:Int):=ad (by omega) (by omega);have w3:IntKind.i64.wrap (10 * (n:Int))=10 * (n:Int):=ad (by omega) (by omega);have w4:IntKind.i64.wrap (10 * (n:Int)+(x:Int))=10 * (n:Int)+(x:Int):=ad (by omega) (by omega);have hnn:10 * n+x<10 ^ (i+1):=by rw [agM];omega
  replace hnx:=hid hnx;clear hm htk hx;refine wk ?_;exact ag _ _ _ (by omega) (CutL (b:=aeg _)) ⟨i+1,10 * n+x,rfl,by omega,hnn,hid hnx.out.symm,rfl,rfl⟩
 ·have hke:i=s.length:=by omega
  subst hke;have g1:¬ (s.length:Int)<(s.length:Int):=by omega
  have e:=hI.out;rw [aeE] at e;have h':=h.out;rw [<- e] at h';replace h':=hid h';clear e hI;refine wk ?_;exact ac h'.out
abbrev ZD:List UInt8:=[57,50,50,51,51,55,50,48,51,54,56,53,52,55,55,53,56,48,55]
abbrev ZE:List UInt8:=[57,50,50,51,51,55,50,48,51,54,56,53,52,55,55,53,56,48,56]
def UD (w most:List UInt8):Bool:=Iy w && !decide (w.getD 0 0=48) && (decide (w.length<19) || decide (w.length=19) && (Op.bytesLess w most || decide (w=most)))
def Zx (v:List UInt8):Bool:=if v=[48] then true else match v with
 | []=>false
 | c::t=>if c=45 then UD t ZE else UD (c::t) ZD
theorem Pj {w most:List UInt8} (hw:w.length<=1100000):UD w most=(if Iy w=true then (!decide (w.getD 0 0=48) && (decide (w.length<19) || decide (w.length=19) && (Op.bytesLess w most || decide (w=most)))) else false):=by
 unfold UD;cases Iy w<;>rfl
theorem So {v:List UInt8} (hv:v.length<=1100000) (h:K (.bool (Zx v)) L):aee 63 [.str v] L K:=by
 unfold Zx at h;refine af NU (by simp [mM]) ?_;simp only [mM,aq];by_cases h0:v=[48]
 ·rw [if_pos h0] at h;replace h:=hid h;refine wk ?_;exact ac h.out
 rw [if_neg h0] at h;have dg:∀ w:List UInt8,Iy w=true->(0:Int)<(w.length:Int):=fun w e=>by
  simp only [Iy,aek,decide_eq_true_eq] at e;omega
 rcases v with _|⟨c,t⟩
 ·simp only at h;replace h:=hid h;have e0:Iy []=false:=rfl;have e1:([]:List UInt8).length=0:=rfl;have kk1:=@hid _ (fun L K=>eP hv (L:=L) (K:=K));refine wk ?_;exact ac h.out
 simp only at h;have hl:(c::t).length=t.length+1:=rfl;have hc0:(c::t).getD 0 0=c:=rfl;have hd1:(c::t).drop 1=t:=rfl;simp only [aet] at hv;have htl:t.length<=1100000:=by omega
 have q7:t.take (((t.length:Int)+1).toNat - 1)=t:=by rw [show ((t.length:Int)+1).toNat - 1=t.length by omega,aeE]
 have q8:(0:Int)<(t.length:Int)+1:=by omega
 by_cases h45:c=45
 ·rw [if_pos h45,Pj htl] at h;subst h45;have k1:((45:UInt8).toNat:Int)=45:=rfl;cases hd:Iy t with
  | false =>
    rw [hd,if_neg (by simp)] at h;replace h:=hid h;have kk1:=@hid _ (fun L K=>eP htl (L:=L) (K:=K));refine wk ?_;exact ac h.out
  | true =>
    rw [hd,if_pos rfl] at h;obtain ⟨x,hx⟩:=aea (t.getD 0 0);rw [hx,show decide (x=48)=decide ((x.toNat:Int)=48) by rw [decide_eq_decide];exact (bo x 48).symm,show decide (t.length<19)=decide ((t.length:Int)<19) by simp;omega,show decide (t.length=19)=decide ((t.length:Int)=19) by rw [decide_eq_decide];omega] at h;replace h:=hid h;have g1:=dg t hd
    repeat' first
     | refine aY ?_
     | (first|refine aO (by kernel_rfl) ?_|refine aA (by kernel_rfl) ?_|refine aB ?_|refine bw ?_|refine a6 (fun _=>?_)|refine ax ?_|refine aR ?_|refine eP htl ?_|refine bj (eP htl ⟨rfl,rfl⟩) (eP htl ⟨rfl,rfl⟩) ?_|refine aS (eP htl ⟨rfl,rfl⟩) ?_)
       refine sm ?_
     | (first|refine aK (by kernel_rfl) ?_|refine aP ?_|refine aQ ?_|refine bd (aw ?_))
       refine sl ?_
     | exact a7
     | first|apply a8|apply aL|apply ba|apply aM|apply bc|apply aN
     | refine aE ?_
     | first|refine aC rfl ?_|refine aD rfl ?_|refine ap rfl ?_ ?_|refine aG rfl (fun _=>?_) (fun _=>?_)|refine aF rfl (fun _=>?_) (fun _=>?_)
     | ((first|refine ao (fun _=>?_) (fun _=>?_)|refine au (fun _=>?_) (fun _=>?_))<;>try refine sm ?_)
     | refine And.intro trivial ?_
     | refine And.intro (by omega) ?_
     | refine aI rfl (fun _=>?_) (fun _=>?_)
     | refine And.intro ?_ ?_
    exact ac h.out
 ·rw [if_neg h45,Pj (by simp;omega)] at h;have k1:¬ (c.toNat:Int)=45:=fun e=>h45 ((bo c 45).1 e)
  obtain ⟨v,hv2⟩:=aea (c::t);rw [hv2] at h hl hc0 h0 ⊢;have hvl:v.length<=1100000:=by omega
  have g0:(0:Int)<(v.length:Int):=by omega
  replace hv2:=hid hv2;clear hd1 hl q7 q8;cases hd:Iy v with
  | false =>
    rw [hd,if_neg (by simp)] at h;replace h:=hid h;have kk1:=@hid _ (fun L K=>eP hvl (L:=L) (K:=K));refine wk ?_;exact ac h.out
  | true =>
    rw [hd,if_pos rfl] at h;rw [hc0,show decide (c=48)=decide ((c.toNat:Int)=48) by rw [decide_eq_decide];exact (bo c 48).symm,show decide (v.length<19)=decide ((v.length:Int)<19) by simp;omega,show decide (v.length=19)=decide ((v.length:Int)=19) by rw [decide_eq_decide];omega] at h;replace h:=hid h
    repeat' first
     | refine aY ?_
     | (first|refine aO (by kernel_rfl) ?_|refine aA (by kernel_rfl) ?_|refine aB ?_|refine bw ?_|refine a6 (fun _=>?_)|refine ax ?_|refine aR ?_|refine eP hvl ?_|refine bj (eP hvl ⟨rfl,rfl⟩) (eP hvl ⟨rfl,rfl⟩) ?_|refine aS (eP hvl ⟨rfl,rfl⟩) ?_)
       refine sm ?_
     | (first|refine aK (by kernel_rfl) ?_|refine aP ?_|refine aQ ?_|refine bd (aw ?_))
       refine sl ?_
     | exact a7
     | first|apply a8|apply aL|apply ba|apply aM|apply bc|apply aN
     | refine aE ?_
     | first|refine aC rfl ?_|refine aD rfl ?_|refine ap rfl ?_ ?_|refine aG rfl (fun _=>?_) (fun _=>?_)|refine aF rfl (fun _=>?_) (fun _=>?_)
     | ((first|refine ao (fun _=>?_) (fun _=>?_)|refine au (fun _=>?_) (fun _=>?_))<;>try refine sm ?_)
     | refine And.intro trivial ?_
     | refine And.intro (by omega) ?_
     | refine aI rfl (fun _=>?_) (fun _=>?_)
     | refine And.intro ?_ ?_
    exact ac h.out
def d9 (n:Nat) (s:List UInt8):Nat:=s.foldl (fun n c=>10 * n+(c.toNat - 48)) n
theorem Qe {c:UInt8} (h:fM c=true):∃ d,d<=9/\c.toNat=48+d:=by
 simp only [fM,aek,decide_eq_true_eq] at h;exact ⟨c.toNat - 48,by omega,by omega⟩
theorem tQ:∀ (s:List UInt8) (n:Nat),d9 n s=n * 10 ^ s.length+d9 0 s
 | [],n=>by simp [d9]
 | c::s,n=>by
   have h1:=tQ s (10 * n+(c.toNat - 48));have h2:=tQ s (10 * 0+(c.toNat - 48));simp only [d9,afq] at h1 h2 ⊢;rw [h1,h2,aet,agM];rw [Nat.mul_zero,afJ,afc,Nat.mul_comm (10 ^ s.length) 10,<- Nat.mul_assoc,Nat.mul_comm n 10];omega
theorem Hv:∀ (s:List UInt8),(∀ c∈s,fM c=true)->d9 0 s<10 ^ s.length
 | [],_=>by simp [d9]
 | c::s,h=>by
   have ih:=Hv s fun d hd=>h d (af0 _ hd)
   obtain ⟨d,hd,hc⟩:=Qe (h c (by simp));have e:=tQ s (10 * 0+(c.toNat - 48));simp only [d9,afq] at e ih ⊢;rw [e,aet,agM,hc];have:(10 * 0+(48+d - 48)) * 10 ^ s.length<=9 * 10 ^ s.length:=afh _ (by omega);omega
theorem Oe:∀ (a b:List UInt8),(∀ c∈a,fM c=true)->(∀ c∈b,fM c=true)->a.length=b.length->(a<b↔d9 0 a<d9 0 b)
 | [],[],_,_,_=>by simp [d9]
 | [],_::_,_,_,h=>by simp at h
 | _::_,[],_,_,h=>by simp at h
 | x::a,y::b,ha,hb,hl=>by
   simp only [aet,Nat.add_right_cancel_iff] at hl;have ha':=fun c hc=>ha c (af0 _ hc)
   have hb':=fun c hc=>hb c (af0 _ hc)
   have ih:=Oe a b ha' hb' hl;have la:=Hv a ha';have lb:=Hv b hb';obtain ⟨d,hd,hx⟩:=Qe (ha x (by simp));obtain ⟨e,he,hy⟩:=Qe (hb y (by simp));have ea:d9 0 (x::a)=d * 10 ^ a.length+d9 0 a:=by
    have:=tQ a (10 * 0+(x.toNat - 48));rw [hx,show 10 * 0+(48+d - 48)=d by omega] at this;rw [<- this];simp only [d9,afq,hx];congr 1;omega
   have eb:d9 0 (y::b)=e * 10 ^ b.length+d9 0 b:=by
    have:=tQ b (10 * 0+(y.toNat - 48));rw [hy,show 10 * 0+(48+e - 48)=e by omega] at this;rw [<- this];simp only [d9,afq,hy];congr 1;omega
   rw [ea,eb,List.cons_lt_cons_iff,ih,hl];rw [hl] at la;have hxy:x<y↔d<e:=by
    show x.toNat<y.toNat↔_
    omega
   have hxe:x=y↔d=e:=by rw [<- afZ];omega
   rw [hxy,hxe];obtain ⟨p,hp⟩:=aea (10 ^ b.length);rw [hp] at la lb ⊢;rcases agQ d e with h|h|h
   ·have:(d+1) * p<=e * p:=afh _ h;rw [afc] at this;constructor
    ·intro _;omega
    ·intro _;exact .inl h
   ·subst h;constructor
    ·rintro (h|⟨_,h⟩)
     ·omega
     ·omega
    ·intro h;exact .inr ⟨rfl,by omega⟩
   ·have:(e+1) * p<=d * p:=afh _ h;rw [afc] at this;constructor
    ·rintro (h|⟨h,_⟩)<;>omega
    ·intro h;omega
theorem abO:∀ u:Nat,d9 0 (Lib.decDigits u)=u/\(∀ c∈Lib.decDigits u,fM c=true)/\u<10 ^ (Lib.decDigits u).length/\(1<=u->10 ^ ((Lib.decDigits u).length - 1)<=u):=by
 intro u
 induction u using Nat.strongRecOn with
 | _ u ih =>
   by_cases h10:u<10
   ·have hd:(UInt8.ofNat (48+u)).toNat=48+u:=u8n (by omega);rw [Lib.decDigits,dif_pos h10];refine ⟨?_,?_,?_,?_⟩
    ·simp only [d9,afq,agu,hd];omega
    ·intro c hc;rw [aeO.1 hc];simp only [fM,hd,aek,decide_eq_true_eq];omega
    ·simpa using h10
    ·intro h;simpa using h
   ·obtain ⟨i1,i2,i3,i4⟩:=ih (u / 10) (by omega);have hd:(UInt8.ofNat (48+u % 10)).toNat=48+u % 10:=u8n (by omega);rw [Lib.decDigits,dif_neg h10];refine ⟨?_,?_,?_,?_⟩
    ·unfold d9 at i1 ⊢;rw [agq,i1];simp only [afq,agu,hd];omega
    ·intro c hc;rcases aeo.1 hc with h|h
     ·exact i2 c h
     ·rw [aeO.1 h];simp only [fM,hd,aek,decide_eq_true_eq];omega
    ·rw [aeF,agR,agM];omega
    ·intro _;have:=i4 (by omega);rw [aeF,agR,Nat.add_sub_cancel];obtain ⟨c,r,e,_⟩:=tY (u / 10);have hl:1<=(Lib.decDigits (u / 10)).length:=by rw [e];simp
     obtain ⟨k,hk⟩:∃ k,(Lib.decDigits (u / 10)).length=k+1:=⟨(Lib.decDigits (u / 10)).length - 1,by omega⟩;rw [hk] at this ⊢;rw [Nat.add_sub_cancel] at this;rw [agM];omega
theorem ade:∀ (n:Nat) (w:List UInt8),w.length=n->(∀ c∈w,fM c=true)->w≠[]->w.getD 0 0≠48->1<=d9 0 w/\Lib.decDigits (d9 0 w)=w:=by
 intro n
 induction n with
 | zero=>intro w hl _ hne;exact absurd (ae3.1 hl) hne
 | succ n ih =>
   intro w hl hd hne h48;obtain ⟨t,c,rfl⟩:∃ t c,w=t++[c]:=⟨w.dropLast,w.getLast hne,(List.dropLast_concat_getLast hne).symm⟩;obtain ⟨d,hd9,hc⟩:=Qe (hd c (by simp));have hcc:UInt8.ofNat (48+d)=c:=by rw [<- hc];simp
   have ev:d9 0 (t++[c])=10 * d9 0 t+d:=by
    simp only [d9,agq,afq,agu,hc];omega
   rcases t with _|⟨x,t⟩
   ·have:d≠0:=fun e=>h48 (by
     simp only [aeR,aft];exact afZ.1 (by rw [hc,e];rfl))
    have e0:d9 0 ([]:List UInt8)=0:=rfl;rw [ev,e0];refine ⟨by omega,?_⟩;rw [Lib.decDigits,dif_pos (by omega),show 48+(10 * 0+d)=48+d by omega,hcc];rfl
   ·obtain ⟨j1,j2⟩:=ih (x::t) (by simpa using hl) (fun c hc=>hd c (agn _ hc)) (by simp) (by simpa using h48);rw [ev];refine ⟨by omega,?_⟩;rw [Lib.decDigits,dif_neg (by omega),show (10 * d9 0 (x::t)+d) / 10=d9 0 (x::t) by omega,show (10 * d9 0 (x::t)+d) % 10=d by omega,j2,hcc]
theorem UC {w most:List UInt8} {M:Nat} (hm:d9 0 most=M) (hml:most.length=19) (hmd:∀ c∈most,fM c=true) (hM:10 ^ 18<=M):UD w most=true↔∃ u,1<=u/\u<=M/\w=Lib.decDigits u:=by
 have hM19:M<10 ^ 19:=by rw [<- hm,<- hml];exact Hv most hmd
 have le19:∀ w:List UInt8,(∀ c∈w,fM c=true)->w.length=19->((Op.bytesLess w most || decide (w=most))=true↔d9 0 w<=M):=fun w hw hl=>by
  rw [bytesLess_eq];simp only [ae6,decide_eq_true_eq];have h1:=Oe w most hw hmd (by rw [hl,hml]);have h2:=Oe most w hmd hw (by rw [hl,hml]);rw [hm] at h1 h2;rw [h1];constructor
  ·rintro (h|rfl)
   ·omega
   ·omega
  ·intro h;rcases aer (d9 0 w) M with h3|h3
   ·exact .inl h3
   ·refine .inr (List.le_antisymm (afz.1 fun h4=>?_) (afz.1 fun h4=>?_))
    ·have:=h2.1 h4;omega
    ·have:=h1.1 h4;omega
 unfold UD Iy;simp only [aek,ae6,ae2,decide_eq_false_iff_not,decide_eq_true_eq,ael];constructor
 ·rintro ⟨⟨⟨hd,hpos⟩,h48⟩,hlen⟩;obtain ⟨h1,h2⟩:=ade _ w rfl hd (by rintro rfl;simp at hpos) h48;refine ⟨d9 0 w,h1,?_,h2.symm⟩;rcases hlen with hlt|⟨heq,hle⟩
  ·have:=Hv w hd;have h3:10 ^ w.length<=10 ^ 18:=Nat.pow_le_pow_right (by decide) (by omega);omega
  ·have:=(le19 w hd heq).1 (by simpa using hle);exact this
 ·rintro ⟨u,h1,h2,rfl⟩;obtain ⟨k1,k2,k3,k4⟩:=abO u;obtain ⟨c,r,e,c1,c2,c3⟩:=tY u;have hl19:(Lib.decDigits u).length<=19:=by
   rcases aer 19 (Lib.decDigits u).length with h|h
   ·have h5:=k4 h1;have h6:10 ^ 19<=10 ^ ((Lib.decDigits u).length - 1):=Nat.pow_le_pow_right (by decide) (by omega);omega
   ·exact h
  refine ⟨⟨⟨k2,by rw [e];simp⟩,?_⟩,?_⟩
  ·rw [e];simp only [aft];intro h;have:=c3 (by rw [h];rfl);omega
  ·rcases aer (Lib.decDigits u).length 19 with h|h
   ·exact .inl h
   ·have hl:(Lib.decDigits u).length=19:=by omega
    refine .inr ⟨hl,?_⟩;have:=(le19 _ k2 hl).2 (by rw [k1];exact h2);simpa using this
theorem VT (w:List UInt8):UD w ZD=true↔∃ u,1<=u/\u<=9223372036854775807/\w=Lib.decDigits u:=UC (by decide) (by decide) (by decide) (by decide)
theorem VU (w:List UInt8):UD w ZE=true↔∃ u,1<=u/\u<=9223372036854775808/\w=Lib.decDigits u:=UC (by decide) (by decide) (by decide) (by decide)
theorem Zw (v:List UInt8):Zx v=true↔∃ m,I64 m/\Lib.itoa m=v:=by
 unfold Zx;by_cases h0:v=[48]
 ·rw [if_pos h0];refine ⟨fun _=>⟨0,by unfold I64;omega,?_⟩,fun _=>rfl⟩;rw [h0,Lib.itoa,if_neg (by decide),Lib.decDigits,dif_pos (by decide)];rfl
 rw [if_neg h0];have hz:Lib.itoa 0=[48]:=by rw [Lib.itoa,if_neg (by decide),Lib.decDigits,dif_pos (by decide)];rfl
 rcases v with _|⟨c,t⟩
 ·simp only [aez,false_iff];rintro ⟨m,_,e⟩;obtain ⟨c,r,e',_⟩:=XV m;rw [e'] at e;cases e
 simp only;by_cases h45:c=45
 ·rw [if_pos h45,VU];subst h45;constructor
  ·rintro ⟨u,h1,h2,rfl⟩;refine ⟨-(u:Int),by unfold I64;omega,?_⟩;rw [Lib.itoa,if_pos (by omega),show (-(u:Int)).natAbs=u by omega]
  ·rintro ⟨m,hm,e⟩;unfold I64 at hm;by_cases hneg:m<0
   ·rw [Lib.itoa,if_pos hneg] at e;exact ⟨m.natAbs,by omega,by omega,(List.cons.inj e).2.symm⟩
   ·rw [Lib.itoa,if_neg hneg] at e;obtain ⟨c,r,e',c1,c2,_⟩:=tY m.toNat;rw [e'] at e;have:=(List.cons.inj e).1;rw [this] at c1;exact absurd c1 (by decide)
 ·rw [if_neg h45,VT];constructor
  ·rintro ⟨u,h1,h2,e⟩;refine ⟨(u:Int),by unfold I64;omega,?_⟩;rw [e,Lib.itoa,if_neg (by omega)];congr 1
  ·rintro ⟨m,hm,e⟩;unfold I64 at hm;by_cases hneg:m<0
   ·rw [Lib.itoa,if_pos hneg] at e;exact absurd (List.cons.inj e).1.symm h45
   ·have hm0:m≠0:=fun e0=>h0 (by rw [<- e,e0,hz])
    rw [Lib.itoa,if_neg hneg] at e;exact ⟨m.toNat,by omega,by omega,e.symm⟩
theorem XO (v:List UInt8):tT v=true↔∃ m,I64 m/\Lib.itoa m=v:=by
 constructor
 ·intro h;unfold tT at h;split at h
  ·rename_i n hn
   exact ⟨n,Pi hn,by simpa using h⟩
  ·cases h
 ·rintro ⟨m,hm,rfl⟩;exact (Zv hm).1
theorem acH (v:List UInt8):Zx v=tT v:=by
 exact Bool.eq_iff_iff.2 ((Zw v).trans (XO v).symm)
def Cn (x:Nat):Prop:=128<=x/\x<192
instance (x:Nat):Decidable (Cn x):=by unfold Cn;infer_instance
def NY (n b0 b1:Nat):Prop:=n<2\/¬ Cn b1\/(b0 - 192) * 64+b1 - 128<128
def RF (n b0 b1 b2:Nat):Prop:=n<3\/¬ Cn b1\/¬ Cn b2\/((b0 - 224) * 64+b1 - 128) * 64+b2 - 128<2048\/55296<=((b0 - 224) * 64+b1 - 128) * 64+b2 - 128/\((b0 - 224) * 64+b1 - 128) * 64+b2 - 128<57344
def PZ (n b0 b1 b2 b3:Nat):Prop:=n<4\/¬ Cn b1\/¬ Cn b2\/¬ Cn b3\/(((b0 - 240) * 64+b1 - 128) * 64+b2 - 128) * 64+b3 - 128<65536\/1114111<(((b0 - 240) * 64+b1 - 128) * 64+b2 - 128) * 64+b3 - 128
instance (n b0 b1:Nat):Decidable (NY n b0 b1):=by unfold NY;infer_instance
instance (n b0 b1 b2:Nat):Decidable (RF n b0 b1 b2):=by unfold RF;infer_instance
instance (n b0 b1 b2 b3:Nat):Decidable (PZ n b0 b1 b2 b3):=by unfold PZ;infer_instance
def VC (n b0 b1 b2 b3:Nat):Nat :=
 if b0<128 then 1 else if b0<192 then 0
 else if b0<224 then (if NY n b0 b1 then 0 else 2)
 else if b0<240 then (if RF n b0 b1 b2 then 0 else 3)
 else (if PZ n b0 b1 b2 b3 then 0 else 4)
set_option maxRecDepth 100000 in
set_option maxHeartbeats 4000000 in
theorem Uf (n b0 b1 b2 b3:Nat) (h0:b0<256) (h1:b1<256) (h2:b2<256) (h3:b3<256) :
  (VC n b0 b1 b2 b3=0/\Lib.decodeN n b0 b1 b2 b3=(65533,1))\/(1<=VC n b0 b1 b2 b3/\(Lib.decodeN n b0 b1 b2 b3).2=VC n b0 b1 b2 b3/\¬ ((Lib.decodeN n b0 b1 b2 b3).1=65533/\(Lib.decodeN n b0 b1 b2 b3).2=1)):=by
 unfold VC Lib.decodeN;by_cases c1:b0<128
 ·rw [if_pos c1,if_pos c1];right;exact ⟨by omega,rfl,fun h=>by have h1:b0=65533:=h.1;omega⟩
 rw [if_neg c1,if_neg c1];by_cases c2:b0<192
 ·rw [if_pos c2,if_neg (by omega),if_neg (by omega),if_neg (by omega)];exact .inl ⟨rfl,rfl⟩
 rw [if_neg c2];by_cases c3:b0<224
 ·rw [if_pos c3];by_cases hA:NY n b0 b1
  ·rw [if_pos hA];refine .inl ⟨rfl,?_⟩;unfold NY Cn at hA;by_cases hc:b0 / 32=6/\(1<n/\b1 / 64=2)
   ·rw [if_pos hc,if_neg (by omega)]
   ·rw [if_neg hc,if_neg (by omega),if_neg (by omega)]
  ·rw [if_neg hA];unfold NY Cn at hA;rw [if_pos (by omega),if_pos (by omega)];exact .inr ⟨by omega,rfl,fun h=>by have h2:(2:Nat)=1:=h.2;omega⟩
 rw [if_neg c3];by_cases c4:b0<240
 ·rw [if_pos c4,if_neg (show ¬ (b0 / 32=6/\(1<n/\b1 / 64=2)) by omega)];by_cases hA:RF n b0 b1 b2
  ·rw [if_pos hA];refine .inl ⟨rfl,?_⟩;unfold RF Cn at hA;by_cases hc:b0 / 16=14/\(1<n/\b1 / 64=2)/\(2<n/\b2 / 64=2)
   ·rw [if_pos hc,if_neg (by omega)]
   ·rw [if_neg hc,if_neg (by omega)]
  ·rw [if_neg hA];unfold RF Cn at hA;rw [if_pos (by omega),if_pos (by omega)];exact .inr ⟨by omega,rfl,fun h=>by have h2:(3:Nat)=1:=h.2;omega⟩
 ·rw [if_neg c4,if_neg (show ¬ (b0 / 32=6/\(1<n/\b1 / 64=2)) by omega),if_neg (show ¬ (b0 / 16=14/\(1<n/\b1 / 64=2)/\(2<n/\b2 / 64=2)) by omega)];by_cases hA:PZ n b0 b1 b2 b3
  ·rw [if_pos hA];refine .inl ⟨rfl,?_⟩;unfold PZ Cn at hA;by_cases hc:b0 / 8=30/\(1<n/\b1 / 64=2)/\(2<n/\b2 / 64=2)/\(3<n/\b3 / 64=2)
   ·rw [if_pos hc,if_neg (by omega)]
   ·rw [if_neg hc]
  ·rw [if_neg hA];unfold PZ Cn at hA;rw [if_pos (by omega),if_pos (by omega)];exact .inr ⟨by omega,rfl,fun h=>by have h2:(4:Nat)=1:=h.2;omega⟩
theorem YQ (b:UInt8) (t:List UInt8) (f:Nat):Px (f+1) (b::t)=if VC (t.length+1) b.toNat (t.getD 0 0).toNat (t.getD 1 0).toNat (t.getD 2 0).toNat=0 then false else Px f ((b::t).drop (VC (t.length+1) b.toNat (t.getD 0 0).toNat (t.getD 1 0).toNat (t.getD 2 0).toNat)):=by
 have hb:=b.toNat_lt;rw [Px];obtain ⟨x,hx⟩:=aea (b.toNat);rw [hx] at hb ⊢;unfold VC;by_cases c1:x<128
 ·have e1:¬ (128<=x/\x<192):=by omega
  have hh:k7 x=(1,x):=by unfold k7;rw [if_neg (by omega),if_neg (by omega),if_neg (by omega)]
  rw [hh,if_neg e1,if_pos c1];simp only [K0,afn,afY];rw [if_neg (by omega),if_neg (by omega),show LP 1 x=true from decide_eq_true (by omega)];rfl
 by_cases c2:x<192
 ·simp [c1,c2,show 128<=x by omega]
 have e1:¬ (128<=x/\x<192):=by omega
 rw [if_neg e1,if_neg c1,if_neg c2];by_cases c3:x<224
 ·have hh:k7 x=(2,x - 192):=by unfold k7;rw [if_neg (by omega),if_neg (by omega),if_pos (by omega)]
  rw [if_pos c3,hh];simp only [show 2 - 1=1 from rfl];rcases t with _|⟨y,t⟩
  ·simp [NY]
  ·simp only [aet,aft,K0];rw [if_neg (by omega)];by_cases hA:NY (t.length+1+1) x y.toNat
   ·simp only [if_pos hA,if_true];by_cases hy:128<=y.toNat/\y.toNat<192
    ·simp only [if_pos hy];unfold NY Cn at hA;rw [show LP 2 ((x - 192) * 64+y.toNat - 128)=false from decide_eq_false (by omega)];rfl
    ·simp only [if_neg hy]
   ·simp only [if_neg hA];unfold NY Cn at hA;simp only [if_pos (show 128<=y.toNat/\y.toNat<192 by omega),Nat.reduceEqDiff,if_false];rw [show LP 2 ((x - 192) * 64+y.toNat - 128)=true from decide_eq_true (by omega)];rfl
 ·rw [if_neg c3];by_cases c4:x<240
  ·have hh:k7 x=(3,x - 224):=by unfold k7;rw [if_neg (by omega),if_pos (by omega)]
   rw [if_pos c4,hh];simp only [show 3 - 1=2 from rfl];rcases t with _|⟨y,_|⟨z,t⟩⟩
   ·simp [RF]
   ·simp [RF]
   ·simp only [aet,aft,afS,K0];rw [if_neg (by omega)];by_cases hA:RF (t.length+1+1+1) x y.toNat z.toNat
    ·simp only [if_pos hA,if_true];by_cases hy:128<=y.toNat/\y.toNat<192
     ·by_cases hz:128<=z.toNat/\z.toNat<192
      ·simp only [if_pos hy,if_pos hz];unfold RF Cn at hA;rw [show LP 3 (((x - 224) * 64+y.toNat - 128) * 64+z.toNat - 128)=false from decide_eq_false (by omega)];rfl
      ·simp only [if_pos hy,if_neg hz]
     ·simp only [if_neg hy]
    ·simp only [if_neg hA];unfold RF Cn at hA;simp only [if_pos (show 128<=y.toNat/\y.toNat<192 by omega),if_pos (show 128<=z.toNat/\z.toNat<192 by omega),Nat.reduceEqDiff,if_false];rw [show LP 3 (((x - 224) * 64+y.toNat - 128) * 64+z.toNat - 128)=true from decide_eq_true (by omega)];rfl
  ·have hh:k7 x=(4,x - 240):=by unfold k7;rw [if_pos (by omega)]
   rw [if_neg c4,hh];simp only [show 4 - 1=3 from rfl];rcases t with _|⟨y,_|⟨z,_|⟨w,t⟩⟩⟩
   ·simp [PZ]
   ·simp [PZ]
   ·simp [PZ]
   ·simp only [aet,aft,afS,K0];rw [if_neg (by omega)];by_cases hA:PZ (t.length+1+1+1+1) x y.toNat z.toNat w.toNat
    ·simp only [if_pos hA,if_true];by_cases hy:128<=y.toNat/\y.toNat<192
     ·by_cases hz:128<=z.toNat/\z.toNat<192
      ·by_cases hw:128<=w.toNat/\w.toNat<192
       ·simp only [if_pos hy,if_pos hz,if_pos hw];unfold PZ Cn at hA;rw [show LP 4 ((((x - 240) * 64+y.toNat - 128) * 64+z.toNat - 128) * 64+w.toNat - 128)=false from decide_eq_false (by omega)];rfl
       ·simp only [if_pos hy,if_pos hz,if_neg hw]
      ·simp only [if_pos hy,if_neg hz]
     ·simp only [if_neg hy]
    ·simp only [if_neg hA];unfold PZ Cn at hA;simp only [if_pos (show 128<=y.toNat/\y.toNat<192 by omega),if_pos (show 128<=z.toNat/\z.toNat<192 by omega),if_pos (show 128<=w.toNat/\w.toNat<192 by omega),Nat.reduceEqDiff,if_false];rw [show LP 4 ((((x - 240) * 64+y.toNat - 128) * 64+z.toNat - 128) * 64+w.toNat - 128)=true from decide_eq_true (by omega)];rfl
theorem Sd:∀ (f:Nat) (l:List UInt8),l.length<=f->Px f l=Lib.validD l
 | _,[],_=>by simp [Px,Lib.validD_nil]
 | 0,_::_,h=>by simp at h
 | f+1,b::t,h=>by
   rw [YQ,Lib.validD_step _ (by simp),Lib.decodeL_N];simp only [aet,aft,afS];rcases Uf (t.length+1) b.toNat (t.getD 0 0).toNat (t.getD 1 0).toNat (t.getD 2 0).toNat b.toNat_lt (t.getD 0 0).toNat_lt (t.getD 1 0).toNat_lt (t.getD 2 0).toNat_lt with ⟨h1,h2⟩|⟨h1,h2,h3⟩
   ·rw [h1,h2];simp
   ·rw [if_neg (by omega),if_neg h3,h2];refine Sd f _ ?_;rw [afu];simp only [aet] at h ⊢;omega
theorem ad7 {v:List UInt8} {i:Nat} (h:i+2<=v.length):Tr ((v.drop i).take 2)=two v i:=by
 have e:(v.drop i).take 2=[v.getD i 0,v.getD (i+1) 0]:=by
  rw [jm (show i<v.length by omega),jm (show i+1<v.length by omega)];rfl
 rw [e];simp only [Tr,two,dig,afq,agu];omega
theorem ad6 {v:List UInt8} (h:4<=v.length):Tr (v.take 4)=two v 0 * 100+two v 2:=by
 have e:v.take 4=[v.getD 0 0,v.getD 1 0,v.getD 2 0,v.getD 3 0]:=by
  have:=jm (show 0<v.length by omega);rw [afY] at this;rw [this,jm (show 0+1<v.length by omega),jm (show 0+1+1<v.length by omega),jm (show 0+1+1+1<v.length by omega)];rfl
 rw [e];simp only [Tr,two,dig,afq,agu,afJ,Nat.reduceAdd];omega
theorem Sp {v:List UInt8} (hv:v.length<=1100000) (h:K (.bool (Hw v)) L):aee 65 [.str v] L K:=by
 have no:Hw v=false->K (.bool false) L:=fun e=>by rw [<- e];exact h
 replace no:=hid no;replace h:=hid h;refine af NV (by simp [mN]) ?_;simp only [mN,aq];by_cases h15:v.length=15;rotate_left
 ·have f1:¬ (v.length:Int)=15:=by omega
  have h':=hid (no.out (by simp [Hw,h15]));clear h15;refine wk ?_;exact ac h'.out
 have f1:(v.length:Int)=15:=by omega
 obtain ⟨w,hw⟩:=aea (v.take 14);have hwl:w.length=14:=by rw [<- hw];simp [h15]
 have hwl2:w.length<=1100000:=by omega
 cases hda:w.all fM with
 | false =>
   have h':=hid (no.out (by simp [Hw,hw,hda]));have hds:Iy w=false:=by simp [Iy,hda]
   clear hwl h15;have kk1:=@hid _ (fun L K=>eP hwl2 (L:=L) (K:=K));refine wk ?_;exact ac h'.out
 | true =>
 have hds:Iy w=true:=by simp [Iy,hda,hwl]
 obtain ⟨z,hz⟩:=aea (v.getD 14 0);by_cases h90:z=90;rotate_left
 ·have f2:¬ (z.toNat:Int)=90:=fun e=>h90 ((bo z 90).1 e)
  have h':=hid (no.out (by simp [Hw,<- hz] at h90 ⊢;simp [h90]));clear h90 hwl h15;have kk1:=@hid _ (fun L K=>eP hwl2 (L:=L) (K:=K));refine wk ?_;exact ac h'.out
 have f2:(z.toNat:Int)=90:=by rw [h90];rfl
 have hdv:∀ i,i<14->fM (v.getD i 0)=true:=fun i hi=>by
  refine ael.1 hda _ ?_;rw [<- hw];have:v.getD i 0=(v.take 14)[i]'(by simp;omega):=by simp [show i<v.length by omega]
  rw [this];exact afi _
 have hmem:∀ (i n:Nat),i+n<=14->∀ c∈(v.drop i).take n,fM c=true:=fun i n hin c hc=>by
  obtain ⟨j,hj,rfl⟩:=aeU.1 hc;simp only [afM,afu] at hj;rw [List.getElem_take,List.getElem_drop];have:=hdv (i+j) (by omega)
  rwa [show v.getD (i+j) 0=v[i+j] by simp [show i+j<v.length by omega]] at this
 have hdate:Hw v=U8 v:=by
  simp only [Hw,h15,hz,h90,hw,hda];simp
 have ct:∀ i:Nat,i+2<=14->∀ (K:AV->List Blk->Prop),K (.int .i64 (two v i:Nat)) L->aee 92 [.str ((v.drop i).take 2)] L K:=fun i hi K h =>
  ach (by simp;omega) (hmem i 2 hi) (by rw [ad7 (by omega)];exact h)
 have c4:∀ (K:AV->List Blk->Prop),K (.int .i64 ((two v 0 * 100+two v 2:Nat):Int)) L->aee 92 [.str (v.take 4)] L K:=fun K h =>
  ach (by simp;omega) (by have:=hmem 0 4 (by omega);rwa [afY] at this) (by rw [ad6 (by omega)];exact h)
 have b0:=im (hdv 0 (by omega)) (hdv 1 (by omega));have b2:=im (hdv 2 (by omega)) (hdv 3 (by omega));have b4:=im (hdv 4 (by omega)) (hdv 5 (by omega));have b6:=im (hdv 6 (by omega)) (hdv 7 (by omega));have b8:=im (hdv 8 (by omega)) (hdv 9 (by omega));have b10:=im (hdv 10 (by omega)) (hdv 11 (by omega));have b12:=im (hdv 12 (by omega)) (hdv 13 (by omega));have kk1:=@hid _ (fun {K:aef}=>c4 K);have kk3:=@hid _ (fun {K:aef}=>ct 4 (by omega) K);have kk4:=@hid _ (fun {K:aef}=>ct 6 (by omega) K);have kk5:=@hid _ (fun {K:aef}=>ct 8 (by omega) K);have kk6:=@hid _ (fun {K:aef}=>ct 10 (by omega) K);have kk7:=@hid _ (fun {K:aef}=>ct 12 (by omega) K);have kk2:=@hid _ (fun {K:aef}=>@eP w hwl2 L K);have hfin:=h.out;rw [hdate] at hfin;unfold U8 at hfin;obtain ⟨Y,hY⟩:=aea (two v 0 * 100+two v 2);obtain ⟨M,hM⟩:=aea (two v 4);obtain ⟨D,hD⟩:=aea (two v 6);obtain ⟨H,hH⟩:=aea (two v 8);obtain ⟨I,hI⟩:=aea (two v 10);obtain ⟨S,hS⟩:=aea (two v 12);have hYb:Y<=9999:=by omega
 rw [hY] at hfin kk1;rw [hM] at b4 hfin kk3;rw [hD] at b6 hfin kk4;rw [hH] at b8 hfin kk5;rw [hI] at b10 hfin kk6;rw [hS] at b12 hfin kk7;clear hY hM hD hH hI hS ct c4 hdate hdv hda h15 hwl hv h90 no h hmem b0 b2;have hbad:¬ ((1<=M/\M<=12)/\1<=D/\H<=23/\I<=59/\S<=59)->K (.bool false) L:=fun e=>by
  rw [decide_eq_false e] at hfin;simpa using hfin
 replace hbad:=hid hbad;replace hfin:=hid hfin;by_cases m1:(M:Int)<1
 ·refine wk ?_;exact ac (hbad.out (by omega))
 by_cases m2:(12:Int)<(M:Int)
 ·refine wk ?_;exact ac (hbad.out (by omega))
 by_cases m3:(D:Int)<1
 ·refine wk ?_;exact ac (hbad.out (by omega))
 by_cases m4:(23:Int)<(H:Int)
 ·refine wk ?_;exact ac (hbad.out (by omega))
 by_cases m5:(59:Int)<(I:Int)
 ·refine wk ?_;exact ac (hbad.out (by omega))
 by_cases m6:(59:Int)<(S:Int)
 ·refine wk ?_;exact ac (hbad.out (by omega))
 have hfin2:=hfin.out;rw [show decide ((1<=M/\M<=12)/\1<=D/\H<=23/\I<=59/\S<=59)=true by simp;omega,ae7] at hfin2;unfold SA ZJ at hfin2;obtain ⟨r4,hr4⟩:=aea (Y % 4);obtain ⟨r100,hr100⟩:=aea (Y % 100);obtain ⟨r400,hr400⟩:=aea (Y % 400);rw [hr4,hr100,hr400] at hfin2;have t4:Int.tmod (Y:Int) 4=(r4:Int):=by rw [agd (by omega)];omega
 have t100:Int.tmod (Y:Int) 100=(r100:Int):=by rw [agd (by omega)];omega
 have t400:Int.tmod (Y:Int) 400=(r400:Int):=by rw [agd (by omega)];omega
 replace hfin2:=hid hfin2;clear hr4 hr100 hr400;have days:∀ d:Nat,(if M=2/\(decide (r4=0) && !decide (r100=0) || decide (r400=0))=true then TJ M+1 else TJ M)=d->K (.bool (decide ((D:Int)<=(d:Int)))) L:=fun d e=>by
  have:=hfin2.out;rw [e] at this
  rwa [show decide (D<=d)=decide ((D:Int)<=(d:Int)) by simp only [decide_eq_decide];omega] at this
 replace days:=hid days;by_cases q2:(M:Int)=2
 ·have e2:M=2:=by omega
  subst e2
  repeat' first
   | refine aY ?_
   | (first|refine aO (by kernel_rfl) ?_|refine aA (by kernel_rfl) ?_|refine aB ?_|refine bw ?_|refine a6 (fun _=>?_)|refine ax ?_|refine aR ?_|refine kk1.out ?_|refine kk2.out ?_|refine kk3.out ?_|refine kk4.out ?_|refine kk5.out ?_|refine kk6.out ?_|refine kk7.out ?_|refine bj (kk1.out ⟨rfl,rfl⟩) (kk1.out ⟨rfl,rfl⟩) ?_|refine bj (kk2.out ⟨rfl,rfl⟩) (kk2.out ⟨rfl,rfl⟩) ?_|refine bj (kk3.out ⟨rfl,rfl⟩) (kk3.out ⟨rfl,rfl⟩) ?_|refine bj (kk4.out ⟨rfl,rfl⟩) (kk4.out ⟨rfl,rfl⟩) ?_|refine bj (kk5.out ⟨rfl,rfl⟩) (kk5.out ⟨rfl,rfl⟩) ?_|refine bj (kk6.out ⟨rfl,rfl⟩) (kk6.out ⟨rfl,rfl⟩) ?_|refine bj (kk7.out ⟨rfl,rfl⟩) (kk7.out ⟨rfl,rfl⟩) ?_|refine aS (kk1.out ⟨rfl,rfl⟩) ?_|refine aS (kk2.out ⟨rfl,rfl⟩) ?_|refine aS (kk3.out ⟨rfl,rfl⟩) ?_|refine aS (kk4.out ⟨rfl,rfl⟩) ?_|refine aS (kk5.out ⟨rfl,rfl⟩) ?_|refine aS (kk6.out ⟨rfl,rfl⟩) ?_|refine aS (kk7.out ⟨rfl,rfl⟩) ?_)
     refine sm ?_
   | (first|refine aK (by kernel_rfl) ?_|refine aP ?_|refine aQ ?_|refine bd (aw ?_))
     refine sl ?_
   | exact a7
   | first|apply a8|apply aL|apply ba|apply aM|apply bc|apply aN
   | refine aE ?_
   | first|refine aC rfl ?_|refine aD rfl ?_|refine ap rfl ?_ ?_|refine aG rfl (fun _=>?_) (fun _=>?_)|refine aF rfl (fun _=>?_) (fun _=>?_)
   | ((first|refine ao (fun _=>?_) (fun _=>?_)|refine au (fun _=>?_) (fun _=>?_))<;>try refine sm ?_)
   | refine And.intro trivial ?_
   | refine And.intro (by omega) ?_
   | refine aI rfl (fun _=>?_) (fun _=>?_)
   | refine And.intro ?_ ?_
  ·rename_i hx
   exact ac (days.out 29 (by rw [if_pos ⟨rfl,by simp;omega⟩];rfl))
  ·rename_i hx
   exact ac (days.out 28 (by rw [if_neg (fun ⟨_,e⟩=>hx (by simp at e;omega))];rfl))
 by_cases q30:M=4\/M=6\/M=9\/M=11
 ·have d30:=hid (days.out 30 (by unfold TJ;rw [if_neg (by omega),if_neg (by omega),if_pos (by omega)]));rcases q30 with e|e|e|e
  ·have p1:(M:Int)=4:=by omega
   clear e;refine wk ?_;exact ac d30.out
  ·have p1:(M:Int)=6:=by omega
   clear e;refine wk ?_;exact ac d30.out
  ·have p1:(M:Int)=9:=by omega
   clear e;refine wk ?_;exact ac d30.out
  ·have p1:(M:Int)=11:=by omega
   clear e;refine wk ?_;exact ac d30.out
 ·have d31:=hid (days.out 31 (by unfold TJ;rw [if_neg (by omega),if_neg (by omega),if_neg (by omega)]));have p1:¬ (M:Int)=4:=by omega
  have p2:¬ (M:Int)=6:=by omega
  have p3:¬ (M:Int)=9:=by omega
  have p4:¬ (M:Int)=11:=by omega
  clear q30;refine wk ?_;exact ac d31.out
theorem mU {syn:Int} {v:List UInt8} (h:K (gj (ci syn v)) L):aee 38 [.int .i64 syn,.str v] L K:=by
 unfold ci at h;refine af PN (by simp [uJ]) ?_;simp only [uJ,aq];by_cases hl:4096<v.length
 ·have f1:(4096:Int)<(v.length:Int):=by omega
  rw [if_pos hl] at h;replace h:=hid h;clear hl;refine wk ?_;exact ac h.out
 have f1:¬ (4096:Int)<(v.length:Int):=by omega
 rw [if_neg hl] at h;have vl1:v.length<=1100000:=by omega
 have vl2:(v.length:Int)<=100000:=by omega
 have hu:=Sd v.length v (aeg _);have hnu:=acH v;unfold Zy at h;clear hl;by_cases s1:syn=1
 ·subst s1;rw [if_pos rfl] at h;by_cases hv:v=[]
  ·rw [if_pos hv] at h;replace h:=hid h;subst hv;have e0:([]:List UInt8).length=0:=rfl;refine wk ?_;exact ac h.out
  ·rw [if_neg hv] at h;have f2:(0:Int)<(v.length:Int):=by have:=afF.2 hv;omega
   cases hd:Lib.validD v with
   | true =>
     rw [hd,if_pos rfl] at h;replace h:=hid h;rw [hd] at hu;have kk1:=@hid _ (fun L K=>ui vl2 (L:=L) (K:=K));have kk2:=@hid _ (fun L K=>WK vl1 (L:=L) (K:=K));refine wk ?_;exact ac h.out
   | false =>
     rw [hd,if_neg (by simp)] at h;replace h:=hid h;rw [hd] at hu;have kk1:=@hid _ (fun L K=>ui vl2 (L:=L) (K:=K));have kk2:=@hid _ (fun L K=>WK vl1 (L:=L) (K:=K));refine wk ?_;exact ac h.out
 rw [if_neg s1] at h;by_cases s2:syn=2
 ·subst s2;rw [if_pos rfl] at h;by_cases hv:v=[]
  ·rw [if_pos hv] at h;replace h:=hid h;subst hv;have e0:([]:List UInt8).length=0:=rfl;refine wk ?_;exact ac h.out
  ·rw [if_neg hv] at h;have f2:(0:Int)<(v.length:Int):=by have:=afF.2 hv;omega
   cases hd:Lib.validD v with
   | true =>
     rw [hd,if_pos rfl] at h;replace h:=hid h;rw [hd] at hu;have kk1:=@hid _ (fun L K=>WK vl1 (L:=L) (K:=K));refine wk ?_;exact ac h.out
   | false =>
     rw [hd,if_neg (by simp)] at h;replace h:=hid h;rw [hd] at hu;have kk1:=@hid _ (fun L K=>WK vl1 (L:=L) (K:=K));refine wk ?_;exact ac h.out
 rw [if_neg s2] at h;by_cases s3:syn=3
 ·subst s3;rw [if_pos rfl] at h;replace h:=hid h;clear hu hnu;refine wk ?_;refine ai (fun n T' L'=>∃ i:Nat,n=v.length - i/\i<=v.length/\Hid (OP (v.take i)=true)/\T'=[(6,.int .i64 (i:Int)),(1,.str v),(12,.int .i64 3)]/\L=L') (CutS (b:=aeg _)) ⟨0,rfl,aej _,hid rfl,rfl,rfl⟩ ?_;rintro _ _ _ ⟨i,rfl,hi,hall,rfl,rfl⟩;by_cases hlt:i<v.length
  ·have g1:(i:Int)<(v.length:Int):=by omega
   have g2:=aec i (by omega);obtain ⟨c,hc⟩:=aea (v.getD i 0);have htk:v.take (i+1)=v.take i++[c]:=by rw [aeL hlt,<- hc];simp [hlt]
   have hm:c∈v:=by rw [<- hc];simp [hlt]
   by_cases ha:c.toNat<128
   ·have f2:¬ (128:Int)<=(c.toNat:Int):=by omega
    have hnext:OP (v.take (i+1))=true:=by
     have:=hall.out;unfold OP at this ⊢;rw [htk,agG,this];simp [ha]
    replace hnext:=hid hnext;clear ha htk hm;refine wk ?_;exact ag _ _ _ (by omega) (CutL (b:=aeg _)) ⟨i+1,rfl,hlt,hnext,rfl,rfl⟩
   ·have f2:(128:Int)<=(c.toNat:Int):=by omega
    have hbad:OP v=false:=by
     rw [<- afP];intro e;have:=ael.1 e c hm;simp at this;omega
    have h':=h.out;rw [hbad,if_neg (by simp)] at h';replace h':=hid h';clear ha htk hm hbad;refine wk ?_;exact ac h'.out
  ·have hke:i=v.length:=by omega
   subst hke;have g1:¬ (v.length:Int)<(v.length:Int):=by omega
   have e:=hall.out;rw [aeE] at e;have h':=h.out;rw [e,if_pos rfl] at h';replace h':=hid h';clear e;have kk1:=@hid _ (fun L K=>ui vl2 (L:=L) (K:=K));refine wk ?_;exact ac h'.out
 rw [if_neg s3] at h;by_cases s4:syn=4
 ·subst s4;rw [if_pos rfl] at h;cases hd:tT v with
  | true =>
    rw [hd,if_pos rfl] at h;replace h:=hid h;rw [hd] at hnu;have kk1:=@hid _ (fun L K=>So vl1 (L:=L) (K:=K));refine wk ?_;exact ac h.out
  | false =>
    rw [hd,if_neg (by simp)] at h;replace h:=hid h;rw [hd] at hnu;have kk1:=@hid _ (fun L K=>So vl1 (L:=L) (K:=K));refine wk ?_;exact ac h.out
 rw [if_neg s4] at h;by_cases s5:syn=5
 ·subst s5;rw [if_pos rfl] at h;clear hu hnu;by_cases t1:v=aau
  ·rw [if_pos (.inl t1)] at h;replace h:=hid h;subst t1;refine wk ?_;exact ac h.out
  ·by_cases t2:v=WE
   ·rw [if_pos (.inr t2)] at h;replace h:=hid h;subst t2;have t3:¬ ([70,65,76,83,69]:List UInt8)=[84,82,85,69]:=by decide
    clear t1;refine wk ?_;exact ac h.out
   ·rw [if_neg (fun e=>e.elim t1 t2)] at h;replace h:=hid h;refine wk ?_;exact ac h.out
 rw [if_neg s5] at h;clear hu hnu;by_cases s6:syn=6
 ·subst s6;rw [if_pos rfl] at h;obtain ⟨⟨k,e⟩,hk⟩:∃ p,UN v=p:=⟨_,rfl⟩;rw [hk] at h;simp only at h;by_cases he:e=0
  ·subst he;rw [if_pos rfl] at h;replace h:=hid h;refine wk ?_;refine Y9 ?_;rw [hk];simp only [pi];refine sk ?_;refine wk ?_;exact ac h.out
  ·rw [if_neg he] at h;replace h:=hid h;refine wk ?_;refine Y9 ?_;rw [hk];simp only [pi];refine sk ?_;refine wk ?_;exact ac h.out
 rw [if_neg s6] at h;by_cases s7:syn=7
 ·subst s7;rw [if_pos rfl] at h;replace h:=hid h;refine wk ?_;exact ac h.out
 rw [if_neg s7] at h;by_cases s8:syn=8
 ·subst s8;rw [if_pos rfl] at h;cases hd:Hw v with
  | true =>
    rw [hd,if_pos rfl] at h;replace h:=hid h;have kk1:=@hid _ (fun L K=>Sp vl1 (L:=L) (K:=K));refine wk ?_;exact ac h.out
  | false =>
    rw [hd,if_neg (by simp)] at h;replace h:=hid h;have kk1:=@hid _ (fun L K=>Sp vl1 (L:=L) (K:=K));refine wk ?_;exact ac h.out
 rw [if_neg s8] at h;replace h:=hid h;refine wk ?_;exact ac h.out
end Go.Proofs.YtigifoeopopnbaaGreatDoor.Av
