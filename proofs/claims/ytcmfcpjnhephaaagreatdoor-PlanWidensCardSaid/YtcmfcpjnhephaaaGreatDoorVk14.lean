/- Joined texts of the walk, made small by a program. -/
import Derived.Test.YtcmfcpjnhephaaaGreatDoorVk13
import Derived.Test.YtcmfcpjnhephaaaGreatDoorVk12
set_option linter.unusedSimpArgs false
set_option linter.unusedVariables false
namespace Go.Proofs.YtcmfcpjnhephaaaGreatDoor.Av
open Go
variable {p:Nat}{L:List Blk}{K:ag7}
set_option maxHeartbeats 8000000
set_option maxRecDepth 100000
structure ac6(s:List UInt8)(i:Nat)(a b v:UInt8):Prop where
 h0:s.getD i 0=a
 h1:s.getD (i+1) 0=b
 h2:s.getD (i+2) 0=62
 hq:s.getD (i+3) 0=61
 h3:s.getD (i+4) 0=v
 h4:s.getD (i+5) 0=41
 hi:i+6<=s.length
 hs:s.length<=100
 d1:(s.drop i).take 1=[a]
 d2:(s.drop i).take 2=[a,b]
 d3:(s.drop i).take 3=[a,b,62]
 t1:eT [a]=true
 t2:eT [a,b]=true
 t3:eT [a,b,62]=false
 v1:v.toNat≠41/\v.toNat≠42/\v.toNat≠92/\v.toNat≠0/\v.toNat≠40
abbrev VK(a b v:UInt8):List AV:=[.int .i64 5,.str [a,b],.str [v],.sl [] 0 (some 0),.sl [] 0 (some 0)]
theorem ZF{s:List UInt8}{i:Nat}{a b v:UInt8}(q:ac6 s i a b v){n:Int}(hL:L[p]?=some (rdR s i n))(h:K (.agg (VK a b v)) (L.set p (rdR s ((i:Int)+6) n))):
  ag6 152 [.ptr p 0] L K:=by
 obtain⟨h0,h1,h2,hq,h3,h4,hi,hs,d1,d2,d3,t1,t2,t3,v1,v2,v3,v4,v5⟩:=q;obtain⟨N,m0,hM,n1,n2,n3,n4,n5,n6,n7,n8⟩:=rdM hL;rw[hM]at h;rw[m0];obtain⟨M,hN⟩:∃M:Int->List Blk,∀x,N x n=M x:=⟨λx=>N x n,λ_=>rfl⟩;have m1:=λx=>n1 x n
 have m2:=λx X y=>n2 x n X y n
 have m3:=λx X=>n3 x n X
 have m4:=λx X=>n4 x n X
 have m5:=λx X A=>n5 x n X A
 have m6:=λx X k=>n6 x n X k
 have m7:=λx X k A=>n7 x n X k A
 have m8:=λx f=>n8.out x n f
 simp only[hN]at h m1 m2 m3 m4 m5 m6 m7 m8⊢;replace m8:=hid m8;clear n1 n2 n3 n4 n5 n6 n7 n8 hN;clear hL hM m0;have w1:∀j:Nat,j<=10->IntKind.i64.wrap ((i:Int)+j+1)=(i:Int)+j+1:=λj hj=>ac (by omega) (by omega)
 replace w1:=hid w1;have no:∀(x:Int) (j:Nat) (c:UInt8),x=(j:Int)->j<s.length->(s.getD j 0).toNat≠c.toNat->∀{X:List Blk}{K:ag7},K (.bool false) (M x++X)->ag6 150 [.ptr p 0,.int .u8 c.toNat] (M x++X) K:=λx j c e hj hc X K q=>Xl (m3 x X) e hj hc q
 have yes:∀(x:Int) (j:Nat) (c:UInt8),x=(j:Int)->j<s.length->s.getD j 0=c->∀{X:List Blk}{K:ag7},K (.bool true) (M (x+1)++X)->ag6 150 [.ptr p 0,.int .u8 c.toNat] (M x++X) K:=λx j c e hj hc X K q=>Xk (m3 x X) e hj hc hs (by rw[m2];exact q)
 replace no:=hid no;replace yes:=hid yes;replace h:=hid h;have hsi:=hid (And.intro hi hs);refine ag5 lh ?_;refine ak (λm T' L'=>∃(j:Nat) (x:Int),m=2-j/\(j=0/\x=(i:Int)\/j=1/\x=(i:Int)+1\/j=2/\x=(i:Int)+1+1)/\T'=[(3,.int .i64 (i:Int)),(2,.ptr L.length 0),(0,.ptr p 0)]/\L'=M x++[.cells [.int .i64 0,.str [],.str [],.sl [] 0 (some 0),.sl [] 0 (some 0)]]) (CutS (b:=by simp[m1])) ⟨0,_,rfl,.inl ⟨rfl,rfl⟩,rfl,rfl⟩ ?_;rintro _ _ _ ⟨j,x,rfl,hj,rfl,rfl⟩;rcases hj with⟨rfl,rfl⟩|⟨rfl,rfl⟩|⟨rfl,rfl⟩;have g1:(i:Int)<(s.length:Int):=by omega
 have g2:=ag4 i (by omega);have g3:List.take (((i:Int)+1).toNat-i) (List.drop i s)=[a]:=by rw[show((i:Int)+1).toNat-i=1 by omega];exact d1
 have g4:((i:Int)+1).toNat<=s.length:=by omega
 have g5:i<=((i:Int)+1).toNat:=by omega
 have kk1:Hid (Ctr Tryz.prog 134 [.str [a]] (.bool true)):=hid λq=>qD (by simp) (by rw[t1];exact q)
 clear d1 d2 d3 t1 t2 t3;refine wk ?_;exact ah _ _ _ (by omega) (CutL (b:=by simp[m1])) ⟨1,_,rfl,.inr (.inl ⟨rfl,rfl⟩),rfl,rfl⟩;have g0:(i:Int)+1<(s.length:Int):=by omega
 have g2:IntKind.i64.wrap ((i:Int)+1+1)=(i:Int)+1+1:=ac (by omega) (by omega);have g3:List.take (((i:Int)+1+1).toNat-i) (List.drop i s)=[a,b]:=by rw[show((i:Int)+1+1).toNat-i=2 by omega];exact d2
 have kk1:Hid (Ctr Tryz.prog 134 [.str [a,b]] (.bool true)):=hid λq=>qD (by simp) (by rw[t2];exact q)
 clear d1 d2 d3 t1 t2 t3;refine wk ?_;exact ah _ _ _ (by omega) (CutL (b:=by simp[m1])) ⟨2,_,rfl,.inr (.inr ⟨rfl,rfl⟩),rfl,rfl⟩;have g0:(i:Int)+1+1<(s.length:Int):=by omega
 have g2:IntKind.i64.wrap ((i:Int)+1+1+1)=(i:Int)+1+1+1:=ac (by omega) (by omega);have g3:List.take (((i:Int)+1+1+1).toNat-i) (List.drop i s)=[a,b,62]:=by rw[show((i:Int)+1+1+1).toNat-i=3 by omega];exact d3
 have g4:List.take (((i:Int)+1+1).toNat-i) (List.drop i s)=[a,b]:=by rw[show((i:Int)+1+1).toNat-i=2 by omega];exact d2
 have kk1:Hid (Ctr Tryz.prog 134 [.str [a,b,62]] (.bool false)):=hid λq=>qD (by simp) (by rw[t3];exact q)
 clear d1 d2 d3 t1 t2 t3;refine wk ?_;have b0:((i:Int)+1+1)=((i+2:Nat):Int):=by omega
 have kk1:Hid (∀{X:List Blk}{K:ag7},K (.bool true) (M ((i:Int)+1+1+1)++X)->ag6 150 [.ptr p 0,.int .u8 62] (M ((i:Int)+1+1)++X) K):=hid (yes.out _ (i+2) 62 b0 (by omega) h2);have kk2:Hid (∀{X:List Blk}{K:ag7},K (.bool true) (M ((i:Int)+1+1+1+1)++X)->ag6 150 [.ptr p 0,.int .u8 61] (M ((i:Int)+1+1+1)++X) K):=hid (yes.out _ (i+3) 61 (by omega) (by omega) hq);clear b0 g2 g3 g4;refine wk ?_;clear kk1 kk2;refine bX (l:=[]) (n:=0) 7 1 rfl (ahD 1).symm ?_;refine bX (l:=[]) (n:=0) 6 1 rfl (ahD 1).symm ?_;have q3:∀z,((v.toNat:Int)=z->False)->¬(v.toNat:Int)=z:=λz e=>e
 have e42:¬(v.toNat:Int)=42:=by omega
 have e92:¬(v.toNat:Int)=92:=by omega
 have e00:¬(v.toNat:Int)=0:=by omega
 have e40:¬(v.toNat:Int)=40:=by omega
 clear q3;obtain⟨B1,hB1⟩:=ag2 (Blk.cells [AV.int IntKind.i64 0,AV.str [],AV.str [],AV.sl [] 0 (some 0),AV.sl [] 0 (some 0)]);obtain⟨B2,hB2⟩:=ag2 (Blk.cells [AV.int IntKind.i64 5,AV.str [a,b],AV.str [],AV.sl [] 0 (some 0),AV.sl [] 0 (some 0)]);rw[hB1,hB2];refine QK (L':=M ((i:Int)+1+1+1+1)++[B1,B2,.spare 0 1,.spare 0 1]) (by simp) ?_;have l1:(M ((i:Int)+1+1+1+1)++[B1,B2]).length=L.length+2:=by simp[m1]
 have l2:(M ((i:Int)+1+1+1+1)++[B1,B2]++[Blk.spare 0 1]).length=L.length+3:=by simp[m1]
 rw[l1,l2];clear l1 l2;refine ak (λm T' L'=>∃(j:Nat) (x:Int) (C:List AV),m=1-j/\(j=0/\x=(i:Int)+1+1+1+1/\C=[]\/j=1/\x=(i:Int)+1+1+1+1+1/\C=[.int .u8 v.toNat])/\T'=[(7,.gsl C j (L.length+2) 1),(6,.gsl [] 0 (L.length+3) 1),(5,.int .i64 0),(4,.ptr (L.length+1) 0),(2,.ptr L.length 0),(0,.ptr p 0)]/\L'=M x++[B1,B2,.spare j 1,.spare 0 1]) (CutS (b:=by simp[m1])) ⟨0,_,_,rfl,.inl ⟨rfl,rfl,rfl⟩,rfl,rfl⟩ ?_;rintro _ _ _ ⟨j,x,C,rfl,hj,rfl,rfl⟩;rcases hj with⟨rfl,rfl,rfl⟩|⟨rfl,rfl,rfl⟩;have g1:¬(i:Int)+1+1+1+1=(s.length:Int):=by omega
 have g5:(i:Int)+1+1+1+1<(s.length:Int):=by omega
 have g2:IntKind.i64.wrap ((i:Int)+1+1+1+1+1)=(i:Int)+1+1+1+1+1:=ac (by omega) (by omega);have g3:s.getD ((i:Int)+1+1+1+1).toNat 0=v:=by rw[show((i:Int)+1+1+1+1).toNat=i+4 by omega];exact h3
 have g4:(0:Int)<=(i:Int)+1+1+1+1:=by omega
 have kk1:Hid (∀{X:List Blk}{K:ag7},K (.bool false) (M ((i:Int)+1+1+1+1)++X)->ag6 150 [.ptr p 0,.int .u8 41] (M ((i:Int)+1+1+1+1)++X) K):=hid (no.out _ (i+4) 41 (by omega) (by omega) (by rw[h3];exact v1));refine wk ?_;exact ah _ _ _ (by omega) (CutS (b:=by simp[m1])) ⟨1,_,_,rfl,.inr ⟨rfl,rfl,rfl⟩,rfl,rfl⟩;have kk1:Hid (∀{X:List Blk}{K:ag7},K (.bool true) (M ((i:Int)+1+1+1+1+1+1)++X)->ag6 150 [.ptr p 0,.int .u8 41] (M ((i:Int)+1+1+1+1+1)++X) K):=hid (yes.out _ (i+5) 41 (by omega) (by omega) h4);subst hB1 hB2;have u1:UI (AV.int IntKind.u8 v.toNat)=true:=rfl;have u2:List.map On [AV.int IntKind.u8 v.toNat]=[v]:=by simp[On]
 refine wk ?_;rw[show(i:Int)+1+1+1+1+1+1=(i:Int)+6 by omega];exact fq (by simp[m1]) (λhh=>m8.out _ _ hh) rfl h.out
theorem act{s:List UInt8}{i:Nat}{a b v:UInt8}(q:ac6 s (i+1) a b v)(h0:s.getD i 0=40)(ha:a.toNat≠38/\a.toNat≠124/\a.toNat≠33){n d:Int}(hn:0<=n)(hn2:n<1000)(hd:d<=64)(hL:L[p]?=some (rdR s i n))(h:K (.agg (VK a b v)) (L.set p (rdR s ((i:Int)+7) (n+1)))):
  ag6 107 [.ptr p 0,.int .i64 d] L K:=by
 obtain⟨M,m0,hM,m1,m2,m3,m4,m5,_,_,m8⟩:=rdM hL;rw[hM]at h;rw[m0];clear hL hM m0;have e1:((i+1:Nat):Int)=(i:Int)+1:=rfl;obtain⟨f0,f1⟩:s.getD (i+1) 0=a/\i+1+6<=s.length/\s.length<=100:=⟨q.h0,q.hi,q.hs⟩;have kk1:Hid (∀{X:List Blk}{K:ag7},K (.bool true) (M ((i:Int)+1) n++X)->ag6 150 [.ptr p 0,.int .u8 40] (M i n++X) K):=hid λq=>Xk (c:=40) (m3 _ _ _) rfl (by omega) h0 f1.2 (by rw[m2];exact q)
 have no:∀(c:UInt8),a.toNat≠c.toNat->∀{X:List Blk}{K:ag7},K (.bool false) (M ((i:Int)+1) (n+1)++X)->ag6 150 [.ptr p 0,.int .u8 c.toNat] (M ((i:Int)+1) (n+1)++X) K:=λc hc X K q=>Xl (i:=i+1) (m3 _ _ X) (by omega) (by omega) (by rw[f0];exact hc) q
 have kk2:Hid (∀{X:List Blk}{K:ag7},K (.bool false) (M ((i:Int)+1) (n+1)++X)->ag6 150 [.ptr p 0,.int .u8 38] (M ((i:Int)+1) (n+1)++X) K):=hid (no 38 ha.1);have kk3:Hid (∀{X:List Blk}{K:ag7},K (.bool false) (M ((i:Int)+1) (n+1)++X)->ag6 150 [.ptr p 0,.int .u8 124] (M ((i:Int)+1) (n+1)++X) K):=hid (no 124 ha.2.1);have kk4:Hid (∀{X:List Blk}{K:ag7},K (.bool false) (M ((i:Int)+1) (n+1)++X)->ag6 150 [.ptr p 0,.int .u8 33] (M ((i:Int)+1) (n+1)++X) K):=hid (no 33 ha.2.2);have kk5:Hid (∀{X:List Blk}{K:ag7},K (.agg (VK a b v)) (M ((i:Int)+1+6) (n+1)++X)->ag6 152 [.ptr p 0] (M ((i:Int)+1) (n+1)++X) K):=hid λr=>ZF q (by rw[e1];exact m3 _ _ _) (by rw[e1,m2];exact r)
 have g0:IntKind.i64.wrap (n+1)=n+1:=ac (by omega) (by omega);have g1:¬1000<n+1:=by omega
 have g2:¬64<d:=by omega
 replace h:=hid h;clear no ha f0 f1 h0;refine ag5 cx ?_;refine ak (λm T' L'=>∃k:Nat,m=3-k/\k<=3/\T'=[(5,.int .i64 (k:Int)),(4,.ptr L.length 0),(0,.ptr p 0),(1,.int .i64 d)]/\L'=M ((i:Int)+1) (n+1)++[.cells [.int .i64 0,.str [],.str [],.sl [] 0 (some 0),.sl [] 0 (some 0)]]) (CutS (b:=by simp[m1])) ⟨0,rfl,by omega,rfl,rfl⟩ ?_;rintro _ _ _ ⟨k,rfl,hk,rfl,rfl⟩;have hk:k=0\/k=1\/k=2\/k=3:=by omega
 rcases hk with rfl|rfl|rfl|rfl;refine wk ?_;exact ah _ _ _ (by omega) (CutS (b:=by simp[m1])) ⟨1,rfl,by omega,rfl,rfl⟩;refine wk ?_;exact ah _ _ _ (by omega) (CutS (b:=by simp[m1])) ⟨2,rfl,by omega,rfl,rfl⟩;refine wk ?_;exact ah _ _ _ (by omega) (CutS (b:=by simp[m1])) ⟨3,rfl,by omega,rfl,rfl⟩;refine wk ?_;rw[show(i:Int)+1+6=(i:Int)+7 by omega];exact fq (by simp[m1]) (λhh=>m8.out _ _ _ hh) rfl h.out
abbrev aaQ:List UInt8:=[40,124,40,99,110,61,97,41,40,115,110,61,98,41,41]
theorem afz:XU aaQ 3 99 110 97:=⟨rfl,rfl,rfl,rfl,rfl,by decide,by decide,rfl,rfl,rfl,by decide,by decide,by decide,by decide⟩
theorem afy:XU aaQ 9 115 110 98:=⟨rfl,rfl,rfl,rfl,rfl,by decide,by decide,rfl,rfl,rfl,by decide,by decide,by decide,by decide⟩
theorem Z3(hL:L[p]?=some (rdR aaQ 0 0))(h:K (.agg [.int .i64 1,.str [],.str [],.sl [] 0 none,.sl [.int .i64 3,.str [99,110],.str [97],.sl [] 0 none,.sl [] 0 none,.int .i64 3,.str [115,110],.str [98],.sl [] 0 none,.sl [] 0 none] 2 none]) (L.set p (rdR aaQ 15 3))):
 ag6 107 [.ptr p 0,.int .i64 1] L K:=Z2 afz afy (by decide) (by decide) hL h
abbrev WN:List UInt8:=[40,38,40,99,110,61,97,41,40,115,110,62,61,98,41,41]
theorem afB:XU WN 3 99 110 97:=⟨rfl,rfl,rfl,rfl,rfl,by decide,by decide,rfl,rfl,rfl,by decide,by decide,by decide,by decide⟩
theorem afA:ac6 WN 9 115 110 98:=⟨rfl,rfl,rfl,rfl,rfl,rfl,by decide,by decide,rfl,rfl,rfl,by decide,by decide,by decide,by decide⟩
theorem Z4(hL:L[p]?=some (rdR WN 0 0))(h:K (.agg [.int .i64 0,.str [],.str [],.sl [] 0 none,.sl [.int .i64 3,.str [99,110],.str [97],.sl [] 0 none,.sl [] 0 none,.int .i64 5,.str [115,110],.str [98],.sl [] 0 none,.sl [] 0 none] 2 none]) (L.set p (rdR WN 16 3))):
  ag6 107 [.ptr p 0,.int .i64 1] L K:=by
 have hp:p<L.length:=(ag8.1 hL).1;obtain⟨M,m0,hM,m1,m2,m3,m4,m5,m6,m7,m8⟩:=rdM hL;rw[hM]at h;rw[m0];clear hL hM m0;have no:∀(i:Nat) (c:UInt8),i<16->∀n,((WN).getD i 0).toNat≠c.toNat->∀{X:List Blk}{K:ag7},K (.bool false) (M i n++X)->ag6 150 [.ptr p 0,.int .u8 c.toNat] (M i n++X) K:=λi c hi n hc {X K} q=>Xl (i:=i) (m3 _ _ X) rfl hi hc q
 have yes:∀(i:Nat) (c:UInt8),i<16->∀n,(WN).getD i 0=c->∀{X:List Blk}{K:ag7},K (.bool true) (M ((i+1:Nat):Int) n++X)->ag6 150 [.ptr p 0,.int .u8 c.toNat] (M i n++X) K:=λi c hi n hc {X K} q=>Xk (i:=i) (m3 _ _ X) rfl hi hc (by simp) (by rw[m2];exact q)
 have kk1:Hid (∀{X:List Blk}{K:ag7},K (.bool true) (M 1 0++X)->ag6 150 [.ptr p 0,.int .u8 40] (M 0 0++X) K):=hid (yes 0 40 (by omega) 0 rfl);have kk2:Hid (∀{X:List Blk}{K:ag7},K (.bool true) (M 2 1++X)->ag6 150 [.ptr p 0,.int .u8 38] (M 1 1++X) K):=hid (yes 1 38 (by omega) 1 rfl);have kk4:Hid (∀{X:List Blk}{K:ag7},K (.bool true) (M 16 3++X)->ag6 150 [.ptr p 0,.int .u8 41] (M 15 3++X) K):=hid (yes 15 41 (by omega) 3 rfl);have q1:Hid (∀{X:List Blk}{K:ag7},K (.agg (NU 99 110 97)) (M 8 2++X)->ag6 107 [.ptr p 0,.int .i64 2] (M 2 1++X) K):=hid λr=>UQ (i:=2) afB rfl (by decide) (by omega) (by omega) (by omega) (m3 _ _ _) (by rw[m2];exact r)
 have q2:Hid (∀{X:List Blk}{K:ag7},K (.agg (VK 115 110 98)) (M 15 3++X)->ag6 107 [.ptr p 0,.int .i64 2] (M 8 2++X) K):=hid λr=>act (i:=8) afA rfl (by decide) (by omega) (by omega) (by omega) (m3 _ _ _) (by rw[m2];exact r)
 have g0:IntKind.i64.wrap (0+1)=1:=rfl;replace h:=hid h;clear no yes;refine ag5 cx ?_;refine ak (λm T' L'=>∃k:Nat,m=2-k/\k<=0/\T'=[(5,.int .i64 (k:Int)),(4,.ptr L.length 0),(0,.ptr p 0),(1,.int .i64 1)]/\L'=M 1 1++[.cells [.int .i64 0,.str [],.str [],.sl [] 0 (some 0),.sl [] 0 (some 0)]]) (CutS (b:=by simp[m1])) ⟨0,rfl,by omega,rfl,rfl⟩ ?_;rintro _ _ _ ⟨k,rfl,hk,rfl,rfl⟩;have hk:k=0:=by omega
 subst hk;refine wk ?_;have e2:(M 2 1++[Blk.cells [.int .i64 0,.str [],.str [],.sl [] 0 (some 0),.sl [] 0 (some 0)],.cells [.int .i64 0,.str [],.str [],.sl [] 0 (some 0),.sl [] 0 (some 0)]]).length=L.length+2:=by simp[m1]
 refine Iq (L.length+1) 4 5 (c:=[.int .i64 0,.str [],.str [],.sl [] 0 (some 0),.sl [] 0 (some 0)]) (l:=[]) (n:=0) (by simp[m6]) rfl (ahD 5).symm ?_;rw[e2];clear e2;obtain⟨B0,hB0⟩:=ag2 (Blk.cells [.int .i64 0,.str [],.str [],.sl [] 0 (some 0),.sl [] 0 (some 0)]);refine QK (L':=M 2 1++[B0,.cells [.int .i64 0,.str [],.str [],.sl [] 0 (some 0),.gsl [] 0 (L.length+2) 5],.spare 0 5]) (by rw[<- hB0];simp[m7]) ?_;refine ak (λm T' L'=>∃(j:Nat) (x n:Int) (C:List AV),m=2-j/\(j=0/\x=2/\n=1/\C=[]\/j=1/\x=8/\n=2/\C=[.int .i64 3,.str [99,110],.str [97],.sl [] 0 none,.sl [] 0 none]\/j=2/\x=15/\n=3/\C=[.int .i64 3,.str [99,110],.str [97],.sl [] 0 none,.sl [] 0 none,.int .i64 5,.str [115,110],.str [98],.sl [] 0 none,.sl [] 0 none])/\T'=[(6,.ptr (L.length+1) 0),(5,.int .i64 0),(4,.ptr L.length 0),(0,.ptr p 0),(1,.int .i64 1)]/\L'=M x n++[B0,.cells [.int .i64 0,.str [],.str [],.sl [] 0 (some 0),.gsl C j (L.length+2) 5],.spare j 5]) (CutS (b:=by simp[m1])) ⟨0,_,_,_,rfl,.inl ⟨rfl,rfl,rfl,rfl⟩,rfl,rfl⟩ ?_;clear kk1 kk2;rintro _ _ _ ⟨j,x,n,C,rfl,hj,rfl,rfl⟩;rcases hj with⟨rfl,rfl,rfl,rfl⟩|⟨rfl,rfl,rfl,rfl⟩|⟨rfl,rfl,rfl,rfl⟩;refine wk ?_;refine QH (.agg (NU 99 110 97)) (M 8 2++[B0,.cells [.int .i64 0,.str [],.str [],.sl [] 0 (some 0),.gsl [] 0 (L.length+2) 5],.spare 0 5]) (q1.out ⟨rfl,rfl⟩) rfl ?_;refine sk ?_;refine wk ?_;exact ah _ _ _ (by omega) (CutS (b:=by simp[m1])) ⟨1,_,_,_,rfl,.inr (.inl ⟨rfl,rfl,rfl,rfl⟩),rfl,rfl⟩;refine wk ?_;refine QH (.agg (VK 115 110 98)) (M 15 3++[B0,.cells [.int .i64 0,.str [],.str [],.sl [] 0 (some 0),.gsl [.int .i64 3,.str [99,110],.str [97],.sl [] 0 none,.sl [] 0 none] 1 (L.length+2) 5],.spare 1 5]) (q2.out ⟨rfl,rfl⟩) rfl ?_;refine sk ?_;refine wk ?_;exact ah _ _ _ (by omega) (CutS (b:=by simp[m1])) ⟨2,_,_,_,rfl,.inr (.inr ⟨rfl,rfl,rfl,rfl⟩),rfl,rfl⟩;subst hB0;refine wk ?_;refine ba ?_;simp only[AV.frz,AV.frzL];exact fq (by simp[m1]) (λhh=>m8.out _ _ _ hh) rfl h.out
abbrev aaP:List UInt8:=[40,124,41]
theorem aep(hL:L[p]?=some (rdR aaP 0 0))(h:K (.agg [.int .i64 1,.str [],.str [],.sl [] 0 (some 0),.sl [] 0 (some 0)]) (L.set p (rdR aaP 3 1))):
  ag6 107 [.ptr p 0,.int .i64 1] L K:=by
 have hp:p<L.length:=(ag8.1 hL).1;obtain⟨M,m0,hM,m1,m2,m3,m4,m5,m6,m7,m8⟩:=rdM hL;rw[hM]at h;rw[m0];clear hL hM m0;have no:∀(i:Nat) (c:UInt8),i<3->∀n,((aaP).getD i 0).toNat≠c.toNat->∀{X:List Blk}{K:ag7},K (.bool false) (M i n++X)->ag6 150 [.ptr p 0,.int .u8 c.toNat] (M i n++X) K:=λi c hi n hc {X K} q=>Xl (i:=i) (m3 _ _ X) rfl hi hc q
 have yes:∀(i:Nat) (c:UInt8),i<3->∀n,(aaP).getD i 0=c->∀{X:List Blk}{K:ag7},K (.bool true) (M ((i+1:Nat):Int) n++X)->ag6 150 [.ptr p 0,.int .u8 c.toNat] (M i n++X) K:=λi c hi n hc {X K} q=>Xk (i:=i) (m3 _ _ X) rfl hi hc (by simp) (by rw[m2];exact q)
 have kk1:Hid (∀{X:List Blk}{K:ag7},K (.bool true) (M 1 0++X)->ag6 150 [.ptr p 0,.int .u8 40] (M 0 0++X) K):=hid (yes 0 40 (by omega) 0 rfl);have kk2:Hid (∀{X:List Blk}{K:ag7},K (.bool false) (M 1 1++X)->ag6 150 [.ptr p 0,.int .u8 38] (M 1 1++X) K):=hid (no 1 38 (by omega) 1 (by decide));have kk3:Hid (∀{X:List Blk}{K:ag7},K (.bool true) (M 2 1++X)->ag6 150 [.ptr p 0,.int .u8 124] (M 1 1++X) K):=hid (yes 1 124 (by omega) 1 rfl);have kk4:Hid (∀{X:List Blk}{K:ag7},K (.bool true) (M 3 1++X)->ag6 150 [.ptr p 0,.int .u8 41] (M 2 1++X) K):=hid (yes 2 41 (by omega) 1 rfl);have g0:IntKind.i64.wrap (0+1)=1:=rfl;replace h:=hid h;clear no yes;refine ag5 cx ?_;refine ak (λm T' L'=>∃k:Nat,m=2-k/\k<=1/\T'=[(5,.int .i64 (k:Int)),(4,.ptr L.length 0),(0,.ptr p 0),(1,.int .i64 1)]/\L'=M 1 1++[.cells [.int .i64 0,.str [],.str [],.sl [] 0 (some 0),.sl [] 0 (some 0)]]) (CutS (b:=by simp[m1])) ⟨0,rfl,by omega,rfl,rfl⟩ ?_;rintro _ _ _ ⟨k,rfl,hk,rfl,rfl⟩;have hk:k=0\/k=1:=by omega
 rcases hk with rfl|rfl;refine wk ?_;exact ah _ _ _ (by omega) (CutS (b:=by simp[m1])) ⟨1,rfl,by omega,rfl,rfl⟩;refine wk ?_;refine ak (λm T' L'=>m=0/\T'=[(6,.ptr (L.length+1) 0),(5,.int .i64 1),(4,.ptr L.length 0),(0,.ptr p 0),(1,.int .i64 1)]/\L'=M 2 1++[.cells [.int .i64 0,.str [],.str [],.sl [] 0 (some 0),.sl [] 0 (some 0)],.cells [.int .i64 1,.str [],.str [],.sl [] 0 (some 0),.sl [] 0 (some 0)]]) (CutS (b:=by simp[m1])) ⟨rfl,rfl,rfl⟩ ?_;rintro _ _ _ ⟨rfl,rfl,rfl⟩;refine wk ?_;exact fq (by simp[m1]) (λhh=>m8.out _ _ _ hh) rfl h.out
variable {L:List Blk}{K:ag7}
def l20:List bd:=DN 4 [(cnS,[[97]])] []
abbrev agw:Flt:=.mk 0 [] [] [] [.mk 3 [99,110] [97] [] [],.mk 5 [115,110] [98] [] []]
abbrev agv:Flt:=.mk 1 [] [] [] [.mk 3 [99,110] [97] [] [],.mk 3 [115,110] [98] [] []]
abbrev agu:Flt:=.mk 1 [] [] [] []
theorem agE:qx P5 l20 9 agw=some [4]:=by kernel_rfl
theorem agD:qx P5 l20 9 agv=none:=by kernel_rfl
theorem agC:qx P5 l20 9 agu=some []:=by kernel_rfl
theorem Wr:ag6 26 [] [] λv _=>v=.bool true:=by
 obtain⟨x,hx⟩:=ag2 (cG aE);obtain⟨m,hm⟩:=ag2 (aE.length);obtain⟨y,hy⟩:=ag2 (T6);have kk1:Hid (Ctr Tryz.prog 20 [] (.agg [.sl x m none,.sl y 9 none])):=hid λq=>acF (by rw[hx,hm,hy];exact q)
 have kN:Hid (∀{L:List Blk}{c:Option Nat}{K:ag7},(∀L' it B,Hid (IxO L' it P5 [] B)->K (.tup [.ptr it 0,.int .i64 0]) L')->ag6 19 [.agg [.sl x m none,.sl y 9 none],.sl [.str cnS] 1 c] L K):=@hid _ (λ{L c K} q=>by rw[<- hx,<- hm];exact Yr (ns:=[cnS]) rq.1 rq.2.1 (by simp) (λn hn=>by rw[ahs.1 hn];unfold a7;decide) aeI (λL' e=>absurd rfl e) λL' it B _ g1 _ _=>q L' it B (hid g1))
 have kP:Hid (∀{L:List Blk}{it:Nat}{B:Nat->Prop}{c1 c2:Option Nat}{K:ag7},Hid (IxO L it P5 [] B)->(∀L' B',Hid (IxO L' it P5 l20 B')->K (.tup []) L')->ag6 21 [.ptr it 0,.int .i64 4,.sl [.str cnS,.sl [.str [97]] 1 c1] 1 c2] L K):=@hid _ (λ{L it B c1 c2 K} ho q=>by refine iU ?_;simp only[AV.frzL,AV.frz];exact Yq (a:=[(cnS,[[97]])]) ho.out ⟨acW.1,acW.2,by simp⟩ (aeJ _ (by decide)) λL' B' g1 _ _=>q L' B' (hid g1))
 have kA:Hid (Ctr Tryz.prog 58 [.str [40,38,40,99,110,61,97,41,40,115,110,62,61,98,41,41]] (.tup [.agg [.int .i64 0,.str [],.str [],.sl [] 0 none,.sl [.int .i64 3,.str [99,110],.str [97],.sl [] 0 none,.sl [] 0 none,.int .i64 5,.str [115,110],.str [98],.sl [] 0 none,.sl [] 0 none] 2 none],.int .i64 0])):=@hid _ (λ{L K} q=>Oy (s:=WN) (n:=3) (by decide) (λ_=>rfl) (λhL q2=>Z4 hL q2) q);have kB:Hid (Ctr Tryz.prog 58 [.str [40,124,40,99,110,61,97,41,40,115,110,61,98,41,41]] (.tup [.agg [.int .i64 1,.str [],.str [],.sl [] 0 none,.sl [.int .i64 3,.str [99,110],.str [97],.sl [] 0 none,.sl [] 0 none,.int .i64 3,.str [115,110],.str [98],.sl [] 0 none,.sl [] 0 none] 2 none],.int .i64 0])):=@hid _ (λ{L K} q=>Oy (s:=aaQ) (n:=3) (by decide) (λ_=>rfl) (λhL q2=>Z3 hL q2) q);have kC:Hid (Ctr Tryz.prog 58 [.str [40,124,41]] (.tup [.agg [.int .i64 1,.str [],.str [],.sl [] 0 (some 0),.sl [] 0 (some 0)],.int .i64 0])):=@hid _ (λ{L K} q=>Oy (s:=aaP) (n:=1) (by decide) (λ_=>rfl) (λhL q2=>aep hL q2) q);have hidk:Ok l20:=⟨by decide,by decide⟩;have kQ:∀(f:Flt) (r:Option (List Int)) (F:List AV),U8 f->qx P5 l20 9 f=r->AV.frzL F=fA f->Hid (∀{L:List Blk}{it:Nat}{B:Nat->Prop}{X:List Blk}{K:ag7},Hid (IxO L it P5 l20 B)->K (DU r) (L++X)->ag6 27 [.ptr it 0,.agg F,.int .i64 9] (L++X) K):=λf r F hf hr hF=>@hid _ (λ{L it B X K} ho q=>by refine iU ?_;simp only[AV.frzL,AV.frz,hF];exact Ug ho.out hidk f hf (by rw[hr];exact q))
 have kQA:=@kQ agw (some [4]) [.int .i64 0,.str [],.str [],.sl [] 0 none,.sl [.int .i64 3,.str [99,110],.str [97],.sl [] 0 none,.sl [] 0 none,.int .i64 5,.str [115,110],.str [98],.sl [] 0 none,.sl [] 0 none] 2 none] (by simp[FlB,SX]) agE rfl;have kQB:=@kQ agv none [.int .i64 1,.str [],.str [],.sl [] 0 none,.sl [.int .i64 3,.str [99,110],.str [97],.sl [] 0 none,.sl [] 0 none,.int .i64 3,.str [115,110],.str [98],.sl [] 0 none,.sl [] 0 none] 2 none] (by simp[FlB,SX]) agD rfl;have kQC:=@kQ agu (some []) [.int .i64 1,.str [],.str [],.sl [] 0 (some 0),.sl [] 0 (some 0)] (by simp[FlB,SX]) agC rfl;simp only[DU,pW,ahl,aix,ahj,ahX]at kQA kQB kQC;clear kQ hidk hx hm hy;refine ag5 Pa ?_;refine kN.out λL1 it B1 h1=>?_
 refine sk ?_;refine wk ?_;refine kP.out h1 λL2 B2 h2=>?_
 clear h1 kk1;have kk1:=@kA;have kk2:=@kB;have kk3:=@kC;have kk4:Hid (∀{X:List Blk}{K:ag7},K (.tup [.sl [.int .i64 4] 1 none,.bool true]) (L2++X)->ag6 27 [.ptr it 0,.agg [.int .i64 0,.str [],.str [],.sl [] 0 none,.sl [.int .i64 3,.str [99,110],.str [97],.sl [] 0 none,.sl [] 0 none,.int .i64 5,.str [115,110],.str [98],.sl [] 0 none,.sl [] 0 none] 2 none],.int .i64 9] (L2++X) K):=@hid _ (λ{X K} q=>kQA.out h2 q);have kk5:Hid (∀{X:List Blk}{K:ag7},K (.tup [.sl [] 0 (some 0),.bool false]) (L2++X)->ag6 27 [.ptr it 0,.agg [.int .i64 1,.str [],.str [],.sl [] 0 none,.sl [.int .i64 3,.str [99,110],.str [97],.sl [] 0 none,.sl [] 0 none,.int .i64 3,.str [115,110],.str [98],.sl [] 0 none,.sl [] 0 none] 2 none],.int .i64 9] (L2++X) K):=@hid _ (λ{X K} q=>kQB.out h2 q);have kk6:Hid (∀{X:List Blk}{K:ag7},K (.tup [.sl [] 0 none,.bool true]) (L2++X)->ag6 27 [.ptr it 0,.agg [.int .i64 1,.str [],.str [],.sl [] 0 (some 0),.sl [] 0 (some 0)],.int .i64 9] (L2++X) K):=@hid _ (λ{X K} q=>kQC.out h2 q);clear h2 kQA kQB kQC kA kB kC kN kP;refine sk ?_;refine wk ?_;exact aa rfl
theorem XO(h:K (.bool true) L):ag6 26 [] L K:=afg Wr h
theorem Uu{ns:List (List UInt8)}{acts:List bd}{f:Flt}{w more:Int}{cap capA:Option Nat}(hns:∀n∈ns,a7 n)(hnl:(ns.length:Int)<=9223372036854775807)(ha:U9 acts)(hf:ac9 f)(h:∀L',K (.bool true) L'):
  ag6 6 [.agg (.sl (ns.map AV.str) ns.length cap :: .sl (cw acts) acts.length capA::(fA f++[.int .i64 w])),.int .i64 more] L K:=by
 have kkW:Hid (Ctr Tryz.prog 26 [] (.bool true)):=@hid _ (λ{L K} q=>XO q);have kkS:Hid (∀{L:List Blk}{K:ag7},(∀b:Bool,(b=true->U8 f)->K (.bool b) L)->ag6 25 [.agg (fA f)] L K):=@hid _ (λ{L K} q=>aap hf q);have kkM:Hid (∀{L:List Blk}{K:ag7},(∀L',bH (λ_=>False) L L'->K (.tup [.nilptr,.nilptr]) L')->(∀L' it rt tm l B,Hid (IS aE [] ns=(0,tm)/\gv L L' it rt tm l B/\l.length<=40)->K (.tup [.ptr it 0,.ptr rt 0]) L')->ag6 24 [.sl (ns.map AV.str) ns.length cap,.sl (cw acts) acts.length capA] L K):=@hid _ (λ{L K} q0 q1=>abN hns hnl ha q0 λL' it rt tm l B e1 e2 e3=>q1 L' it rt tm l B (hid ⟨e1,e2,e3⟩));have kkA:∀(L:List Blk) (it:Nat) (tm:TMp) (l:List bd) (B:Nat->Prop),IxO L it tm l B->Ok l->U8 f->∀w,Hid (∀{X:List Blk}{K:ag7},K (DU (qx tm l w f)) (L++X)->ag6 27 [.ptr it 0,.agg (fA f),.int .i64 w] (L++X) K):=λL it tm l B ho hi hs w=>@hid _ (λ{X K} q=>Ug ho hi f hs q)
 have hfz:=acu f;obtain⟨k,a,v,ps,ks⟩:=f;rw[Ly]at kkS hfz⊢;rw[Ly]at kkA;obtain⟨PS,hPS⟩:∃P,P=qA ps:=⟨_,rfl⟩;obtain⟨KS,hKS⟩:∃P,P=fsA ks:=⟨_,rfl⟩;obtain⟨NS,hNS⟩:∃P,P=ns.map AV.str:=⟨_,rfl⟩;obtain⟨ES,hES⟩:∃P,P=cw acts:=⟨_,rfl⟩;rw[<- hPS,<- hKS]at kkA kkS⊢;rw[<- hNS,<- hES]at kkM⊢;replace hPS:=hid hPS;replace hKS:=hid hKS;replace hNS:=hid hNS;replace hES:=hid hES;replace h:=hid h;clear hfz hf hns hnl ha;simp only[ahL,ahJ];refine ag5 DS ?_;refine kkM.out (λL1 u1=>?_) (λL1 it rt tm l B hM=>?_);have hb:L1[L.length]?=some (.cells [.sl NS ns.length cap,.sl ES acts.length capA,.int .i64 k,.str a,.str v,.sl PS ps.length none,.sl KS ks.length none,.int .i64 w]):=u1.get (by simp) (λe=>e);have kk1:=@kkW;clear u1 kkM kkA kkS;refine sk ?_;refine wk ?_;exact aa (h.out _);have hb:L1[L.length]?=some (.cells [.sl NS ns.length cap,.sl ES acts.length capA,.int .i64 k,.str a,.str v,.sl PS ps.length none,.sl KS ks.length none,.int .i64 w]):=hM.out.2.1.bes.get (by simp) (λe=>e);have hi:Ok l:=⟨by have:=hM.out.2.2;omega,hM.out.2.1.ids⟩;have kA:=kkA L1 it tm l B hM.out.2.1.ix hi;have hrs:=hM.out.2.1.ix.rise;have hlen:=hid hM.out.2.2;replace kA:=hid kA;replace hrs:=hid hrs;clear hM kkA kkM hi;refine sk ?_;refine wk ?_;refine kkS.out λb hb2=>?_
 cases b with
 | false =>
   have kk1:=@kkW;clear hb2 kA kkS;refine sk ?_;refine wk ?_;exact aa (h.out _)
 |true =>
 have kB:=kA.out (hb2 rfl);clear hb2 kA kkS;by_cases hmw:more<w;have kk1:=@kkW;clear kB;refine sk ?_;refine wk ?_;exact aa (h.out _);have hmw2:w<=more:=by omega
 have kB1:=@kB w;have kB2:=@kB more;have hWd:Pk (qx tm l w (.mk k a v ps ks)) (qx tm l more (.mk k a v ps ks)):=Wu Ow (λk a v ps m e=>(Xg hrs.out e).1) hmw2 _;have hLn:∀m,qx tm l w (.mk k a v ps ks)=some m->(m.length:Int)<=w:=λm e=>aeH e
 have hRs:∀m,qx tm l more (.mk k a v ps ks)=some m->InE l m:=λm e=>QE hrs.out _ m e
 have hRs2:∀m,qx tm l w (.mk k a v ps ks)=some m->InE l m:=λm e=>QE hrs.out _ m e
 obtain⟨oA,ho1⟩:=ag2 (qx tm l w (.mk k a v ps ks));obtain⟨oB,ho2⟩:=ag2 (qx tm l more (.mk k a v ps ks));rw[ho1]at hWd hLn hRs2 kB1;rw[ho2]at hWd hRs kB2;clear ho1 ho2 kB;have hl40:l.length<=40:=hlen.out;cases oA with
 | none =>
   simp only[DU]at kB1;clear hWd hLn hRs2;obtain⟨v2,b2,h2⟩:∃v2 b2,DU oB=.tup [v2,.bool b2]:=(by cases oB<;>exact⟨_,_,rfl⟩);rw[h2]at kB2;have kk1:Hid (∀{K:ag7},K (.tup [.sl [] 0 (some 0),.bool false]) L1->ag6 27 [.ptr it 0,.agg [.int .i64 k,.str a,.str v,.sl PS ps.length none,.sl KS ks.length none],.int .i64 w] L1 K):=@hid _ (λ{K} q=>by have:=kB1.out (X:=[]) (K:=K) (by simpa using q);simpa using this)
   have kk2:Hid (∀{K:ag7},K (.tup [v2,.bool b2]) L1->ag6 27 [.ptr it 0,.agg [.int .i64 k,.str a,.str v,.sl PS ps.length none,.sl KS ks.length none],.int .i64 more] L1 K):=@hid _ (λ{K} q=>by have:=kB2.out (X:=[]) (K:=K) (by simpa using q);simpa using this)
   have kk3:=@kkW;clear kB1 kB2 hRs;refine sk ?_;refine wk ?_;exact aa (h.out _)
 | some m1 =>
   obtain⟨m2,e2,hsub⟩:=hWd m1 rfl;subst e2;simp only[DU]at kB1 kB2;have hm1:=hLn m1 rfl;have hE2:=hRs m2 rfl;have hE1:=hRs2 m1 rfl;have l1:m1.length<=1000:=(by have:=hE1.len;omega);have l2:m2.length<=1000:=(by have:=hE2.len;omega);have hmt:ve [m1,m2]=m2:=by
    refine QV (Ow.mtR _) hE2.1 λx=>?_
    rw[Ow.mtM];constructor
    .rintro⟨_,q⟩;exact q m2 (by simp)
    .intro q;refine⟨by simp,λy hy=>?_⟩;simp only[ahc,aiL,or_false]at hy;rcases hy with rfl|rfl
     .exact hsub x q
     .exact q
   have kk1:Hid (∀{K:ag7},K (.tup [pW m1,.bool true]) L1->ag6 27 [.ptr it 0,.agg [.int .i64 k,.str a,.str v,.sl PS ps.length none,.sl KS ks.length none],.int .i64 w] L1 K):=@hid _ (λ{K} q=>by have:=kB1.out (X:=[]) (K:=K) (by simpa using q);simpa using this)
   have kk2:Hid (∀{K:ag7},K (.tup [pW m2,.bool true]) L1->ag6 27 [.ptr it 0,.agg [.int .i64 k,.str a,.str v,.sl PS ps.length none,.sl KS ks.length none],.int .i64 more] L1 K):=@hid _ (λ{K} q=>by have:=kB2.out (X:=[]) (K:=K) (by simpa using q);simpa using this)
   have kk3:=@kkW;have kk4:Hid (∀{L:List Blk}{c:Option Nat}{K:ag7},K (pW m2) L->ag6 29 [.sl [pW m1,pW m2] 2 c] L K):=@hid _ (λ{L c K} q=>Ym (ls:=[m1,m2]) (by simp) (λy hy=>by simp only[ahc,aiL,or_false]at hy;rcases hy with rfl|rfl<;>omega) (by rw[hmt];exact q))
   have kk5:Hid (Ctr Tryz.prog 22 [pW m2,pW m2] (.bool true)):=@hid _ (λ{L K} q=>adO (by omega) q);clear kB1 kB2 hRs hRs2 hWd hLn hsub hmt hE1 hE2;refine sk ?_;refine wk ?_;exact aa (Kto (h.out _) (by simp[hm1]))
end Go.Proofs.YtcmfcpjnhephaaaGreatDoor.Av
