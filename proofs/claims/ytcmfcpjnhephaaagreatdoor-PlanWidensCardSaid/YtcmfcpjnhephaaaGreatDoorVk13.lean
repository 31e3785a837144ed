/- Joined texts of the walk, made small by a program. -/
import Derived.Test.YtcmfcpjnhephaaaGreatDoorVk11
import Derived.Test.YtcmfcpjnhephaaaGreatDoorVk8
import Derived.Test.YtcmfcpjnhephaaaGreatDoorVk4
import Derived.Test.YtcmfcpjnhephaaaGreatDoorRows
import Derived.KernelRfl
import Derived.Test.YtcmfcpjnhephaaaGreatDoorVk5
import Derived.Test.YtcmfcpjnhephaaaGreatDoorVk12
import Derived.Test.YtcmfcpjnhephaaaGreatDoorVk9
set_option linter.unusedSimpArgs false
set_option linter.unusedVariables false
namespace Go.Proofs.YtcmfcpjnhephaaaGreatDoor.Av
open Go
set_option maxHeartbeats 8000000
set_option maxRecDepth 100000
structure agJ(L0:List Blk)(it im ie ip ii:Nat)(tm:TMp)(pm:List (aY (List UInt8) Nat))(pc:Nat)(L:List Blk):Prop where
 ix:IxH L it im ie ip ii tm tm.length [] 0 pm pc [] 0 (λ_ _=>False) (λ_ _=>False)
 bes:bH (λ_=>False) L0 L
 own:∀i,i∈it::im::ie::ip::ii::(pm.map (·.2.1)++([]:List (aY aF Nat)).map (·.2.1))->L0.length<=i
theorem Yr{ts:List Typ}{capT:Option Nat}{c2:List AV}{n2:Nat}{cap2:Option Nat}{ns:List (List UInt8)}{cap:Option Nat}(hl:ts.length<=1100000)(hts:∀t∈ts,a7 t.1)(hnl:(ns.length:Int)<=9223372036854775807)(hn:∀n∈ns,a7 n){R:Int×TMp}(hR:IS ts [] ns=R){L:List Blk}{K:ag7}(h0:∀L',R.1≠0->bH (λ_=>False) L L'->K (.tup [.nilptr,.int .i64 R.1]) L')(h1:∀L' it B,R.1=0->IxO L' it R.2 [] B->bH (λ_=>False) L L'->(∀i,B i->L.length<=i)->K (.tup [.ptr it 0,.int .i64 0]) L'):
  ag6 19 [.agg [.sl (cG ts) ts.length capT,.sl c2 n2 cap2],.sl (ns.map AV.str) ns.length cap] L K:=by
 have kF:Hid (∀{n:List UInt8},a7 n->∀{L:List Blk}{K:ag7},K (PY (fw ts n)) L->ag6 49 [.agg [.sl (cG ts) ts.length capT,.sl c2 n2 cap2],.str n] L K):=@hid _ (λ{n} h {L K} q=>afO hl hts h q);replace hR:=hid hR;replace hn:=hid hn;replace h0:=hid h0;replace h1:=hid h1;clear hts hl;obtain⟨TS,hTS⟩:=ag2 (cG ts);obtain⟨tl,htl⟩:=ag2 (ts.length);rw[hTS,htl]at kF⊢;refine ag5 Sb ?_;refine ak (λm T' L'=>∃(i:Nat) (tm:TMp) (pm:List (aY (List UInt8) Nat)) (pc:Nat),m=ns.length-i/\i<=ns.length/\Hid (IS ts tm (ns.drop i)=R)/\Hid (agJ L (L.length+5) (L.length+1) (L.length+2) (L.length+3) (L.length+4) tm pm pc L')/\Hid (L'[L.length]?=some (.cells [.sl TS tl capT,.sl c2 n2 cap2]))/\T'=[(21,.int .i64 (i:Int)),(20,.int .i64 ns.length),(19,.sl (ns.map AV.str) ns.length cap),(6,.ptr (L.length+5) 0),(2,.ptr L.length 0)]) (CutS (b:=by simp)) ⟨0,[],[],0,rfl,ahf _,hid (by simpa using hR.out),hid ⟨IxH.start (by rw[ahB (by omega)];simp) (by rw[ahB (by omega)];simp[aT]) (by rw[ahB (by omega)];simp[aT]) (by rw[ahB (by omega)];simp[aT]) (by rw[ahB (by omega)];simp[aT]) (by simp) (λ_ _ e=>e),bH.app _ _,by simp⟩,hid (by simp),rfl⟩ ?_;rintro _ _ L' ⟨i,tm,pm,pc,rfl,hi,hr,hN,hb,rfl⟩;have hst:=hN.out.ix.st;have hl1:L.length+6<=L'.length:=(ag8.1 hst).1;by_cases hlt:i<ns.length;have j1:(i:Int)<(ns.length:Int):=by omega
 have j2:=ag4 i (by omega);have j3:(ns.map AV.str).getD i .undef=.str (ns.getD i []):=by simp[hlt]
 have j4:i<(ns.map AV.str).length:=by simpa using hlt
 obtain⟨n,hn1⟩:=ag2 (ns.getD i []);have hrn:a7 n:=hn.out n (by rw[<- hn1];simp[hlt]);have hdr:ns.drop i=n::ns.drop (i+1):=by rw[ahV hlt,<- hn1];simp[hlt]
 rw[hn1]at j3;have hr2:=hr.out;rw[hdr,IS]at hr2;clear hr hn1 hdr;obtain⟨NS,hNS⟩:=ag2 (ns.map AV.str);rw[hNS]at j3 j4⊢;replace hNS:=hid hNS;obtain⟨f,hf⟩:=ag2 (af n);rw[hf]at hr2;have kk2:Hid (Ctr Tryz.prog 38 [.str n] (.str f)):=@hid _ (by intro L K q;exact fC hrn (by rw[hf];exact q));have hks:bw .str (.str f)=true:=rfl;have aX:∀(X:List Blk){i:Nat}{b:Blk},L'[i]?=some b->(L'++X)[i]?=some b:=λX {i b} e=>ag3 e
 have a0:L'[L.length]?=some (.cells [.sl TS tl capT,.sl c2 n2 cap2]):=hb.out;have a1:∀X,(L'++X)[L.length+5]?=some (.cells [.lmap (L.length+1),.lmap (L.length+2),.lmap (L.length+3),.lmap (L.length+4)]):=λX=>aX X hst
 have a2:∀X,(L'++X)[L.length+1]?=some (.map (aT AV.str tyV tm) tm.length):=λX=>aX X hN.out.ix.ty
 clear hb;have kT:∀(t:Option Typ),fw ts n=t->∃t1 t2 t3 t4,t.getD oM=(t1,t2,t3,t4)/\Hid (Ctr Tryz.prog 49 [.agg [.sl TS tl capT,.sl c2 n2 cap2],.str n] (.tup [.agg [.str t1,.int .i64 t2,.bool t3,.bool t4],.bool t.isSome])):=λt ht=>by obtain⟨⟨t1,t2,t3,t4⟩,h⟩:∃x,t.getD oM=x:=⟨_,rfl⟩;refine⟨t1,t2,t3,t4,h,@hid _ (λ{L K} q=>kF.out hrn ?_)⟩;rw[ht,PY,h];exact q
 obtain⟨t1,t2,t3,t4,ht,kk1⟩:=kT _ rfl;clear kT hst;rcases cU (va:=tyV) pH hN.out.ix.tok f (t1,t2,t3,t4)with⟨j,⟨w1,w2,w3,w4⟩,q1,q2,q3,q4⟩|⟨q1,q2,q3,q4⟩;rcases hty:fw ts n with _|ty;rw[hty]at hr2 kk1;have hfin:=hid (h0.out (L'++[.cells [.str t1,.int .i64 t2,.bool t3,.bool t4],.cells [.str w1,.int .i64 w2,.bool w3,.bool w4]]) (by rw[<- hr2];simp) (hN.out.bes.app2 _));rw[<- hr2]at hfin;simp only[aiG]at kk1;clear hN hty ht hr2 q1 q3 q4 aX hR;refine wk ?_;refine⟨aC (kk2.out ⟨rfl,rfl⟩) rfl,?_⟩;refine wk ?_;exact aa hfin.out;rw[hty]at hr2 kk1;simp only[if_pos q4]at hr2;have hfin:=hid (h0.out (L'++[.cells [.str t1,.int .i64 t2,.bool t3,.bool t4],.cells [.str w1,.int .i64 w2,.bool w3,.bool w4]]) (by rw[<- hr2];simp) (hN.out.bes.app2 _));rw[<- hr2]at hfin;simp only[aiM]at kk1;clear hN hty ht hr2 q1 q3 q4 aX hR;refine wk ?_;refine⟨aC (kk2.out ⟨rfl,rfl⟩) rfl,?_⟩;refine wk ?_;exact aa hfin.out;rcases hty:fw ts n with _|ty;rw[hty]at hr2 kk1;have hfin:=hid (h0.out (L'++[.cells [.str t1,.int .i64 t2,.bool t3,.bool t4],.cells [.str [],.int .i64 0,.bool false,.bool false]]) (by rw[<- hr2];simp) (hN.out.bes.app2 _));rw[<- hr2]at hfin;simp only[aiG]at kk1;clear hN hty ht hr2 q1 q3 q4 aX hR;refine wk ?_;refine⟨aC (kk2.out ⟨rfl,rfl⟩) rfl,?_⟩;refine wk ?_;exact aa hfin.out;rw[hty]at hr2 kk1 ht;simp only[if_neg q4]at hr2;simp only[aiM]at kk1;simp only[aie]at ht;subst ht;have hfp:f∉pm.map (·.1):=λe=>q4 ((hN.out.ix.pk f).1 e)
 rcases cU (va:=AV.lmap) pH hN.out.ix.pok f (L'.length+2)with⟨_,_,_,_,_,p4⟩|⟨p1,p2,p3,p4⟩;exact absurd p4 hfp;have hT:=(hN.out.ix.more [.cells [.str t1,.int .i64 t2,.bool t3,.bool t4],.cells [.str [],.int .i64 0,.bool false,.bool false]]).tyNew q4 (t1,t2,t3,t4) (λ_ e=>e);have him:L.length+1<L'.length:=by omega
 have hip:L.length+3<L'.length:=by omega
 have s1:∀X c,(L'++X).set (L.length+1) c=L'.set (L.length+1) c++X:=λX c=>ahY _ _ him
 have s2:∀X c d,(L'.set (L.length+1) c++X).set (L.length+3) d=(L'.set (L.length+1) c).set (L.length+3) d++X:=λX c d=>ahY _ _ (by simpa using hip)
 have s3:∀c,(L'.set (L.length+1) c).length=L'.length:=λc=>by simp
 have gl:∀(X:List Blk) c{j:Nat}{b:Blk},L.length+1≠j->L'[j]?=some b->(L'.set (L.length+1) c++X)[j]?=some b:=λX c {j b} ne e=>by rw[ahi (by simpa using(ag8.1 e).1),ahx ne];exact e
 have b1:∀X c,(L'.set (L.length+1) c++X)[L.length+5]?=some (.cells [.lmap (L.length+1),.lmap (L.length+2),.lmap (L.length+3),.lmap (L.length+4)]):=λX c=>gl X c (by omega) hN.out.ix.st
 have b2:∀X c,(L'.set (L.length+1) c++X)[L.length+3]?=some (.map (aT AV.str AV.lmap pm) pc):=λX c=>gl X c (by omega) hN.out.ix.pr
 have b3:∀(a c d:Blk) (X:List Blk),(L'++a::X)[L'.length]?=some a:=λa c d X=>pI _ _ _
 rw[s1,aho,s2,show(L'++[Blk.cells [.str t1,.int .i64 t2,.bool t3,.bool t4],Blk.cells [.str [],.int .i64 0,.bool false,.bool false]]).length=L'.length+2 by simp]at hT;have hes:pV tm f (t1,t2,t3,t4) tm.length=tm++[(f,(t1,t2,t3,t4),tm.length)]:=by unfold pV;rw[if_neg q4]
 have hep:pV pm f (L'.length+2) pc=pm++[(f,L'.length+2,pc)]:=by unfold pV;rw[if_neg p4]
 rw[hes]at q3;rw[hep]at p3;have hB:=hN.out.bes;have hN2:=hid (show agJ L (L.length+5) (L.length+1) (L.length+2) (L.length+3) (L.length+4) (tm++[(f,(t1,t2,t3,t4),tm.length)]) (pm++[(f,L'.length+2,pc)]) (pc+1) _ from⟨hT,⟨by simp;omega,λj hj _=>by
  rw[ahi (by simp;omega),ahx (by omega),ahx (by omega)];exact hB.eq j hj (λe=>e)⟩,λj hj=>by
  simp only[ahE,ahl,aix,ahc,ahb,aiL,or_false]at hj;rcases hj with e|e|e|e|e|e|e;omega;omega;omega;omega;omega;exact hN.out.own j (by simp only[ahc,ahb];exact .inr (.inr (.inr (.inr (.inr (.inl e))))));omega⟩)
 have hbb:Hid (((L'.set (L.length+1) (WK (tm++[(f,(t1,t2,t3,t4),tm.length)]) (tm.length+1))).set (L.length+3) (abn (pm++[(f,L'.length+2,pc)]) (pc+1))++([.cells [.str t1,.int .i64 t2,.bool t3,.bool t4],.cells [.str [],.int .i64 0,.bool false,.bool false]]++[lq [] 0]))[L.length]?=some (.cells [.sl TS tl capT,.sl c2 n2 cap2])):=hid (by rw[ahi (by simp;omega),ahx (by omega),ahx (by omega)];exact a0)
 replace hr2:=hid hr2;clear hT hN hB aX gl hes hep p4 q4 q1 p1 hfp hty hR him hip;refine wk ?_;refine⟨aC (kk2.out ⟨rfl,rfl⟩) rfl,?_⟩;refine wk ?_;refine⟨aC (kk2.out ⟨rfl,rfl⟩) rfl,?_⟩;refine wk ?_;rw[<- hNS.out];exact ah _ _ _ (by omega) (CutL (b:=by simp;omega)) ⟨i+1,_,_,_,rfl,hlt,hr2,hN2,hbb,rfl⟩;have hie:i=ns.length:=by omega
 subst hie;have j1:¬(ns.length:Int)<(ns.length:Int):=by omega
 have hr2:=hr.out;rw[ahU,IS]at hr2;have hfin:=hid (h1.out L' (L.length+5) _ (by rw[<- hr2]) (by rw[<- hr2];exact⟨L.length+1,L.length+2,L.length+3,L.length+4,[],0,pm,pc,[],0,hN.out.ix.iff (λf x _=>by simp[lr]) (λk x=>by simp[fD]),Mh.nil,List.Pairwise.nil,λi=>Iff.rfl⟩) hN.out.bes hN.out.own)
 clear hr2 hr hN hb hst hR;refine wk ?_;exact aa hfin.out
variable {L:List Blk}{K:ag7}
theorem agS{l:List (List UInt8)}{k:Nat}(h:k<l.length):(l.map AV.str).getD k .undef=.str (l.getD k []):=by rw[ahz,ahz];simp[h]
theorem aei{xs:List (List UInt8)}{cap:Option Nat}{s:List UInt8}(hn:xs.length<=1000000000000)(h:K (.bool (xs.contains s)) L):
  ag6 82 [.sl (xs.map AV.str) xs.length cap,.str s] L K:=by
 replace h:=hid h;have hg:=hid (λk (q:k<xs.length)=>agS q);have hl:(xs.map AV.str).length=xs.length:=by simp
 obtain⟨X,hX⟩:=ag2 (xs.map AV.str);rw[hX]at hg hl⊢;clear hX;refine ag5 R3 ?_;refine ak (λn T' L'=>∃k:Nat,n=xs.length-k/\k<=xs.length/\T'=[(9,.int .i64 (k:Int)),(8,.int .i64 xs.length),(7,.sl X xs.length cap),(1,.str s)]/\L=L'/\Hid (∀j,j<k->xs.getD j []≠s)) (CutS (b:=ag9 _)) ⟨0,rfl,ahf _,rfl,rfl,hid (by simp)⟩ ?_;rintro _ _ L' ⟨k,rfl,hk,rfl,e,hr⟩;subst e;by_cases hlt:k<xs.length;have g1:(k:Int)<(xs.length:Int):=by omega
 have g2:=ag4 k (by omega);have e3:=hg.out k hlt;have e4:k<X.length:=by omega
 obtain⟨x,hx⟩:=ag2 (xs.getD k []);rw[hx]at e3;by_cases hq:x=s;have e:xs.contains s=true:=by rw[ah1,<- hq,<- hx];simp[hlt]
 rw[e]at h;replace hx:=hid hx;subst hq;clear e;refine wk ?_;exact aa h.out;have hr2:Hid (∀j,j<k+1->xs.getD j []≠s):=hid (λj hj=>by rcases aht j k with h|h;exact hr.out j h;have:j=k:=(by omega);subst this;rw[hx];exact hq)
 clear hx hr;refine wk ?_;exact ah _ _ _ (by omega) (CutL (b:=by simp)) ⟨k+1,rfl,hlt,rfl,rfl,hr2⟩;have g1:¬(k:Int)<(xs.length:Int):=by omega
 have e:xs.contains s=false:=by simp only[ahW,decide_eq_false_iff_not];intro hs;obtain⟨j,hj,e⟩:=aiq.1 hs;exact hr.out j (by omega) (by simp[hj,e])
 rw[e]at h;clear hr e;refine wk ?_;exact aa h.out
end Go.Proofs.YtcmfcpjnhephaaaGreatDoor.Av
set_option maxRecDepth 100000
namespace Go.Proofs.YtcmfcpjnhephaaaGreatDoor.Av
open Go
def I7:LSO:=[A4 2 0,AP 4,Ac 5 0]
def I6:LSO:=[Ap 9 2 2,o1 10 (.build [(.sl [] 0 (some 0)),(.sl [] 0 (some 0)),(.sl [] 0 (some 0)),(.sl [] 0 (some 0))] [(0,(2,(tm 9)))]),A4 11 10,Aa 6 11]
def I5:LSO:=[Aa 12 1,Am 13 12,Ac 14 0]
def I4:LSO:=[Al 15 14 13]
def I3:LSO:=[An 16 1 12 14,Ab 17 1 16,Aa 8 17]
def I2:LSO:=[Ad 18 0 2,Ab 19 1 18,Aa 20 8,Ax 21 12 19 20,AH 22 21 0]
def I1:LSO:=[AP 4,Ac 5 20]
def I0:LSO:=[Aa 23 6,As 24 23,Ad 25 2 24,Ab 26 1 25,Aa 27 8,Ak 28 39 27,Ax 29 82 26 28]
def IZ:LSO:=[AP 4,Ac 5 21]
def IY:List (ai×Kd):=
 [A6 30 6,A6 31 6,AE 32 31 0 0,A5 33 2 32,Az 34 1 33 0 0,A6 35 8,Ba 36 39 35 0 0,od 37 (.bslice false 1 1 [(.str [])] [(0,(1,(tm 36)))]) (.read 0 0),
 od 38 (.app 1 1 16 [(.str [])] (tm 34) (tm 37)) .eff]
def D6:List ai :=
 [⟨(some 39),(.nilchk (tm 30)),none⟩,⟨(some 40),(.faddr 2 (tm 39)),none⟩,⟨none,(.store 1 (tm 40) (tm 38)),none⟩]
def D8:LSO:=[Ag 41 14 1,Aa 14 41]
def D7:LSO:=[Aa 42 6,Aa 4 42,Ac 5 0]
def H4:aO:=⟨43,(akg I7 [] (akg I6 Cs (.seq (akg I5 [] (akj 0 (akg I4 [] (.seq (akk 15 0) (.seq (.block 1 (akg I3 Cr (.seq (akg I2 Ct (aki 22 (.sreg I1 []))) (.seq (.seq (.sdreg I0 [.pure,(.read 0 0),.pure,(.read 0 0),.pure,(.read 0 0)] Cw) (aki 29 (.sreg IZ []))) (.dregM IY D6 [false,false,false,false,false,false,false,false,false,false,false]))))) (.sreg D8 Cq)))))) (akg D7 Cv .ret)))),[(.tmp 4),(.tmp 5)]⟩
attribute [push_cast] I7 I6 I5 I4 I3 I2 I1 I0 IZ IY D6 D8 D7
theorem RY:akl 32=akm H4:=by kernel_rfl
def nx:LSO:=[Aj 4]
def nw:LSO:=[Aa 7 0,As 8 7,Ad 9 3 8,Ab 10 1 9,Am 11 10,Ac 12 0]
def nv:LSO:=[Al 13 12 11]
def nu:LSO:=[An 14 2 10 12,Ap 15 2 14,Cl 6,Ai 2 6 15]
def nr:LSO:=[Ad 16 0 6,Ab 17 1 16,Aa 18 1,BN 19 17 18]
def nq:LSO:=[Aa 20 4,Ap 21 2 6,BO 22 21,BP 23 20 22,Aa 4 23]
def np:LSO:=[Ag 24 12 1,Aa 12 24]
def nl:LSO:=[Aa 25 0,Aa 26 4,As 27 25,Ad 28 3 27,Ai 1 28 26]
def gX:aO:=⟨29,(akg nx [] (.seq (akg nw CP (akj 0 (akg nv [] (.seq (akk 13 0) (.seq (.block 1 (akg nu Cr (akg nr Cs (akh 19 (.sreg nq Ct) .skip)))) (.sreg np Cq)))))) (.sreg nl CH))),[]⟩
attribute [push_cast] nx nw nv nu nr nq np nl
theorem DR:akl 36=akm gX:=by kernel_rfl
def pf:LSO:=[Aa 10 0,Aa 11 1,Ax 12 36 10 11]
def o9:LSO:=[Aj 6]
def o8:LSO:=[Af 7]
def o7:LSO:=[Aa 13 0,As 14 13,Ad 15 3 14,Ab 16 1 15,Am 17 16,Ac 18 0]
def o6:LSO:=[Al 19 18 17]
def o5:LSO:=[An 20 2 16 18,Ap 21 2 20,Cl 9,Ai 2 9 21]
def o4:LSO:=[Aa 22 7,Ay 23 22,Aa 24 23,.grp none 24 true
 [Ae 25 24 1,A8 26 24 0 9,A7 27 24 1 26,Bt 28 24 25 27]
 29 (tm 28)]
def o3:LSO:=[Aa 30 6,Aa 31 1,Aa 32 2,Ak 33 86 32,o1 34 (.build [(.int .i64 0),(.sl [] 0 (some 0))] [(0,(1,(tm 31))),(1,(1,(tm 33)))]),BO 35 34,BP 36 30 35,
 Aa 6 36]
def oZ:LSO:=[A0 7]
def oY:LSO:=[Aa 37 6,Ap 38 2 9,BO 39 38,BP 40 37 39,Aa 6 40]
def nj:LSO:=[Ag 41 18 1,Aa 18 41]
def ni:LSO:=[Aa 42 7,Ay 43 42]
def nh:LSO:=[Aa 44 6,Aa 45 1,Aa 46 2,Ak 47 86 46,o1 48 (.build [(.int .i64 0),(.sl [] 0 (some 0))] [(0,(1,(tm 45))),(1,(1,(tm 47)))]),BO 49 48,BP 50 44 49,
 Aa 6 50]
def ng:LSO:=[Aa 51 0,Aa 52 6,As 53 51,Ad 54 3 53,Ai 1 54 52]
def k9:aO:=⟨55,(akg pf CK (akg o9 [] (akg o8 [] (.seq (akg o7 CP (akj 0 (akg o6 [] (.seq (akk 19 0) (.seq (.block 1 (akg o5 Cr (.seq (akg o4 Cs (akh 29 (akg o3 Cx (.sreg oZ [])) .skip)) (.sreg oY Ct)))) (.sreg nj Cq)))))) (.seq (akg ni Cq (akh 43 (.sreg nh Cx) .skip)) (.sreg ng CH)))))),[]⟩
attribute [push_cast] pf o9 o8 o7 o6 o5 o4 o3 oZ oY nj ni nh ng
theorem H5:akl 37=akm k9:=by kernel_rfl
attribute [push_cast] H4 gX k9
end Go.Proofs.YtcmfcpjnhephaaaGreatDoor.Av
set_option maxRecDepth 100000
namespace Go.Proofs.YtcmfcpjnhephaaaGreatDoor.Av
open Go
variable {cap:Option Nat}{L L0:List Blk}{ts:List Typ}{K:ag7}{l:List bd}{rt it:Nat}{B:Nat->Prop}
def wZ:LSO:=[Aj 6]
def wY:LSO:=[Aa 9 2,Am 10 9,Ac 11 0]
def wX:LSO:=[Al 12 11 10]
def wW:LSO:=[An 13 1 9 11,Ab 14 1 13,Aa 8 14]
def wV:LSO:=[Aa 15 0,Aa 16 8,Aa 17 1,o1 18 (.build [(.str []),(.int .i64 0),(.bool false),(.bool false)] [(0,(1,(tm 16))),(1,(1,(tm 17)))]),BQ 19 18,BR 20 15 19,
 Aa 0 20]
def wU:LSO:=[Ag 21 11 1,Aa 11 21]
def wT:LSO:=[Aa 22 0,Aa 6 22]
def rD:aO:=⟨23,(akg wZ [] (.seq (akg wY [] (akj 0 (akg wX [] (.seq (akk 12 0) (.seq (.block 1 (akg wW Cr (.sreg wV Cw))) (.sreg wU Cq)))))) (akg wT Cq .ret))),[(.tmp 6)]⟩
attribute [push_cast] wZ wY wX wW wV wU wT
theorem OZ:akl 50=akm rD:=by kernel_rfl
def EZ:LSO:=[Cm 0]
def EY:LSO:=[Cm 1]
def EX:LSO:=[Ad 5 0 1,Ab 6 1 5,o1 7 (.bslice false 1 1 [(.str [])] [(0,(1,(.av (.str [111,98,106,101,99,116,67,108,97,115,115]))))]),Bm 8 50 6 3 7,Ad 9 0 1,Ai 1 9 8]
def EW:LSO:=[Ad 10 0 1,Ab 11 1 10,
 o1 12 (.bslice false 1 4 [(.str []),(.str []),(.str []),(.str [])] [(0,(1,(.av (.str [99,110])))),(1,(1,(.av (.str [115,110])))),(2,(1,(.av (.str [111,117])))),(3,(1,(.av (.str [111]))))]),
 Bm 13 50 11 1 12,Ad 14 0 1,Ai 1 14 13]
def EV:LSO:=[Ad 15 0 1,Ab 16 1 15,
 o1 17 (.bslice false 1 3 [(.str []),(.str []),(.str [])] [(0,(1,(.av (.str [100,99])))),(1,(1,(.av (.str [117,105,100])))),(2,(1,(.av (.str [109,97,105,108]))))]),
 Bm 18 50 16 3 17,Ad 19 0 1,Ai 1 19 18]
def EU:LSO:=[Ad 20 0 1,Ab 21 1 20,BC 22,Bm 23 50 21 1 22,Ad 24 0 1,Ai 1 24 23]
def ET:LSO:=[Ad 25 0 1,Ab 26 1 25,o1 27 (.bslice false 1 1 [(.str [])] [(0,(1,(.av (.str [109,101,109,98,101,114]))))]),Bm 28 50 26 6 27,Ad 29 0 1,Ai 1 29 28]
def ER:LSO:=[Ad 30 0 1,Ab 31 1 30,o1 32 (.bslice false 1 1 [(.str [])] [(0,(1,(.av (.str [117,115,101,114,80,97,115,115,119,111,114,100]))))]),Bm 33 50 31 7 32,
 Ad 34 0 1,Ai 1 34 33]
def EP:LSO:=[Ad 35 0 1,Ab 36 1 35,
 o1 37 (.build [(.str []),(.int .i64 0),(.bool false),(.bool false)] [(0,(1,(.av (.str [101,109,112,108,111,121,101,101,78,117,109,98,101,114])))),(1,(1,(iv 4))),(2,(1,(.av (.bool true))))]),
 BQ 38 37,BR 39 36 38,Ad 40 0 1,Ai 1 40 39]
def EO:LSO:=[Ad 41 0 1,Ab 42 1 41,
 o1 43 (.build [(.str []),(.int .i64 0),(.bool false),(.bool false)] [(0,(1,(.av (.str [97,99,116,105,118,101])))),(1,(1,(iv 5))),(2,(1,(.av (.bool true))))]),BQ 44 43,
 BR 45 42 44,Ad 46 0 1,Ai 1 46 45]
def xr:LSO:=[o1 47 (.bslice false 1 5 [(.str []),(.str []),(.str []),(.str []),(.str [])] [(0,(1,(.av (.str [99,114,101,97,116,101,100,65,116])))),(1,(1,(.av (.str [99,104,97,110,103,101,100,65,116])))),(2,(1,(.av (.str [112,119,100,70,97,105,108,117,114,101])))),(3,(1,(.av (.str [112,119,100,76,111,99,107,101,100])))),(4,(1,(.av (.str [112,119,100,67,104,97,110,103,101,100]))))]),
 Am 48 47,Ac 49 0]
def xq:LSO:=[Al 50 49 48]
def xp:LSO:=[An 51 1 47 49,Ab 52 1 51,Aa 3 52]
def xo:LSO:=[Aa 53 3,
 o1 54 (.build [(.str []),(.int .i64 0),(.bool false),(.bool false)] [(0,(1,(tm 53))),(1,(1,(iv 4))),(2,(1,(.av (.bool true)))),(3,(1,(.av (.bool true))))]),Bv 4,Ai 4 4 54]
def xm:LSO:=[Aa 55 3,o1 56 (.bin .eql (tm 55) (.av (.str [112,119,100,70,97,105,108,117,114,101])))]
def xl:LSO:=[Ad 57 1 4,Bc 1 57 3]
def xk:LSO:=[Ad 58 2 4,o0 (.store 1 (tm 58) (.av (.bool false)))]
def xj:LSO:=[Ad 59 0 1,Ab 60 1 59,Ap 61 4 4,BQ 62 61,BR 63 60 62,Ad 64 0 1,Ai 1 64 63]
def xi:LSO:=[Ag 65 49 1,Aa 49 65]
def xh:LSO:=[Ad 66 1 1,Ab 67 1 66,o1 68 (.bslice false 1 1 [(.str [])] [(0,(1,(.av (.str [111,98,106,101,99,116,67,108,97,115,115]))))]),
 o1 69 (.bslice false 1 5 [(.str []),(.str []),(.str []),(.str []),(.str [])] [(0,(1,(.av (.str [99,114,101,97,116,101,100,65,116])))),(1,(1,(.av (.str [99,104,97,110,103,101,100,65,116])))),(2,(1,(.av (.str [112,119,100,70,97,105,108,117,114,101])))),(3,(1,(.av (.str [112,119,100,76,111,99,107,101,100])))),(4,(1,(.av (.str [112,119,100,67,104,97,110,103,101,100]))))]),
 o1 70 (.build [(.str []),(.str []),(.int .i64 0),(.sl [] 0 (some 0)),(.sl [] 0 (some 0))] [(0,(1,(.av (.str [116,111,112])))),(3,(1,(tm 68))),(4,(1,(tm 69)))]),Bd 71 70,
 Be 72 67 71,Ad 73 1 1,Ai 1 73 72]
def xg:LSO:=[Ad 74 1 1,Ab 75 1 74,o1 76 (.bslice false 1 1 [(.str [])] [(0,(1,(.av (.str [100,99]))))]),BC 77,
 o1 78 (.build [(.str []),(.str []),(.int .i64 0),(.sl [] 0 (some 0)),(.sl [] 0 (some 0))] [(0,(1,(.av (.str [100,111,109,97,105,110])))),(1,(1,(.av (.str [116,111,112])))),(2,(1,(iv 1))),(3,(1,(tm 76))),(4,(1,(tm 77)))]),
 Bd 79 78,Be 80 75 79,Ad 81 1 1,Ai 1 81 80]
def xf:LSO:=[Ad 82 1 1,Ab 83 1 82,o1 84 (.bslice false 1 1 [(.str [])] [(0,(1,(.av (.str [111]))))]),BC 85,
 o1 86 (.build [(.str []),(.str []),(.int .i64 0),(.sl [] 0 (some 0)),(.sl [] 0 (some 0))] [(0,(1,(.av (.str [111,114,103,97,110,105,122,97,116,105,111,110])))),(1,(1,(.av (.str [116,111,112])))),(2,(1,(iv 1))),(3,(1,(tm 84))),(4,(1,(tm 85)))]),
 Bd 87 86,Be 88 83 87,Ad 89 1 1,Ai 1 89 88]
def xe:LSO:=[Ad 90 1 1,Ab 91 1 90,o1 92 (.bslice false 1 1 [(.str [])] [(0,(1,(.av (.str [111,117]))))]),BC 93,
 o1 94 (.build [(.str []),(.str []),(.int .i64 0),(.sl [] 0 (some 0)),(.sl [] 0 (some 0))] [(0,(1,(.av (.str [111,114,103,97,110,105,122,97,116,105,111,110,97,108,85,110,105,116])))),(1,(1,(.av (.str [116,111,112])))),(2,(1,(iv 1))),(3,(1,(tm 92))),(4,(1,(tm 93)))]),
 Bd 95 94,Be 96 91 95,Ad 97 1 1,Ai 1 97 96]
def xd:LSO:=[Ad 98 1 1,Ab 99 1 98,o1 100 (.bslice false 1 2 [(.str []),(.str [])] [(0,(1,(.av (.str [99,110])))),(1,(1,(.av (.str [115,110]))))]),
 o1 101 (.bslice false 1 2 [(.str []),(.str [])] [(0,(1,(.av (.str [100,101,115,99,114,105,112,116,105,111,110])))),(1,(1,(.av (.str [117,115,101,114,80,97,115,115,119,111,114,100]))))]),
 o1 102 (.build [(.str []),(.str []),(.int .i64 0),(.sl [] 0 (some 0)),(.sl [] 0 (some 0))] [(0,(1,(.av (.str [112,101,114,115,111,110])))),(1,(1,(.av (.str [116,111,112])))),(2,(1,(iv 1))),(3,(1,(tm 100))),(4,(1,(tm 101)))]),
 Bd 103 102,Be 104 99 103,Ad 105 1 1,Ai 1 105 104]
def xc:LSO:=[Ad 106 1 1,Ab 107 1 106,
 o1 108 (.bslice false 1 4 [(.str []),(.str []),(.str []),(.str [])] [(0,(1,(.av (.str [117,105,100])))),(1,(1,(.av (.str [109,97,105,108])))),(2,(1,(.av (.str [101,109,112,108,111,121,101,101,78,117,109,98,101,114])))),(3,(1,(.av (.str [97,99,116,105,118,101]))))]),
 o1 109 (.build [(.str []),(.str []),(.int .i64 0),(.sl [] 0 (some 0)),(.sl [] 0 (some 0))] [(0,(1,(.av (.str [105,110,101,116,80,101,114,115,111,110])))),(1,(1,(.av (.str [112,101,114,115,111,110])))),(2,(1,(iv 1))),(4,(1,(tm 108)))]),
 Bd 110 109,Be 111 107 110,Ad 112 1 1,Ai 1 112 111]
def xa:LSO:=[Ad 113 1 1,Ab 114 1 113,o1 115 (.bslice false 1 2 [(.str []),(.str [])] [(0,(1,(.av (.str [99,110])))),(1,(1,(.av (.str [109,101,109,98,101,114]))))]),
 BC 116,
 o1 117 (.build [(.str []),(.str []),(.int .i64 0),(.sl [] 0 (some 0)),(.sl [] 0 (some 0))] [(0,(1,(.av (.str [103,114,111,117,112])))),(1,(1,(.av (.str [116,111,112])))),(2,(1,(iv 1))),(3,(1,(tm 115))),(4,(1,(tm 116)))]),
 Bd 118 117,Be 119 114 118,Ad 120 1 1,Ai 1 120 119]
def w9:LSO:=[Ad 121 1 1,Ab 122 1 121,o1 123 (.bslice false 1 1 [(.str [])] [(0,(1,(.av (.str [117,115,101,114,80,97,115,115,119,111,114,100]))))]),
 o1 124 (.build [(.str []),(.str []),(.int .i64 0),(.sl [] 0 (some 0)),(.sl [] 0 (some 0))] [(0,(1,(.av (.str [115,101,99,117,114,101,100])))),(1,(1,(.av (.str [116,111,112])))),(2,(1,(iv 2))),(3,(1,(tm 123)))]),
 Bd 125 124,Be 126 122 125,Ad 127 1 1,Ai 1 127 126]
def w8:LSO:=[Ad 128 1 1,Ab 129 1 128,o1 130 (.bslice false 1 2 [(.str []),(.str [])] [(0,(1,(.av (.str [117,105,100])))),(1,(1,(.av (.str [109,97,105,108]))))]),
 o1 131 (.build [(.str []),(.str []),(.int .i64 0),(.sl [] 0 (some 0)),(.sl [] 0 (some 0))] [(0,(1,(.av (.str [108,97,98,101,108,108,101,100])))),(1,(1,(.av (.str [116,111,112])))),(2,(1,(iv 2))),(4,(1,(tm 130)))]),
 Bd 132 131,Be 133 129 132,Ad 134 1 1,Ai 1 134 133]
def w7:LSO:=[Ap 135 2 1,Ai 2 0 135]
def vY:aO:=⟨136,(akg EZ [] (akg EY [] (akg EX C0 (akg EW C0 (akg EV C0 (akg EU C0 (akg ET C0 (akg ER C0 (akg EP CG (akg EO CG (.seq (akg xr [] (akj 0 (akg xq [] (.seq (akk 50 0) (.seq (.block 1 (akg xp Cr (akg xo Cr (.seq (akg xm Cq (akh 56 (akg xl C3 (.sreg xk C3)) .skip)) (.sreg xj CG))))) (.sreg xi Cq)))))) (akg xh CE (akg xg CE (akg xf CE (akg xe CE (akg xd CE (akg xc C2 (akg xa CE (akg w9 C2 (akg w8 C2 (akg w7 C3 .ret))))))))))))))))))))),[(.cell true 2 0)]⟩
attribute [push_cast] EZ EY EX EW EV EU ET ER EP EO xr xq xp xo xm xl xk xj xi xh xg xf xe xd xc xa w9 w8 w7
theorem Qg:akl 20=akm vY:=by kernel_rfl
attribute [push_cast] rD
variable {L:List Blk}{K:ag7}
set_option maxHeartbeats 8000000
set_option maxRecDepth 1000000
abbrev tnC(syn:Int)(nm:List UInt8):List AV:=[.str nm,.int .i64 syn,.bool false,.bool false]
theorem Y8{α:Type}{L:List α}{p:Nat}{b:α}(h:L[p]?=some b):L.set p b=L:=by apply aiB;intro i;rw[ahv];split;rename_i e;subst e;rw[h,if_pos (ag8.1 h).1];rfl
theorem ady{C:List AV}{n p:Nat}{syn:Int}{names:List (List UInt8)}(hn:n+names.length<=1100000)(hp:L[p]?=some (.spare n 4))(h:K (.gsl (C++names.flatMap (tnC syn)) (n+names.length) p 4) (L.set p (.spare (n+names.length) 4))):
  ag6 50 [.gsl C n p 4,.int .i64 syn,.sl (names.map AV.str) names.length cap] L K:=by
 have hpl:p<L.length:=(ag8.1 hp).1;have hset:∀b,(L.set p b)[p]?=some b:=λb=>by simp[hpl]
 replace h:=hid h;refine ag5 OZ ?_;refine ak (λm T' L'=>∃(j z:Nat) (D:List AV) (M:List Blk),m=names.length-j/\j<=names.length/\z=n+j/\Hid (D=C++(names.take j).flatMap (tnC syn))/\Hid (M=L.set p (.spare z 4))/\T'=[(11,.int .i64 (j:Int)),(10,.int .i64 names.length),(9,.sl (names.map AV.str) names.length cap),(0,.gsl D z p 4),(1,.int .i64 syn)]/\M=L') (CutS (b:=ag9 _)) ⟨0,n,C,L,rfl,ahf _,rfl,hid (by simp),hid (Y8 hp).symm,rfl,rfl⟩ ?_;rintro _ _ _ ⟨j,z,D,M,rfl,hj,hz,hD,hM,rfl,rfl⟩;by_cases hlt:j<names.length;have g1:(j:Int)<(names.length:Int):=by omega
 have g2:=ag4 j (by omega);obtain⟨x,hx⟩:=ag2 (names.getD j []);have j3:(names.map AV.str).getD j .undef=.str x:=by rw[<- hx];simp[hlt]
 have htk:names.take (j+1)=names.take j++[x]:=by rw[ahw hlt,<- hx];simp[hlt]
 have hMp:M[p]?=some (.spare z 4):=by rw[hM.out];exact hset _
 have hD2:D++[.str x,.int .i64 syn,.bool false,.bool false]=C++(names.take (j+1)).flatMap (tnC syn):=by rw[hD.out,htk];simp
 have hM2:M.set p (.spare (z+1) 4)=L.set p (.spare (z+1) 4):=by rw[hM.out,ais]
 have hMl:M.length=L.length:=by rw[hM.out];simp
 replace hD2:=hid hD2;replace hM2:=hid hM2;have hz1:z+1<=1100000:=by omega
 have hz2:z+1=n+(j+1):=by omega
 replace hz2:=hid hz2;clear hx htk hD hM hset hz;refine wk ?_;exact ah _ _ _ (by omega) (CutL (b:=by simp;omega)) ⟨j+1,z+1,_,_,rfl,hlt,hz2.out,hD2,hM2,rfl,rfl⟩;have hke:j=names.length:=by omega
 subst hke;have g1:¬(names.length:Int)<(names.length:Int):=by omega
 have hD2:=hD.out;have hM2:=hM.out;rw[ahr]at hD2;subst hD2 hz;rw[hM2]at *;clear hD hM hM2;refine wk ?_;exact aa h.out
def aE:List Typ:=[([111,98,106,101,99,116,67,108,97,115,115],3,false,false),([99,110],1,false,false),([115,110],1,false,false),([111,117],1,false,false),([111],1,false,false),([100,99],3,false,false),([117,105,100],3,false,false),([109,97,105,108],3,false,false),([100,101,115,99,114,105,112,116,105,111,110],1,false,false),([109,101,109,98,101,114],6,false,false),([117,115,101,114,80,97,115,115,119,111,114,100],7,false,false),([101,109,112,108,111,121,101,101,78,117,109,98,101,114],4,true,false),([97,99,116,105,118,101],5,true,false),([99,114,101,97,116,101,100,65,116],4,true,true),([99,104,97,110,103,101,100,65,116],4,true,true),([112,119,100,70,97,105,108,117,114,101],3,false,true),([112,119,100,76,111,99,107,101,100],4,true,true),([112,119,100,67,104,97,110,103,101,100],4,true,true)]
def T6:List AV:=[.str [116,111,112],.str [],.int .i64 0,.sl [.str [111,98,106,101,99,116,67,108,97,115,115]] 1 none,.sl [.str [99,114,101,97,116,101,100,65,116],.str [99,104,97,110,103,101,100,65,116],.str [112,119,100,70,97,105,108,117,114,101],.str [112,119,100,76,111,99,107,101,100],.str [112,119,100,67,104,97,110,103,101,100]] 5 none,.str [100,111,109,97,105,110],.str [116,111,112],.int .i64 1,.sl [.str [100,99]] 1 none,.sl [.str [100,101,115,99,114,105,112,116,105,111,110]] 1 none,.str [111,114,103,97,110,105,122,97,116,105,111,110],.str [116,111,112],.int .i64 1,.sl [.str [111]] 1 none,.sl [.str [100,101,115,99,114,105,112,116,105,111,110]] 1 none,.str [111,114,103,97,110,105,122,97,116,105,111,110,97,108,85,110,105,116],.str [116,111,112],.int .i64 1,.sl [.str [111,117]] 1 none,.sl [.str [100,101,115,99,114,105,112,116,105,111,110]] 1 none,.str [112,101,114,115,111,110],.str [116,111,112],.int .i64 1,.sl [.str [99,110],.str [115,110]] 2 none,.sl [.str [100,101,115,99,114,105,112,116,105,111,110],.str [117,115,101,114,80,97,115,115,119,111,114,100]] 2 none,.str [105,110,101,116,80,101,114,115,111,110],.str [112,101,114,115,111,110],.int .i64 1,.sl [] 0 none,.sl [.str [117,105,100],.str [109,97,105,108],.str [101,109,112,108,111,121,101,101,78,117,109,98,101,114],.str [97,99,116,105,118,101]] 4 none,.str [103,114,111,117,112],.str [116,111,112],.int .i64 1,.sl [.str [99,110],.str [109,101,109,98,101,114]] 2 none,.sl [.str [100,101,115,99,114,105,112,116,105,111,110]] 1 none,.str [115,101,99,117,114,101,100],.str [116,111,112],.int .i64 2,.sl [.str [117,115,101,114,80,97,115,115,119,111,114,100]] 1 none,.sl [] 0 none,.str [108,97,98,101,108,108,101,100],.str [116,111,112],.int .i64 2,.sl [] 0 none,.sl [.str [117,105,100],.str [109,97,105,108]] 2 none]
theorem DW:∀ts:List Typ,AV.frzL (cG ts)=cG ts
 |[]=>rfl
 |ty::ts=>by rw[show cG (ty::ts)=tyC ty++cG ts from rfl];simp only[tyC,ahL,ahJ,AV.frzL,AV.frz,DW ts]
theorem S4(p:Nat->Bool):∀ts:List Typ,AV.refsL p (cG ts)=true
 |[]=>rfl
 |ty::ts=>by rw[show cG (ty::ts)=tyC ty++cG ts from rfl];simp only[tyC,ahL,ahJ,AV.refsL,AV.refs,S4 p ts,ah7]
theorem adj{P:Program}{N:Nat}{own:Nat->Nat->Nat}{Q:Exit->Tm->List Blk->Prop}{T:Tm}{lc:bW}{L':List Blk}(e:L=L')(h:AW P N own lc Q T L'):AW P N own lc Q T L:=e▸h
theorem acF(h:K (.agg [.sl (cG aE) aE.length none,.sl T6 9 none]) L):ag6 20 [] L K:=by
 have st:∀(a:Nat) (syn:Int) (ns:List (List UInt8)) (b:Nat),cG (aE.take a)++ns.flatMap (tnC syn)=cG (aE.take b)->a+ns.length=b->b<=100->∀K:AV->List Blk->Prop,K (.gsl (cG (aE.take b)) b (L.length+2) 4) (L++[.cells [.sl [] 0 (some 0),.sl [] 0 (some 0)],.cells [.gsl (cG (aE.take a)) a (L.length+2) 4,.gsl [] 0 (L.length+3) 5],.spare b 4,.spare 0 5])->ag6 50 [.gsl (cG (aE.take a)) a (L.length+2) 4,.int .i64 syn,.sl (ns.map AV.str) ns.length (some ns.length)] (L++[.cells [.sl [] 0 (some 0),.sl [] 0 (some 0)],.cells [.gsl (cG (aE.take a)) a (L.length+2) 4,.gsl [] 0 (L.length+3) 5],.spare a 4,.spare 0 5]) K:=λa syn ns b h1 h2 h3 K q=>by refine ady (by omega) (by simp) ?_;rw[h1,h2,ahT _ _ (by omega),show L.length+2-L.length=2 by omega];exact q
 have s1:=st 0 3 [[111,98,106,101,99,116,67,108,97,115,115]] 1 rfl rfl (by omega);have s2:=st 1 1 [[99,110],[115,110],[111,117],[111]] 5 rfl rfl (by omega);have s3:=st 5 3 [[100,99],[117,105,100],[109,97,105,108]] 8 rfl rfl (by omega);have s4:=st 8 1 [[100,101,115,99,114,105,112,116,105,111,110]] 9 rfl rfl (by omega);have s5:=st 9 6 [[109,101,109,98,101,114]] 10 rfl rfl (by omega);have s6:=st 10 7 [[117,115,101,114,80,97,115,115,119,111,114,100]] 11 rfl rfl (by omega);clear st;obtain⟨C1,h1⟩:=ag2 (cG (aE.take 1));obtain⟨C5,h5⟩:=ag2 (cG (aE.take 5));obtain⟨C8,h8⟩:=ag2 (cG (aE.take 8));obtain⟨C9,h9⟩:=ag2 (cG (aE.take 9));obtain⟨C10,h10⟩:=ag2 (cG (aE.take 10));obtain⟨C11,h11⟩:=ag2 (cG (aE.take 11));rw[show cG (aE.take 0)=[]from rfl]at s1;rw[h1]at s1 s2;rw[h5]at s2 s3;rw[h8]at s3 s4;rw[h9]at s4 s5;rw[h10]at s5 s6;rw[h11]at s6;simp only[ahl,aix,ahj,ahX,air,Nat.reduceAdd]at s1 s2 s3 s4 s5 s6;have kk1:=@hid _ (λ{K:ag7}=>s1 K);have kk2:=@hid _ (λ{K:ag7}=>s2 K);have kk3:=@hid _ (λ{K:ag7}=>s3 K);have kk4:=@hid _ (λ{K:ag7}=>s4 K);have kk5:=@hid _ (λ{K:ag7}=>s5 K);have kk6:=@hid _ (λ{K:ag7}=>s6 K);clear s1 s2 s3 s4 s5 s6;clear h1 h5 h8 h9 h10;replace h11:=hid h11;replace h:=hid h;refine ad Qg (by simp[vY]) ?_;simp only[vY,am]
 iterate 6 first
  |refine br ?_
  | (first|refine bh (by kernel_rfl) ?_|refine aH (by kernel_rfl) ?_|refine aK ?_|refine cO ?_|refine bB (fun _=>?_)|refine aB ?_|refine bm ?_)
    simp(config:={maxSteps:=2000000}) only[Kon,push_cast,reduceIte,Nat.reduceEqDiff,Nat.reduceAdd,Nat.reduceMul,Nat.reduceSub,Nat.reduceLT,Nat.reduceLeDiff,Int.reduceLT,Int.reduceLE,Int.reduceAdd,Int.reduceSub,Int.reduceNeg,Int.reduceToNat,Int.reduceEq,reduceCtorEq, *]
  | (first|refine a8 (by kernel_rfl) ?_|refine bc ?_|refine aJ ?_|refine bj ?_|refine bG (aA ?_))
    simp only[push_cast,reduceIte,Nat.reduceEqDiff,Nat.reduceAdd,Nat.reduceMul,Nat.reduceSub,Nat.reduceLT,Nat.reduceLeDiff,Int.reduceLT,Int.reduceLE,Int.reduceAdd,Int.reduceSub,Int.reduceNeg,Int.reduceToNat,Int.reduceEq,reduceCtorEq, *]
  |exact bC
  |first|apply bD|apply be|apply bE|apply bf|apply bF|apply bg
  |refine aN ?_
  |refine aI ?_
  |first|refine aL rfl ?_|refine aM rfl ?_|refine aw rfl ?_ ?_|refine aQ rfl (λ_=>?_) (λ_=>?_)|refine aP rfl (λ_=>?_) (λ_=>?_)
  |((first|refine au (λ_=>?_) (λ_=>?_)|refine az (λ_=>?_) (λ_=>?_))<;>try simp(config:={maxSteps:=2000000}) only[Kon,push_cast,reduceIte,Nat.reduceEqDiff,Nat.reduceAdd,Nat.reduceMul,Nat.reduceSub,Nat.reduceLT,Nat.reduceLeDiff,Int.reduceLT,Int.reduceLE,Int.reduceAdd,Int.reduceSub,Int.reduceNeg,Int.reduceToNat,Int.reduceEq,reduceCtorEq, *])
  |refine And.intro trivial ?_
  |refine And.intro (by omega) ?_
  |refine aU rfl (λ_=>?_) (λ_=>?_)
  |refine And.intro ?_ ?_
 refine Iq (L.length+1) 0 4 (c:=[.sl [] 0 (some 0),.sl [] 0 (some 0)]) (l:=[]) (n:=0) (by simp) rfl rfl ?_;refine Iq (L.length+1) 1 5 (c:=[.gsl [] 0 (L.length+2) 4,.sl [] 0 (some 0)]) (l:=[]) (n:=0) (by simp) rfl rfl ?_;refine adj (L':=L++[.cells [.sl [] 0 (some 0),.sl [] 0 (some 0)],.cells [.gsl [] 0 (L.length+2) 4,.gsl [] 0 (L.length+3) 5],.spare 0 4,.spare 0 5]) (by simp) ?_;refine wk ?_;refine ak (λm T' L'=>∃(j z:Nat) (D:List AV) (X:List Blk),m=5-j/\j<=5/\Hid (z=13+j)/\Hid (D=cG (aE.take (13+j)))/\T'=[(49,.int .i64 (j:Int)),(48,.int .i64 5),(47,.sl [.str [99,114,101,97,116,101,100,65,116],.str [99,104,97,110,103,101,100,65,116],.str [112,119,100,70,97,105,108,117,114,101],.str [112,119,100,76,111,99,107,101,100],.str [112,119,100,67,104,97,110,103,101,100]] 5 (some 5)),(1,.ptr (L.length+1) 0),(0,.ptr L.length 0)]/\L'=L++(.cells [.sl [] 0 (some 0),.sl [] 0 (some 0)] :: .cells [.gsl D z (L.length+2) 4,.gsl [] 0 (L.length+3) 5] :: .spare z 4 :: .spare 0 5::X)) (CutS (b:=by simp)) ⟨0,13,_,[],rfl,by omega,hid rfl,hid (by rw[<- h11.out];rfl),rfl,rfl⟩ ?_;clear kk1 kk2 kk3 kk4 kk5 kk6 h11;rintro _ _ _ ⟨j,z,D,X,rfl,hj,hz,hD,rfl,rfl⟩;by_cases hlt:j<5;have g1:(j:Int)<5:=by omega
 have g2:=ag4 j (by omega);have hz1:z<=20:=by have:=hz.out;omega
 have hz2:z+1=13+(j+1):=by have:=hz.out;omega
 replace hz2:=hid hz2;have hj5:j=0\/j=1\/j=2\/j=3\/j=4:=by omega
 clear hz;rcases hj5 with e|e|e|e|e;have e3:([.str [99,114,101,97,116,101,100,65,116],.str [99,104,97,110,103,101,100,65,116],.str [112,119,100,70,97,105,108,117,114,101],.str [112,119,100,76,111,99,107,101,100],.str [112,119,100,67,104,97,110,103,101,100]]:List AV).getD j .undef=.str [99,114,101,97,116,101,100,65,116]:=by rw[e];rfl
 have hD2:D++[.str [99,114,101,97,116,101,100,65,116],.int .i64 4,.bool true,.bool true]=cG (aE.take (13+(j+1))):=by rw[hD.out,e];rfl
 replace hD2:=hid hD2;replace e:=hid e;clear hD;refine wk ?_;exact ah _ _ _ (by omega) (CutL (b:=by simp)) ⟨j+1,z+1,_,_,rfl,hlt,hz2,hD2,rfl,rfl⟩;have e3:([.str [99,114,101,97,116,101,100,65,116],.str [99,104,97,110,103,101,100,65,116],.str [112,119,100,70,97,105,108,117,114,101],.str [112,119,100,76,111,99,107,101,100],.str [112,119,100,67,104,97,110,103,101,100]]:List AV).getD j .undef=.str [99,104,97,110,103,101,100,65,116]:=by rw[e];rfl
 have hD2:D++[.str [99,104,97,110,103,101,100,65,116],.int .i64 4,.bool true,.bool true]=cG (aE.take (13+(j+1))):=by rw[hD.out,e];rfl
 replace hD2:=hid hD2;replace e:=hid e;clear hD;refine wk ?_;exact ah _ _ _ (by omega) (CutL (b:=by simp)) ⟨j+1,z+1,_,_,rfl,hlt,hz2,hD2,rfl,rfl⟩;have e3:([.str [99,114,101,97,116,101,100,65,116],.str [99,104,97,110,103,101,100,65,116],.str [112,119,100,70,97,105,108,117,114,101],.str [112,119,100,76,111,99,107,101,100],.str [112,119,100,67,104,97,110,103,101,100]]:List AV).getD j .undef=.str [112,119,100,70,97,105,108,117,114,101]:=by rw[e];rfl
 have hD2:D++[.str [112,119,100,70,97,105,108,117,114,101],.int .i64 3,.bool false,.bool true]=cG (aE.take (13+(j+1))):=by rw[hD.out,e];rfl
 replace hD2:=hid hD2;replace e:=hid e;clear hD;refine wk ?_;exact ah _ _ _ (by omega) (CutL (b:=by simp)) ⟨j+1,z+1,_,_,rfl,hlt,hz2,hD2,rfl,rfl⟩;have e3:([.str [99,114,101,97,116,101,100,65,116],.str [99,104,97,110,103,101,100,65,116],.str [112,119,100,70,97,105,108,117,114,101],.str [112,119,100,76,111,99,107,101,100],.str [112,119,100,67,104,97,110,103,101,100]]:List AV).getD j .undef=.str [112,119,100,76,111,99,107,101,100]:=by rw[e];rfl
 have hD2:D++[.str [112,119,100,76,111,99,107,101,100],.int .i64 4,.bool true,.bool true]=cG (aE.take (13+(j+1))):=by rw[hD.out,e];rfl
 replace hD2:=hid hD2;replace e:=hid e;clear hD;refine wk ?_;exact ah _ _ _ (by omega) (CutL (b:=by simp)) ⟨j+1,z+1,_,_,rfl,hlt,hz2,hD2,rfl,rfl⟩;have e3:([.str [99,114,101,97,116,101,100,65,116],.str [99,104,97,110,103,101,100,65,116],.str [112,119,100,70,97,105,108,117,114,101],.str [112,119,100,76,111,99,107,101,100],.str [112,119,100,67,104,97,110,103,101,100]]:List AV).getD j .undef=.str [112,119,100,67,104,97,110,103,101,100]:=by rw[e];rfl
 have hD2:D++[.str [112,119,100,67,104,97,110,103,101,100],.int .i64 4,.bool true,.bool true]=cG (aE.take (13+(j+1))):=by rw[hD.out,e];rfl
 replace hD2:=hid hD2;replace e:=hid e;clear hD;refine wk ?_;exact ah _ _ _ (by omega) (CutL (b:=by simp)) ⟨j+1,z+1,_,_,rfl,hlt,hz2,hD2,rfl,rfl⟩;have g1:¬(j:Int)<5:=by omega
 have hj5:j=5:=by omega
 have hD2:D=cG aE:=by rw[hD.out,hj5];rfl
 have hz2:z=aE.length:=by rw[hz.out,hj5];rfl
 replace hD2:=hid hD2;replace hz2:=hid hz2;clear hz hD hj5;refine wk ?_;rw[hD2.out,hz2.out];refine ba ?_;simp only[AV.frz,AV.frzL,DW];refine ae ?_ h.out;simp only[AV.refs,AV.refsL,S4,ah7]
theorem rq:agF aE:=by
 refine⟨by decide,λty h=>?_,λty h=>?_⟩;have:aE.all (λt=>decide (t.1.length<=1000))=true:=by kernel_rfl
 have:=ahk.1 this ty h;simp only[decide_eq_true_eq]at this;unfold a7;omega;have:aE.all (λt=>decide (fw aE t.1=some t))=true:=by kernel_rfl
 simpa using ahk.1 this ty h
set_option maxRecDepth 100000
theorem Ol{r:AV}{Q:AV->List Blk->Prop}(i:Nat){c:List AV}(hL:L[i]?=some (.cells c))(h:Fin L0 r (L.set i (.cells (AV.frzL c))) Q):Fin L0 r L Q:=λw0 S0 E0 E w v h0 hn hw hR hv=>h w0 S0 E0 E w v h0 hn hw (hR.frzB hL) hv
def RL(e:bd):List AV:=[.int .i64 e.1,atV e.2]
def cw(l:List bd):List AV:=l.flatMap RL
theorem OT(l:List bd):(cw l).length=l.length*2:=by
 induction l with
 |nil=>rfl
 |cons e l ih=>unfold cw at ih⊢;rw[aif,ahq,ih];simp[RL];omega
theorem vp(l m:List bd):cw (l++m)=cw l++cw m:=by unfold cw;rw[ajt]
theorem N9:∀{l:List bd}{k:Nat},k<l.length->((cw l).drop (k*2)).take 2=RL (l.getD k (0,[]))
 |e::l,0,_=>by unfold cw;rw[aif];simp[RL]
 |e::l,k+1,h=>by have ih:=N9 (l:=l) (k:=k) (by simpa using h);have:cw (e::l)=RL e++cw l:=(by unfold cw;rw[aif]);rw[this,aje];show((cw l).drop (k*2)).take 2=_;rw[ih];rfl
def aeO(L:List Blk)(rt:Nat)(s:List AV)(tm:TMp)(l:List bd):Prop:=∃k2,L[rt]?=some (.cells (s++[.sl ((tm.map (·.1)).map AV.str) tm.length none,.sl (cw l) l.length k2]))
structure Ss(ts:List Typ)(tm:TMp):Prop where
 nd:(tm.map (·.1)).Nodup
 sub:∀f∈tm.map (·.1),f∈ts.map λt=>af t.1
theorem Ts{X:Type}[DecidableEq X]:∀{l m:List X},l.Nodup->(∀x∈l,x∈m)->l.length<=m.length
 |[],m,_,_=>by simp
 | a::l,m,h,hs=>by
   rw[ah6]at h;have ha:=hs a (by simp);have:=Ts (l:=l) (m:=m.erase a) h.2 λx hx=>(List.mem_erase_of_ne (λe:x=a=>h.1 (by rw[<- e];exact hx))).2 (hs x (by simp[hx]))
   have h2:=List.length_erase_of_mem ha;have h3:=List.length_pos_of_mem ha;simp only[ahj];omega
theorem Ss.len{tm:TMp}(h:Ss ts tm):tm.length<=ts.length:=by have:=Ts h.nd h.sub;simpa using this
theorem Ss.add{tm:TMp}(h:Ss ts tm){n f:List UInt8}{ty:Typ}{c:Nat}(ht:fw ts n=some ty)(hf:af n=f)(hin:f∉tm.map (·.1)):Ss ts (tm++[(f,ty,c)]):=by refine⟨?_,λg hg=>?_⟩;rw[ahE,ajG];refine⟨h.nd,by simp,λa ha b hb e=>hin ?_⟩;simp only[ahl,aix,ahs]at hb;rw[<- hb,<- e];exact ha;rw[ahE,ahb]at hg;rcases hg with hg|hg;exact h.sub g hg;simp only[ahl,aix,ahs]at hg;rw[hg,<- hf];refine ahd.2 ⟨ty,aju ht,?_⟩;have:=ajK ht;simpa using this
theorem aa6{capT:Option Nat}{c2:List AV}{n2:Nat}{cap2:Option Nat}{ns:List (List UInt8)}(hl:ts.length<=1100000)(hts:∀t∈ts,a7 t.1)(hc2:AV.frzL c2=c2)(hnl:(ns.length:Int)<=9223372036854775807)(hn:∀n∈ns,a7 n){R:Int×TMp}(hR:IS ts [] ns=R)(h0:∀L',R.1≠0->bH (λ_=>False) L L'->K (.tup [.nilptr,.int .i64 R.1]) L')(h1:∀L' rt,R.1=0->aeO L' rt [.sl (cG ts) ts.length none,.sl c2 n2 none] R.2 []->bH (λ_=>False) L L'->L.length<=rt->K (.tup [.ptr rt 0,.int .i64 0]) L'):
  ag6 32 [.agg [.sl (cG ts) ts.length capT,.sl c2 n2 cap2],.sl (ns.map AV.str) ns.length cap] L K:=by
 have kA:Hid (∀{n:List UInt8},a7 n->∀{L:List Blk}{K:ag7},(fw ts n=none->K (.int .i64 (-1)) L)->(∀k:Nat,k<ts.length->fw ts n=some (ts.getD k oM)->K (.int .i64 k) L)->ag6 12 [.sl (cG ts) ts.length capT,.str n] L K):=@hid _ (λ{n} h {L K} q1 q2=>agB hl hts h q1 q2);have hfz:=DW ts;replace hR:=hid hR;replace hn:=hid hn;replace h0:=hid h0;replace h1:=hid h1;clear hts;replace hl:=hid hl;obtain⟨TS,hTS⟩:=ag2 (cG ts);obtain⟨tl,htl⟩:=ag2 (ts.length);rw[hTS,htl]at kA⊢;rw[hTS]at hfz;refine ag5 RY ?_;refine Iq (L.length+1) 2 1 (c:=[.sl TS tl capT,.sl c2 n2 cap2,.sl [] 0 (some 0),.sl [] 0 (some 0)]) (l:=[]) (n:=0) (by rw[ahB (by omega)];simp) rfl rfl ?_;refine adj (L':=L++(.cells [.sl TS tl capT,.sl c2 n2 cap2] :: .cells [.sl TS tl capT,.sl c2 n2 cap2,.gsl [] 0 (L.length+2) 1,.sl [] 0 (some 0)]::[.spare 0 1])) (by rw[ahT _ _ (by omega),show L.length+1-L.length=1 by omega];simp) ?_
 refine ak (λm T' L'=>∃(i:Nat) (tm:TMp) (C:List AV) (X:List Blk),m=ns.length-i/\i<=ns.length/\Hid (IS ts tm (ns.drop i)=R)/\Hid (C=(tm.map (·.1)).map AV.str)/\Hid (Ss ts tm)/\T'=[(14,.int .i64 (i:Int)),(13,.int .i64 ns.length),(12,.sl (ns.map AV.str) ns.length cap),(6,.ptr (L.length+1) 0),(2,.ptr L.length 0)]/\L'=L++(.cells [.sl TS tl capT,.sl c2 n2 cap2] :: .cells [.sl TS tl capT,.sl c2 n2 cap2,.gsl C tm.length (L.length+2) 1,.sl [] 0 (some 0)] :: .spare tm.length 1::X)) (CutS (b:=by simp)) ⟨0,[],[],[],rfl,ahf _,hid (by simpa using hR.out),hid rfl,hid ⟨by simp,by simp⟩,rfl,rfl⟩ ?_;rintro _ _ _ ⟨i,tm,C,X,rfl,hi,hr,hC,hti,rfl,rfl⟩;have e1:∀(a b c:Blk) (X:List Blk),(L++a::b::c::X)[L.length+1]?=some b:=λa b c X=>by rw[ahB (by omega)];simp
 have e2:∀(a b c d:Blk) (X:List Blk),(L++a::b::c::X).set (L.length+1) d=L++a::d::c::X:=λa b c d X=>by rw[ahT _ _ (by omega)];simp
 have e3:∀(a b c:Blk) (X:List Blk),(L++a::b::c::X)[L.length+2]?=some c:=λa b c X=>by rw[ahB (by omega)];simp
 have e4:∀(a b c d:Blk) (X:List Blk),(L++a::b::c::X).set (L.length+2) d=L++a::b::d::X:=λa b c d X=>by rw[ahT _ _ (by omega)];simp
 by_cases hlt:i<ns.length;have j1:(i:Int)<(ns.length:Int):=by omega
 have j2:=ag4 i (by omega);have j3:(ns.map AV.str).getD i .undef=.str (ns.getD i []):=by simp[hlt]
 have j4:i<(ns.map AV.str).length:=by simpa using hlt
 obtain⟨n,hn1⟩:=ag2 (ns.getD i []);have hrn:a7 n:=hn.out n (by rw[<- hn1];simp[hlt]);have hdr:ns.drop i=n::ns.drop (i+1):=by rw[ahV hlt,<- hn1];simp[hlt]
 rw[hn1]at j3;have hr2:=hr.out;rw[hdr,IS]at hr2;clear hr hn1 hdr;obtain⟨NS,hNS⟩:=ag2 (ns.map AV.str);rw[hNS]at j3 j4⊢;replace hNS:=hid hNS;obtain⟨f,hf⟩:=ag2 (af n);rw[hf]at hr2;have kk1:Hid (Ctr Tryz.prog 39 [.str n] (.str f)):=@hid _ (by intro L K q;exact ce hrn (by rw[hf];exact q));have htb:tm.length<=1100000:=ahy hti.out.len hl.out;rcases hty:fw ts n with _|ty;have kk2:Hid (Ctr Tryz.prog 12 [.sl TS tl capT,.str n] (.int .i64 (-1))):=@hid _ (λ{L K} q=>kA.out hrn (λ_=>q) (λk _ e=>by rw[hty]at e;cases e));rw[hty]at hr2;simp only at hr2;have hfin:=hid (h0.out (L++(.cells [.sl TS tl capT,.sl c2 n2 cap2] :: .cells [.sl TS tl capT,.sl c2 n2 cap2,.gsl C tm.length (L.length+2) 1,.sl [] 0 (some 0)] :: .spare tm.length 1::X)) (by rw[<- hr2];simp) (bH.app _ _));rw[<- hr2]at hfin;clear hr2 hty hR;refine wk ?_;exact aa hfin.out;have kB:Hid (∀{L:List Blk}{K:ag7},(∀k:Nat,K (.int .i64 k) L)->ag6 12 [.sl TS tl capT,.str n] L K):=@hid _ (λ{L K} q=>kA.out hrn (λe=>by rw[hty]at e;cases e) (λk _ _=>q k));rw[hty]at hr2;simp only at hr2;have hty2:=hid hty;clear hty;refine wk ?_;refine kB.out λk=>?_
 have hk0:¬(k:Int)<0:=by omega
 have kH:∀b:Bool,decide (f∈tm.map (·.1))=b->Hid (∀{L:List Blk}{K:ag7}{j:Nat},K (.bool b) L->ag6 82 [.gsl C tm.length j 1,.str f] L K):=λb hb=>@hid _ (λ{L K j} q=>by refine iU ?_;have:=aei (xs:=tm.map (·.1)) (cap:=none) (s:=f) (by simp;omega) (L:=L) (K:=K) (by rw[ahW,hb];exact q);rw[ahP]at this;simp only[AV.frzL,AV.frz,hC.out,eh];exact this)
 by_cases hin:f∈tm.map (·.1);have kk2:=@kH true (decide_eq_true hin);rw[if_pos hin]at hr2;have hfin:=hid (h0.out (L++(.cells [.sl TS tl capT,.sl c2 n2 cap2] :: .cells [.sl TS tl capT,.sl c2 n2 cap2,.gsl C tm.length (L.length+2) 1,.sl [] 0 (some 0)] :: .spare tm.length 1::X)) (by rw[<- hr2];simp) (bH.app _ _));rw[<- hr2]at hfin;clear hr2 hR kH kB hin;refine wk ?_;exact aa hfin.out;have kk2:=@kH false (decide_eq_false hin);rw[if_neg hin]at hr2;replace hr2:=hid hr2;have hC2:=hid (show C++[.str f]=((tm++[(f,ty,tm.length)]).map (·.1)).map AV.str by rw[hC.out];simp);have hlen:=hid (show(tm++[(f,ty,tm.length)]).length=tm.length+1 by simp);have hti2:=hid (show Ss ts (tm++[(f,ty,tm.length)])from hti.out.add hty2.out hf hin);clear hR kH kB hin;refine wk ?_;rw[<- hNS.out];refine ah _ _ _ (by omega) (CutL (b:=by simp)) ⟨i+1,tm++[(f,ty,tm.length)],_,X,rfl,hlt,hr2,hC2,hti2,rfl,?_⟩;rw[hlen.out];have hie:i=ns.length:=by omega
 subst hie;have j1:¬(ns.length:Int)<(ns.length:Int):=by omega
 have hr2:=hr.out;rw[ahU,IS]at hr2;have hfin:=hid (h1.out (L++(.cells [.sl TS tl capT,.sl c2 n2 cap2] :: .cells [.sl TS tl none,.sl c2 n2 none,.sl C tm.length none,.sl [] 0 none] :: .spare tm.length 1::X)) (L.length+1) (by rw[<- hr2]) ⟨none,by rw[e1,<- hr2,hTS,htl,hC.out];rfl⟩ (bH.app _ _) (by omega))
 have hCf:AV.frzL C=C:=by rw[hC.out];exact eh _
 clear hr2 hr hR hC;refine wk ?_;refine Ol (L.length+1) (e1 _ _ _ _) ?_;rw[e2];simp only[AV.frzL,AV.frz,hfz,hc2,hCf];exact aa hfin.out
theorem TU(l:List bd):AV.frzL (cw l)=cw l:=by
 induction l with
 |nil=>rfl
 | cons e l ih =>
   have:cw (e::l)=RL e++cw l:=(by unfold cw;rw[aif]);rw[this,AV.frzL_eq,ahE,<- AV.frzL_eq,<- AV.frzL_eq,ih];simp only[RL,AV.frzL,AV.frz,atV,ln]
theorem Zn{a b c:AV}{k2:Option Nat}(hl:l.length<=1000000)(hL:L[rt]?=some (.cells [a,b,c,.sl (cw l) l.length k2]))(ha:a.frz=a)(hb:b.frz=b)(hc:c.frz=c){id:Int}(h:∀L' k,L'[rt]?=some (.cells [a,b,c,.sl (cw (cz id l)) (cz id l).length k])->bH (λi=>i=rt) L L'->K (.tup []) L'):
  ag6 36 [.ptr rt 0,.int .i64 id] L K:=by
 have hrl:=(ag8.1 hL).1;have ar:∀X,(L++X)[rt]?=some (.cells [a,b,c,.sl (cw l) l.length k2]):=λX=>by rw[ahi hrl];exact hL
 have sr:∀(X:List Blk) d,(L++X).set rt d=L.set rt d++X:=λX d=>ahY _ _ hrl
 have hel:=OT l;have hat:=hid (λk (q:k<l.length)=>N9 q);have hat2:=hid (λk (q:k<l.length)=>show cz id (l.take (k+1))=cz id (l.take k)++(if(l.getD k (0,[])).1≠id then[l.getD k (0,[])]else[])by rw[ahw q];unfold cz;rw[aj5];congr 1;by_cases e:l[k].1=id<;>simp[q,e])
 have hfin:=hid (show ∀k L2,K (.tup []) (L.set rt (.cells [a,b,c,.sl (cw (cz id l)) (cz id l).length k])++L2)from λk L2=>h _ k (by rw[ahi (by simpa using hrl),ah2 hrl]) ((bH.set (B:=λi=>i=rt) L (.inl rfl) _).trans (bH.app (B:=λ_=>False) _ _) λi _ e=>e.elim));obtain⟨ES,hES⟩:=ag2 (cw l);rw[hES]at ar hel hat hL;clear h hES;refine ag5 DR ?_;refine bX (l:=[]) (n:=0) 4 2 rfl (ahD 2).symm ?_;refine ak (λm T' L'=>∃(i:Nat) (C:List AV) (k:Nat) (X:List Blk),m=l.length-i/\i<=l.length/\Hid (C=cw (cz id (l.take i))/\k=(cz id (l.take i)).length)/\T'=[(12,.int .i64 (i:Int)),(11,.int .i64 l.length),(10,.sl ES l.length k2),(4,.gsl C k L.length 2),(0,.ptr rt 0),(1,.int .i64 id)]/\L'=L++(.spare k 2::X)) (CutS (b:=by simp)) ⟨0,[],0,[],rfl,ahf _,hid ⟨rfl,rfl⟩,rfl,rfl⟩ ?_;clear hL;rintro _ _ _ ⟨i,C,k,X,rfl,hi,hC,rfl,rfl⟩;by_cases hlt:i<l.length;have j1:(i:Int)<(l.length:Int):=by omega
 have j2:=ag4 i (by omega);have e3:=hat.out i hlt;have e4:i*2+2<=ES.length:=by rw[hel];omega
 have e5:=hat2.out i hlt;obtain⟨⟨x,av⟩,hx⟩:∃e,l.getD i (0,[])=e:=⟨_,rfl⟩;rw[hx]at e3 e5;simp only[RL]at e3;simp only at e5;have hkb:k<=1000000:=by rw[hC.out.2];have:=ai0 (λe:bd=>decide (e.1≠id)) (l.take i);rw[ajb]at this;unfold cz;omega
 have hef:AV.frzL (bo av)=bo av:=ln av;by_cases hq:x=id;rw[if_neg (by simpa using hq),ahG]at e5;have hC2:=hid (show C=cw (cz id (l.take (i+1)))/\k=(cz id (l.take (i+1))).length by rw[e5];exact hC.out);subst hq;clear hx e5;refine wk ?_;exact ah _ _ _ (by omega) (CutL (b:=by simp)) ⟨i+1,_,_,_,rfl,hlt,hC2,rfl,rfl⟩;rw[if_pos hq]at e5;have hC2:=hid (show C++[.int .i64 x,.sl (bo av) av.length none]=cw (cz id (l.take (i+1)))/\k+1=(cz id (l.take (i+1))).length by rw[e5,vp,hC.out.1,ahq,hC.out.2];exact⟨rfl,rfl⟩)
 clear hx e5;refine wk ?_;exact ah _ _ _ (by omega) (CutL (b:=by simp)) ⟨i+1,_,_,_,rfl,hlt,hC2,rfl,rfl⟩;have hie:i=l.length:=by omega
 subst hie;have j1:¬(l.length:Int)<(l.length:Int):=by omega
 obtain⟨hC1,hC2⟩:=hC.out;rw[ahr]at hC1 hC2;have hCf:AV.frzL C=C:=by rw[hC1];exact TU _
 have hf2:=hid (λX=>hfin.out none X);rw[<- hC1,<- hC2]at hf2;clear hC hC1 hC2 hfin hat hat2;refine wk ?_;refine dU rfl trivial (Ol rt (by rw[ahi (by simpa using hrl),ah2 hrl]) ?_);rw[ahY _ _ (by simpa using hrl),ais];simp only[AV.frzL,AV.frz,ha,hb,hc,hCf];exact aa (hf2.out _)
theorem ZH{x e:bd}{t:List bd}(h:¬x.1<e.1)(l:List bd):l++kS x (e::t)=(l++[e])++kS x t:=by rw[kS,if_neg h];simp
theorem aa1{a b c:AV}{k2:Option Nat}(hl:l.length<=900000)(hL:L[rt]?=some (.cells [a,b,c,.sl (cw l) l.length k2]))(ha:a.frz=a)(hb:b.frz=b)(hc:c.frz=c){id:Int}{v:List Atr}(hv:v.length<=1100000)(hz:∀a∈v,a.2.length<=1100000)(h:∀L' k,L'[rt]?=some (.cells [a,b,c,.sl (cw (DN id v l)) (DN id v l).length k])->bH (λi=>i=rt) L L'->K (.tup []) L'):
  ag6 37 [.ptr rt 0,.int .i64 id,.sl (bo v) v.length cap] L K:=by
 have kD:Hid (∀{K:ag7},(∀L' k,Hid (L'[rt]?=some (.cells [a,b,c,.sl (cw (cz id l)) (cz id l).length k])/\bH (λi=>i=rt) L L')->K (.tup []) L')->ag6 36 [.ptr rt 0,.int .i64 id] L K):=@hid _ (λ{K} q=>Zn (by omega) hL ha hb hc λL' k q1 q2=>q L' k (hid ⟨q1,q2⟩));have kk1:Hid (Ctr Tryz.prog 86 [.sl (bo v) v.length cap] (.sl (bo v) v.length none)):=@hid _ (λ{L K} q=>adP hv hz q);have hvf:AV.frzL (bo v)=bo v:=ln v;have hdl:(cz id l).length<=900000:=ahy (ai0 _ _) hl;unfold DN at h;obtain⟨m,hm⟩:=ag2 (cz id l);rw[hm]at h hdl kD;replace h:=hid h;clear hL hm hl hv hz;refine ag5 H5 ?_;refine kD.out λL1 k1 hD=>?_
 clear kD;have hL:=hD.out.1;have hrl:=(ag8.1 hL).1;have ar:∀X,(L1++X)[rt]?=some (.cells [a,b,c,.sl (cw m) m.length k1]):=λX=>by rw[ahi hrl];exact hL
 have sr:∀(X:List Blk) d,(L1++X).set rt d=L1.set rt d++X:=λX d=>ahY _ _ hrl
 have hel:=OT m;have hat:=hid (λk (q:k<m.length)=>N9 q);have hfin:=hid (show ∀k L2,K (.tup []) (L1.set rt (.cells [a,b,c,.sl (cw (kS (id,v) m)) (kS (id,v) m).length k])++L2)from λk L2=>h.out _ k (by rw[ahi (by simpa using hrl),ah2 hrl]) (hD.out.2.trans ((bH.set (B:=λi=>i=rt) L1 (.inl rfl) _).trans (bH.app (B:=λ_=>False) _ _) λi _ e=>e.elim) λi _ e=>e));obtain⟨ES,hES⟩:=ag2 (cw m);rw[hES]at ar hel hat hL;clear h hD;refine wk ?_;refine bX (l:=[]) (n:=0) 6 2 rfl (ahD 2).symm ?_;refine ak (λn T' L'=>∃(i:Nat) (out:List bd) (C:List AV) (k:Nat) (dn:Bool) (X:List Blk),n=m.length-i/\i<=m.length/\Hid (C=cw out/\k=out.length/\k<=i+1/\(dn=false->k<=i))/\Hid (if dn=true then out++m.drop i=kS (id,v) m else out++kS (id,v) (m.drop i)=kS (id,v) m)/\T'=[(18,.int .i64 (i:Int)),(17,.int .i64 m.length),(16,.sl ES m.length k1),(6,.gsl C k L1.length 2),(7,.bool dn),(0,.ptr rt 0),(1,.int .i64 id),(2,.sl (bo v) v.length cap)]/\L'=L1++(.spare k 2::X)) (CutS (b:=by simp)) ⟨0,[],[],0,false,[],rfl,ahf _,hid ⟨rfl,rfl,by omega,λ_=>ag9 _⟩,hid (by simp),rfl,rfl⟩ ?_;clear hL;rintro _ _ _ ⟨i,out,C,k,dn,X,rfl,hi,hC,hI,rfl,rfl⟩;by_cases hlt:i<m.length;have j1:(i:Int)<(m.length:Int):=by omega
 have j2:=ag4 i (by omega);have e3:=hat.out i hlt;have e4:i*2+2<=ES.length:=by rw[hel];omega
 have hdr:m.drop i=m.getD i (0,[])::m.drop (i+1):=by rw[ahV hlt];simp[hlt]
 obtain⟨⟨x,av⟩,hx⟩:∃e,m.getD i (0,[])=e:=⟨_,rfl⟩;rw[hx]at e3 hdr;simp only[RL]at e3;have hkb:k<=1000000:=by have:=hC.out.2.2.1;omega
 have hkb2:k+1<=1000000:=by have:=hC.out.2.2.1;omega
 have hef:AV.frzL (bo av)=bo av:=ln av;have hI2:=hI.out;rw[hdr]at hI2;cases dn with
 | true =>
   simp only[if_true]at hI2;have hC2:=hid (show C++[.int .i64 x,.sl (bo av) av.length none]=cw (out++[(x,av)])/\k+1=(out++[(x,av)]).length/\k+1<=i+1+1/\(true=false->k+1<=i+1)by have h1:=hC.out.2.2.1;rw[vp,hC.out.1,ahq];refine⟨rfl,by rw[hC.out.2.1];rfl,by omega,λe=>by cases e⟩)
   have hI3:=hid (show(if true=true then(out++[(x,av)])++m.drop (i+1)=kS (id,v) m else(out++[(x,av)])++kS (id,v) (m.drop (i+1))=kS (id,v) m)by simpa using hI2);clear hx hdr hI hI2 hkb2;refine wk ?_;exact ah _ _ _ (by omega) (CutL (b:=by simp)) ⟨i+1,_,_,_,true,_,rfl,hlt,hC2,hI3,rfl,rfl⟩
 | false =>
   simp only[ahp,if_false]at hI2;by_cases hq:id<x
   .rw[kS,if_pos hq]at hI2;have hC2:=hid (show C++[.int .i64 id,.sl (bo v) v.length none,.int .i64 x,.sl (bo av) av.length none]=cw (out++[(id,v),(x,av)])/\k+1+1=(out++[(id,v),(x,av)]).length/\k+1+1<=i+1+1/\(true=false->k+1+1<=i+1)by have h1:=hC.out.2.2.2 rfl;rw[vp,hC.out.1,ahq];refine⟨rfl,by rw[hC.out.2.1];rfl,by omega,λe=>by cases e⟩)
    have hI3:=hid (show(if true=true then(out++[(id,v),(x,av)])++m.drop (i+1)=kS (id,v) m else(out++[(id,v),(x,av)])++kS (id,v) (m.drop (i+1))=kS (id,v) m)by simpa using hI2);clear hx hdr hI hI2;refine wk ?_;exact ah _ _ _ (by omega) (CutL (b:=by simp)) ⟨i+1,_,_,_,true,_,rfl,hlt,hC2,hI3,rfl,rfl⟩
   .rw[ZH hq]at hI2;have hC2:=hid (show C++[.int .i64 x,.sl (bo av) av.length none]=cw (out++[(x,av)])/\k+1=(out++[(x,av)]).length/\k+1<=i+1+1/\(false=false->k+1<=i+1)by have h1:=hC.out.2.2.2 rfl;rw[vp,hC.out.1,ahq];refine⟨rfl,by rw[hC.out.2.1];rfl,by omega,λ_=>by omega⟩)
    have hI3:=hid (show(if false=true then(out++[(x,av)])++m.drop (i+1)=kS (id,v) m else(out++[(x,av)])++kS (id,v) (m.drop (i+1))=kS (id,v) m)by simpa using hI2);clear hx hdr hI hI2 hkb2;refine wk ?_;exact ah _ _ _ (by omega) (CutL (b:=by simp)) ⟨i+1,_,_,_,false,_,rfl,hlt,hC2,hI3,rfl,rfl⟩
 have hie:i=m.length:=by omega
 subst hie;have j1:¬(m.length:Int)<(m.length:Int):=by omega
 have hI2:=hI.out;rw[ahU]at hI2;obtain⟨hC1,hC2,hC3,hC4⟩:=hC.out;have hkb:k<=1000000:=by omega
 have hCf:AV.frzL C=C:=by rw[hC1];exact TU _
 cases dn with
 | true =>
   simp only[if_true,ahG]at hI2;have hf2:=hid (λX=>hfin.out none X);rw[<- hI2,<- hC1,<- hC2]at hf2;clear hC hC1 hC2 hC3 hC4 hfin hat hI hI2;refine wk ?_;refine dU rfl trivial (Ol rt (by rw[ahi (by simpa using hrl),ah2 hrl]) ?_);rw[ahY _ _ (by simpa using hrl),ais];simp only[AV.frzL,AV.frz,ha,hb,hc,hCf];exact aa (hf2.out _)
 | false =>
   simp only[ahp,if_false,kS]at hI2;have hf2:=hid (λX=>hfin.out none X);rw[<- hI2,vp,ahq,<- hC1,<- hC2]at hf2;have hCf2:AV.frzL (C++[.int .i64 id,.sl (bo v) v.length none])=C++[.int .i64 id,.sl (bo v) v.length none]:=by rw[AV.frzL_eq,ahE,<- AV.frzL_eq,hCf,<- AV.frzL_eq];simp only[AV.frzL,AV.frz,hvf]
   clear hC hC1 hC2 hC3 hC4 hfin hat hI hI2;refine wk ?_;refine dU rfl trivial (Ol rt (by rw[ahi (by simpa using hrl),ah2 hrl]) ?_);rw[ahY _ _ (by simpa using hrl),ais];simp only[AV.frzL,AV.frz,ha,hb,hc,hCf2];exact aa (hf2.out _)
theorem afg{P:Program}{f:FuncId}{b:Bool}(h:ab P f [] [] λv _=>v=.bool b)(hk:K (.bool b) L):ab P f [] L K:=λw0 S0 E w vs hR hv=>by
 have hR0:Rel w ⟨λ_=>False,0⟩ {mem:=E.mem,loc:=λ_=>none,tok:=λ_=>none} [] w:=by
  refine⟨hR.mem,?_,λ_ _=>rfl,?_,?_,λ_ _=>rfl,?_,?_,?_,λ_ _ _=>rfl,ag9 _,rfl,rfl,rfl,hR.glob,hR.gsz⟩
  all_goals intros;simp_all
 have key:∀{E':Env}{L':List Blk}{w':World},Rel w ⟨λ_=>False,0⟩ E' L' w'->rT w w':=λk=>⟨λb hb=>k.frame b hb (λx=>x),k.size,k.os,k.tape,k.output⟩
 have hv0:VRL {mem:=E.mem,loc:=λ_=>none,tok:=λ_=>none} [] vs:=by simpa only[VRL]using hv
 rcases h w _ _ w vs hR0 hv0 with⟨h1,h2⟩|⟨E',v,av,L',w',h1,h2,h3,h4,h5⟩;refine .inl ⟨h1,h2.mono λe w' ⟨E',v,av,L',a,b,c,d,r⟩=>⟨E,v,_,L,a,.refl E,hk,?_,hR.grown (key r)⟩⟩;subst c;simpa only[VR]using d;refine .inr ⟨E,v,_,L,w',h1,.refl E,hk,?_,hR.grown (key h5)⟩;subst h3;simpa only[VR]using h4
abbrev cnS:List UInt8:=[99,110]
abbrev P5:TMp:=(IS aE [] [cnS]).2
theorem aeI:IS aE [] [cnS]=(0,P5):=by kernel_rfl
theorem aeJ(b:List UInt8)(h:b.length<=4):Sx [(cnS,[b])]:=⟨by simp,by simp[lp],λx hx=>by rw[ahs.1 hx];exact⟨by show a7 cnS;unfold a7;decide,by simp⟩⟩
theorem acW:cP P5 P5.length/\∀e∈P5,a7 e.1:=by have h:=Uz (ts:=aE) (ns:=[cnS]) (TmS.nil _) (λn hn=>by rw[ahs.1 hn];unfold a7;decide);refine⟨h.ok,λe he=>?_⟩;obtain⟨n,_,h2,h3⟩:=h.ty e he;rw[<- h2];unfold a7 at h3⊢;rw[OK];exact h3
def adh(a:List Atr):Prop:=(a.length:Int)<=9223372036854775807/\∀x∈a,a7 x.1/\(x.2.length:Int)<=9223372036854775807
structure U9(l:List bd):Prop where
 len:(l.length:Int)<=9223372036854775807
 at':∀e∈l,adh e.2
 id:∀e∈l,-9223372036854775808<=e.1/\e.1<=9223372036854775807
structure gv(L0 L:List Blk)(it rt:Nat)(tm:TMp)(l:List bd)(B:Nat->Prop):Prop where
 ix:IxO L it tm l B
 doc:aeO L rt [.sl (cG aE) aE.length none,.sl T6 9 none] tm l
 tms:TmS aE tm
 ents:∀e∈l,InA aE e.2/\Sx e.2
 ids:∀e∈l,-9223372036854775808<=e.1/\e.1<=9223372036854775807
 apart:¬B rt
 bes:bH (λ_=>False) L0 L
 own:∀i,B i->L0.length<=i
 rtl:L0.length<=rt
theorem TmS.ixg{tm:TMp}(h:TmS aE tm)(he:∀e∈l,InA aE e.2/\Sx e.2):IxG tm l:=⟨h.ok,λe hm=>by obtain⟨n,_,h2,h3⟩:=h.ty e hm;rw[<- h2];unfold a7 at h3⊢;rw[OK];exact h3,λe hm=>(he e hm).2⟩
theorem VX(x:bd):∀l:List bd,(kS x l).length=l.length+1
 |[]=>rfl
 | e::t=>by
   rw[kS];split
   .rfl
   .rw[ahj,VX x t,ahj]
theorem abk(id:Int)(a:List Atr)(l:List bd):(DN id a l).length<=l.length+1:=by unfold DN;rw[VX];have:(cz id l).length<=l.length:=ai0 _ _;omega
theorem gv.drop{L1 L2:List Blk}{tm:TMp}{l':List bd}{B':Nat->Prop}(h:gv L0 L it rt tm l B)(h1:IxO L1 it tm l' B')(b1:bH B L L1)(o1:∀i,B' i->B i\/L.length<=i)(he:∀e∈l',InA aE e.2/\Sx e.2)(hi:∀e∈l',-9223372036854775808<=e.1/\e.1<=9223372036854775807)(hd:aeO L2 rt [.sl (cG aE) aE.length none,.sl T6 9 none] tm l')(b2:bH (λi=>i=rt) L1 L2):gv L0 L2 it rt tm l' B':=by
 have hrl:rt<L.length:=by obtain⟨k2,hk⟩:=h.doc;exact(ag8.1 hk).1
 have ap:¬B' rt:=λe=>by rcases o1 rt e with q|q;exact h.apart q;omega
 refine⟨h1.keep b2 λi hi e=>ap (by rw[<- e];exact hi),hd,h.tms,he,hi,ap,?_,λi hi=>?_,h.rtl⟩;refine(h.bes.trans b1 λi hi e=>?_).trans b2 λi hi e=>?_
 exact absurd (h.own i e) (by omega);have:=h.rtl;omega;rcases o1 i hi with q|q;exact h.own i q;exact ahy h.bes.len q
theorem gv.app{tm:TMp}(h:gv L0 L it rt tm l B)(X:List Blk):gv L0 (L++X) it rt tm l B:=by obtain⟨k2,hk⟩:=h.doc;exact⟨h.ix.app X,⟨k2,ag3 hk⟩,h.tms,h.ents,h.ids,h.apart,h.bes.app2 X,h.own,h.rtl⟩
theorem gv.base{L0':List Blk}{tm:TMp}(h:gv L0' L it rt tm l B)(hb:bH (λ_=>False) L0 L0'):gv L0 L it rt tm l B :=
 ⟨h.ix,h.doc,h.tms,h.ents,h.ids,h.apart,hb.trans h.bes (λ_ _ e=>e),λi hi=>ahy hb.len (h.own i hi),ahy hb.len h.rtl⟩
theorem ad5{l:List Atr}(hl:Wg l=true)(hz:(vK aE [] l).2=0):InA aE (vK aE [] l).1/\Sx (vK aE [] l).1:=by obtain⟨f1,f2⟩:=Yy hl;have hi:=Yo (aft aE) hz;obtain⟨b1,b2⟩:=abM (ts:=aE) (B:=60) (l:=l) (out:=[]) (i:=0) (by simp) (by simp) (λa ha=>(f2 a ha).1);refine⟨hi,by omega,hi.1,λx hx=>⟨?_,?_⟩⟩;obtain⟨ty,h1,h2,_⟩:=hi.2 x hx;rw[<- h2];exact rq.2.1 ty (aju h1);have h1:=b2 x hx;have:60*(0+l.length)<=60*60:=Nat.mul_le_mul_left _ (by omega);omega
theorem abN{ns:List (List UInt8)}{acts:List bd}{capA:Option Nat}(hn:∀n∈ns,a7 n)(hnl:(ns.length:Int)<=9223372036854775807)(ha:U9 acts)(h0:∀L',bH (λ_=>False) L L'->K (.tup [.nilptr,.nilptr]) L')(h1:∀L' it rt tm l B,IS aE [] ns=(0,tm)->gv L L' it rt tm l B->l.length<=40->K (.tup [.ptr it 0,.ptr rt 0]) L'):
  ag6 24 [.sl (ns.map AV.str) ns.length cap,.sl (cw acts) acts.length capA] L K:=by
 obtain⟨R,hR⟩:=ag2 (IS aE [] ns);have hts:=Uz (ts:=aE) (ns:=ns) (TmS.nil _) hn;rw[hR]at hts;obtain⟨x,hx⟩:=ag2 (cG aE);obtain⟨m,hm⟩:=ag2 (aE.length);obtain⟨y,hy⟩:=ag2 (T6);have kk1:Hid (Ctr Tryz.prog 20 [] (.agg [.sl x m none,.sl y 9 none])):=hid λq=>acF (by rw[hx,hm,hy];exact q)
 have hyf:AV.frzL y=y:=by rw[<- hy];rfl
 have hxf:AV.frzL x=x:=by rw[<- hx];exact DW _
 have kM:∀l:List Atr,Wg l=true->adh l->Hid (Ctr Tryz.prog 34 [.agg [.sl x m none,.sl y 9 none],.sl (bo l) l.length none] (.tup [.sl (bo (vK aE [] l).1) (vK aE [] l).1.length none,.int .i64 (vK aE [] l).2])):=λl hl hr=>@hid _ (λ{L K} q=>by obtain⟨f1,f2⟩:=Yy hl;rw[<- hx,<- hm];exact adS rq (by omega) (λa ha=>⟨(hr.2 a ha).1,by have:=(f2 a ha).1;omega⟩) rfl q)
 have kF:∀l:List Atr,adh l->Hid (Ctr Tryz.prog 33 [.sl (bo l) l.length none] (.bool (Wg l))):=λl hr=>@hid _ (λ{L K} q=>agt hr.1 (λa ha=>(hr.2 a ha).2) q)
 have kN:Hid (∀{L:List Blk}{K:ag7},(∀L',R.1≠0->bH (λ_=>False) L L'->K (.tup [.nilptr,.int .i64 R.1]) L')->(∀L' it B,R.1=0->Hid (IxO L' it R.2 [] B/\bH (λ_=>False) L L'/\∀i,B i->L.length<=i)->K (.tup [.ptr it 0,.int .i64 0]) L')->ag6 19 [.agg [.sl x m none,.sl y 9 none],.sl (ns.map AV.str) ns.length cap] L K):=@hid _ (λ{L K} q0 q1=>by rw[<- hx,<- hm];exact Yr rq.1 rq.2.1 (by omega) hn hR q0 λL' it B e g1 g2 g3=>q1 L' it B e (hid ⟨g1,g2,g3⟩))
 have kR:Hid (∀{L:List Blk}{K:ag7},(∀L',R.1≠0->bH (λ_=>False) L L'->K (.tup [.nilptr,.int .i64 R.1]) L')->(∀L' rt,R.1=0->Hid (aeO L' rt [.sl (cG aE) aE.length none,.sl T6 9 none] R.2 []/\bH (λ_=>False) L L'/\L.length<=rt)->K (.tup [.ptr rt 0,.int .i64 0]) L')->ag6 32 [.agg [.sl x m none,.sl y 9 none],.sl (ns.map AV.str) ns.length cap] L K):=@hid _ (λ{L K} q0 q1=>by rw[<- hx,<- hm];exact aa6 rq.1 rq.2.1 hyf (by omega) hn hR q0 λL' rt e g1 g2 g3=>q1 L' rt e (hid ⟨by rw[hy];exact g1,g2,g3⟩))
 have hel:=OT acts;have hat:=hid (λk (q:k<acts.length)=>N9 q);obtain⟨ES,hES⟩:=ag2 (cw acts);rw[hES]at hel hat⊢;replace h0:=hid h0;replace h1:=hid h1;replace ha:=hid ha;replace hts:=hid hts;obtain⟨z,tm⟩:=R;simp only at kN kR hts;have hcl:=hid hR;clear hR hn hnl hES;by_cases hz:z=0;rotate_left;have hz1:¬(z:Int)=0:=hz;refine ag5 DJ ?_;refine kN.out (λL1 _ u1=>?_) (λ_ _ _ e=>absurd e hz);have hb1:Hid (bH (λ_=>False) L L1/\L1[L.length]?=some (.cells [.sl x m none,.sl y 9 none])):=hid ⟨(bH.app (B:=λ_=>False) L _).trans u1 (λ_ _ e=>e),u1.get (by simp) (λe=>e)⟩;clear u1;have hx7:=hb1.out.2;refine wk ?_;refine kR.out (λL2 _ u2=>?_) (λ_ _ e=>absurd e hz);have h0':=hid (λX=>h0.out (L2++X) ((hb1.out.1.trans u2 (λ_ _ e=>e)).app2 X));clear u2 hb1 hx7 kN kR L1;refine wk ?_;exact aa (by simpa using h0'.out [])
 .subst hz;obtain⟨L0,hL0⟩:=ag2 (L++[Blk.cells [.sl x m none,.sl y 9 none]]);have hb0:=hid (show bH (λ_=>False) L L0 by rw[<- hL0];exact bH.app _ _);have hx0:L0[L.length]?=some (.cells [.sl x m none,.sl y 9 none]):=(by rw[<- hL0];simp);replace hL0:=hid hL0;refine ag5 DJ ?_;rw[hL0.out];refine kN.out (λ_ e _=>absurd rfl e) (λL1 it B _ u1=>?_);have hx1:L1[L.length]?=some (.cells [.sl x m none,.sl y 9 none]):=u1.out.2.1.get hx0 (λe=>e);refine wk ?_;refine kR.out (λ_ e _=>absurd rfl e) (λL2 rt _ u2=>?_);have hM0:Hid (gv L0 L2 it rt tm [] B):=hid (by obtain⟨v1,v2,v3⟩:=u1.out;obtain⟨w1,w2,w3⟩:=u2.out;refine⟨v1.keep w2 (λ_ _ e=>e),w1,hts.out,λe he=>(by cases he),λe he=>(by cases he),λe=>?_,v2.trans w2 (λ_ _ e=>e),v3,ahy v2.len w3⟩;have:=v1.lt e;omega)
  have hx2:L2[L.length]?=some (.cells [.sl x m none,.sl y 9 none]):=u2.out.2.1.get hx1 (λe=>e);clear u1 u2 hx1 kN kR hts;by_cases h30:30<acts.length;have g1:(acts.length:Int)>30:=(by omega);have g2:(30:Int)<(acts.length:Int):=(by omega);have h0':=hid (h0.out L2 (hb0.out.trans hM0.out.bes (λ_ _ e=>e)));clear hM0 hx2 kM kF;refine wk ?_;exact aa h0'.out;have g30:¬(acts.length:Int)>30:=(by omega);have g31:¬(30:Int)<(acts.length:Int):=(by omega);refine wk ?_;refine ak (λn T' L'=>∃(j:Nat) (l:List bd) (B:Nat->Prop),n=acts.length-j/\j<=acts.length/\Hid (gv L0 L' it rt tm l B/\l.length<=j/\l.length<=40)/\Hid (L2.length<=L'.length)/\T'=[(45,.int .i64 (j:Int)),(44,.int .i64 acts.length),(43,.sl ES acts.length capA),(9,.ptr rt 0),(7,.ptr it 0),(6,.ptr L.length 0)]) (CutS (b:=ag9 _)) ⟨0,[],B,rfl,ahf _,hid ⟨hM0.out,by simp,by simp⟩,hid (ag9 _),rfl⟩ ?_;clear hM0 hx2;rintro _ _ L' ⟨j,l,B,rfl,hj,hM,hle,rfl⟩;have hx7:L'[L.length]?=some (.cells [.sl x m none,.sl y 9 none]):=hM.out.1.bes.get hx0 (λe=>e);by_cases hjl:j<acts.length
  .have hal:=ha.out.len;have j1:(j:Int)<(acts.length:Int):=(by omega);have j2:=ag4 j (by omega);have e3:=hat.out j hjl;have e4:j*2+2<=ES.length:=(by rw[hel];omega);obtain⟨⟨id,av⟩,he⟩:∃e,acts.getD j (0,[])=e:=⟨_,rfl⟩;have hmem:(id,av)∈acts:=(by rw[<- he];simp[hjl]);have hrd:=ha.out.at' _ hmem;have hidr:=ha.out.id _ hmem;simp only at hidr;rw[he]at e3;simp only[RL]at e3;have kF1:=@kF av hrd;have aX:∀X,(L'++X)[L.length]?=some (.cells [.sl x m none,.sl y 9 none]):=λX=>ag3 hx7
   have hle2:=hle.out;cases hfw:Wg av with
   | false =>
     have kk2:Hid (Ctr Tryz.prog 33 [.sl (bo av) av.length none] (.bool false)):=@hid _ (λ{L K} q=>kF1.out (by rw[hfw];exact q));have h0':=hid (λX=>h0.out (L'++X) ((hb0.out.trans hM.out.1.bes (λ_ _ e=>e)).app2 X));clear hal he hmem hrd kF1 kM kF hfw hM;refine wk ?_;exact aa (h0'.out _)
   | true =>
     have kk2:Hid (Ctr Tryz.prog 33 [.sl (bo av) av.length none] (.bool true)):=@hid _ (λ{L K} q=>kF1.out (by rw[hfw];exact q));have kM1:=@kM av hfw hrd;have hmk:=hid (λhz=>ad5 hfw hz);obtain⟨⟨R1,z1⟩,hR1⟩:∃R,vK aE [] av=R:=⟨_,rfl⟩;rw[hR1]at kM1 hmk;simp only at hmk;have kk3:Hid (Ctr Tryz.prog 34 [.agg [.sl x m none,.sl y 9 none],.sl (bo av) av.length none] (.tup [.sl (bo R1) R1.length none,.int .i64 z1])):=@hid _ (λ{L K} q=>kM1.out q);have hMA:=hid (hM.out.1.app [.cells [.int .i64 id,atV av]]);have hM3:=hid (λi (hi:B i)=>hM.out.1.ix.lt hi);have hln:=hid hM.out.2;replace hidr:=hid hidr;have hj40:j<40:=(by omega);clear he hmem hrd kF1 kM kF hfw kM1 hR1 hM;by_cases hz2:z1=0;rotate_left
     .have hnl:Hid (L2.length<=(L'++[Blk.cells [.int .i64 id,atV av]]).length):=hid (by simp;omega);have hnx:Hid (gv L0 (L'++[Blk.cells [.int .i64 id,atV av]]) it rt tm l B/\l.length<=j+1/\l.length<=40):=hid ⟨hMA.out,by have:=hln.out;omega,hln.out.2⟩;clear hMA hln hmk;refine wk ?_;exact ah _ _ _ (by omega) (CutL (b:=hnl.out)) ⟨j+1,l,B,rfl,hjl,hnx,hnl,rfl⟩
     subst hz2;have hz0:(0:Int)=0:=rfl;by_cases hav:av=[]
     .have hv1:(av.length:Int)=0:=(by rw[hav];rfl);have hv2:¬(av.length:Int)>0:=(by omega);have hv3:¬(0:Int)<(av.length:Int):=(by omega);replace hav:=hid hav;have hnl:Hid (L2.length<=(L'++[Blk.cells [.int .i64 id,atV av]]).length):=hid (by simp;omega);have hnx:Hid (gv L0 (L'++[Blk.cells [.int .i64 id,atV av]]) it rt tm l B/\l.length<=j+1/\l.length<=40):=hid ⟨hMA.out,by have:=hln.out;omega,hln.out.2⟩;clear hMA hln hmk;refine wk ?_;exact ah _ _ _ (by omega) (CutL (b:=hnl.out)) ⟨j+1,l,B,rfl,hjl,hnx,hnl,rfl⟩
     .have hv1:¬(av.length:Int)=0:=λe=>hav (ahH.1 (by omega))
      have hv2:(av.length:Int)>0:=(by omega);have hv3:(0:Int)<(av.length:Int):=(by omega);obtain⟨hRi,hRo⟩:=hmk.out rfl;replace hRi:=hid hRi;replace hRo:=hid hRo;refine wk ?_;refine Yq hMA.out.ix (hMA.out.tms.ixg hMA.out.ents) hRo.out λL3 B3 g3 g4 g5=>?_
      obtain⟨k2,hk⟩:=hMA.out.doc;have hk3:=hid (g4.get hk hMA.out.apart);have hD3:=hid (show _/\_/\_ from⟨g3,g4,g5⟩);clear g3 g4 g5 hk;have hbx:L3[L'.length]?=some (.cells [.int .i64 id,atV av]):=hD3.out.2.1.get (by simp) λe=>by have:=hM3.out _ e;omega
      refine wk ?_;refine aa1 (by have:=hln.out;omega) hk3.out (by simp only[AV.frz,DW]) (by simp only[AV.frz];rfl) (by simp only[AV.frz,eh]) hRo.out.len (λa ha=>(hRo.out.sz a ha).2) λL4 k q1 q2=>?_
      have hnx:Hid (gv L0 L4 it rt tm (DN id R1 l) B3/\(DN id R1 l).length<=j+1/\(DN id R1 l).length<=40):=hid ⟨hMA.out.drop hD3.out.1 hD3.out.2.1 hD3.out.2.2 (λe he=>by
        rcases kK.1 he with rfl|⟨h,_⟩
        .exact⟨hRi.out,hRo.out⟩
        .exact hMA.out.ents e h) (λe he=>by
        rcases kK.1 he with rfl|⟨h,_⟩
        .exact hidr.out
        .exact hMA.out.ids e h) ⟨_,q1⟩ q2,by
       have:=abk id R1 l;have h2:=hln.out;omega⟩
      have hnl:Hid (L2.length<=L4.length):=hid (by have h3:=hD3.out.2.1.len;have h4:=q2.len;simp at h3;omega)
      clear hMA hD3 hk3 q1 q2 hmk hln hRi hRo;refine wk ?_;exact ah _ _ _ (by omega) (CutL (b:=hnl.out)) ⟨j+1,_,_,rfl,hjl,hnx,hnl,rfl⟩
  have hje:j=acts.length:=(by omega);subst hje;have j1:¬(acts.length:Int)<(acts.length:Int):=(by omega);have hfin:=hid (h1.out _ _ _ _ _ _ hcl.out (hM.out.1.base hb0.out) hM.out.2.2);clear hM;refine wk ?_;exact aa hfin.out
end Go.Proofs.YtcmfcpjnhephaaaGreatDoor.Av
set_option maxRecDepth 100000
namespace Go.Proofs.YtcmfcpjnhephaaaGreatDoor.Av
open Go
def pl:LSO:=[Af 4]
def pj:LSO:=[Aa 5 0,As 6 5,Ad 7 1 6,Ab 8 1 7,Aa 9 0,As 10 9,Ad 11 0 10,Ab 12 1 11,Au 13 12,Al 14 8 13,Aa 15 14,.grp none 15 true
 [Ae 16 15 0,AX 17 15 16,A8 18 15 0 17,A7 19 15 1 18,Ae 20 15 0,AX 21 15 20,A8 22 15 1 21,A7 23 15 1 22,AS 24 15 19 23,Ae 25 15 1,BW 26 15 24 25]
 27 (tm 26)]
def pi:LSO:=[Aa 28 0,As 29 28,Ad 30 1 29,Ab 31 1 30,Ag 32 31 1,As 33 28,Ad 34 1 33,Ai 1 34 32]
def ph:LSO:=[A0 4]
def pg:LSO:=[Af 4]
def dS:aO:=⟨35,(akg pl [] (.seq (.seq (.sdreg pj [.pure,(.read 0 0),.pure,(.read 0 0),.pure,(.read 0 0),.pure,(.read 0 0),(.read 0 0),.pure,.pure,.pure,(.read 0 0),.pure,(.read 0 0),.pure,(.read 0 0),.pure,(.read 0 0),(.read 0 0),.pure] C6) (akh 27 (akg pi C2 (akg ph [] .ret)) .skip)) (akg pg [] .ret))),[(.tmp 4)]⟩
attribute [push_cast] pl pj pi ph pg
theorem oI:akl 150=akm dS:=by kernel_rfl
def lV:LSO:=[AU 2]
def lU:LSO:=[Aa 14 0,As 15 14,Ad 16 1 15,Ab 17 1 16,Aa 3 17]
def lT:LSO:=[Aa 18 0,As 19 18,Ad 20 1 19,Ab 21 1 20,Aa 22 0,As 23 22,Ad 24 0 23,Ab 25 1 24,Au 26 25,Al 27 21 26,Aa 28 27,.grp none 28 true
 [Ae 29 28 0,AX 30 28 29,A8 31 28 0 30,A7 32 28 1 31,Ae 33 28 3,Ae 34 28 0,AX 35 28 34,A8 36 28 1 35,A7 37 28 1 36,Cb 38 28 37 1,
 og 39 28 true (.slS (tm 32) (some (tm 33)) (some (tm 38))),AJ 40 28 134 39]
 41 (tm 40)]
def lS:LSO:=[Aa 42 0,As 43 42,Ad 44 1 43,Ab 45 1 44,Ag 46 45 1,As 47 42,Ad 48 1 47,Ai 1 48 46]
def lR:List (ai×Kd):=
 [A6 49 0,AE 50 49 0 1,A5 51 0 50,Az 52 1 51 0 1,A6 53 3,A6 54 0,AE 55 54 0 1,A5 56 1 55,Az 57 1 56 0 1,od 58 (.slS (tm 52) (some (tm 53)) (some (tm 57))) (.read 0 1),
 od 59 (.build [(.int .i64 0),(.str []),(.str []),(.sl [] 0 (some 0)),(.sl [] 0 (some 0))] [(1,(1,(tm 58)))]) .pure,
 od 4 (.alloc [(.int .i64 0),(.str []),(.str []),(.sl [] 0 (some 0)),(.sl [] 0 (some 0))]) .eff]
def jt:List ai :=
 [⟨none,(.store 5 (tm 4) (tm 59)),none⟩]
def lQ:LSO:=[Ad 60 1 4,Ab 61 1 60,Bz 62 61]
def lP:LSO:=[Aa 63 0,AL 64 151 63 4,Ai 5 2 64]
def lO:LSO:=[Ad 65 0 4,Bc 1 65 3]
def lN:LSO:=[Aa 66 0,o1 67 (.call 150 [(tm 66),(.av (.int .u8 62))])]
def lM:LSO:=[Ad 68 0 4,Bc 1 68 5]
def kf:LSO:=[Aa 69 0,o1 70 (.call 150 [(tm 69),(.av (.int .u8 60))])]
def ke:LSO:=[Ad 71 0 4,Bc 1 71 6]
def kc:LSO:=[Aa 72 0,o1 73 (.call 150 [(tm 72),(.av (.int .u8 126))])]
def kb:LSO:=[Ad 74 0 4,Bc 1 74 8]
def j9:LSO:=[Aa 75 0,o1 76 (.call 150 [(tm 75),(.av (.int .u8 61))]),Ay 77 76]
def j8:LSO:=[Aa 78 0,AL 79 151 78 4,Ai 5 2 79]
def j7:LSO:=[Ac 5 0]
def j6:LSO:=[Aj 6]
def j5:LSO:=[Aj 7]
def jZ:LSO:=[Aa 80 0,o1 81 (.call 150 [(tm 80),(.av (.int .u8 41))]),Ay 82 81]
def jY:LSO:=[Aa 83 0,As 84 83,Ad 85 1 84,Ab 86 1 85,Aa 87 0,As 88 87,Ad 89 0 88,Ab 90 1 89,Au 91 90,AC 92 86 91]
def jX:LSO:=[Aa 93 0,AL 94 151 93 4,Ai 5 2 94]
def jW:LSO:=[Aa 95 0,As 96 95,Ad 97 0 96,Ab 98 1 97,Aa 99 0,As 100 99,Ad 101 1 100,Ab 102 1 101,AA 103 98 102,Aa 8 103]
def jV:LSO:=[Aa 104 0,As 105 104,Ad 106 1 105,Ab 107 1 106,Ag 108 107 1,As 109 104,Ad 110 1 109,Ai 1 110 108]
def jU:LSO:=[Aa 111 8,o1 112 (.bin .eql (tm 111) (.av (.int .u8 42)))]
def jT:LSO:=[Aa 113 5,Ag 114 113 1,Aa 5 114]
def jS:LSO:=[Aa 115 6,Aa 116 7,AN 117 116,Bl 118 117,Bh 119 115 118,Aa 6 119]
def jR:LSO:=[Aj 7]
def jQ:LSO:=[Aa 120 8,o1 121 (.bin .eql (tm 120) (.av (.int .u8 92)))]
def jP:LSO:=[Aa 122 0,As 123 122,Ad 124 1 123,Ab 125 1 124,Ag 126 125 2,Aa 127 0,As 128 127,Ad 129 0 128,Ab 130 1 129,Au 131 130,
 o1 132 (.bin .gtr (tm 126) (tm 131))]
def jO:LSO:=[Aa 133 0,AL 134 151 133 4,Ai 5 2 134]
def jN:LSO:=[Aa 136 0,As 137 136,Ad 138 0 137,Ab 139 1 138,Aa 140 0,As 141 140,Ad 142 1 141,Ab 143 1 142,Aa 144 0,As 145 144,Ad 146 1 145,Ab 147 1 146,
 Ag 148 147 2,B5 149 139 143 148,Ak 150 189 149,Aa 135 150,Ar 151 135,Aw 152 135,Aa 9 151,Aa 10 152]
def jM:LSO:=[Aa 153 10,Ay 154 153]
def jL:LSO:=[Aa 155 0,AL 156 151 155 4,Ai 5 2 156]
def jK:LSO:=[Aa 157 7,Aa 158 9,Bx 159 158 0,AK 160 159,AD 161 157 160,Aa 7 161]
def jJ:LSO:=[Aa 162 0,As 163 162,Ad 164 1 163,Ab 165 1 164,Ag 166 165 2,As 167 162,Ad 168 1 167,Ai 1 168 166]
def jI:LSO:=[Aa 169 8,B4 170 169,Aa 171 170,.grp none 171 false
 [Ah 172 171 8,og 173 171 false (.bin .eql (tm 172) (.av (.int .u8 40)))]
 174 (tm 173)]
def jH:LSO:=[Aa 175 0,AL 176 151 175 4,Ai 5 2 176]
def jG:LSO:=[Aa 177 7,Aa 178 8,AK 179 178,AD 180 177 179,Aa 7 180]
def jF:LSO:=[Aa 181 6,Aa 182 7,AN 183 182,Bl 184 183,Bh 185 181 184,Aa 6 185]
def jE:LSO:=[Aa 186 5,Aq 187 186 0]
def jD:LSO:=[Aa 188 6,o1 189 (.iaddr 1 (tm 188) (iv 0)),Ab 190 1 189,Ad 191 2 4,Ai 1 191 190]
def jC:LSO:=[Ap 192 5 4,Ai 5 2 192]
def jB:LSO:=[Ad 193 0 4,Ab 194 1 193,AF 195 194 3]
def jA:LSO:=[Aa 196 0,AL 197 151 196 4,Ai 5 2 197]
def jz:LSO:=[Aa 198 5,Aq 199 198 1,Aa 200 199,.grp none 200 true
 [Ae 201 200 6,og 202 200 true (.iaddr 1 (tm 201) (iv 0)),A7 203 200 1 202,Cp 204 200 203]
 205 (tm 204),Aa 206 205,.grp none 206 true
 [Ae 207 206 6,og 208 206 true (.iaddr 1 (tm 207) (iv 1)),A7 209 206 1 208,Cp 210 206 209]
 211 (tm 210)]
def jy:LSO:=[Ad 212 0 4,Bc 1 212 7]
def jw:LSO:=[Ap 213 5 4,Ai 5 2 213]
def jv:LSO:=[Ad 214 0 4,Bc 1 214 4]
def ju:LSO:=[Aa 215 6,Am 216 215,Ac 217 0]
def jr:LSO:=[Al 218 217 216]
def jq:LSO:=[Aa 219 217,An 220 1 215 217,Ab 221 1 220,Aa 11 219,Aa 12 221]
def jp:LSO:=[Aa 222 11,A3 223 222 0,Aa 224 223,.grp none 224 true
 [Ae 225 224 11,Ae 226 224 5,Bt 227 224 225 226]
 228 (tm 227),Aa 229 228,.grp none 229 true
 [Ae 230 229 12,Cp 231 229 230]
 232 (tm 231)]
def jo:LSO:=[Aa 233 0,AL 234 151 233 4,Ai 5 2 234]
def jm:LSO:=[Aa 235 12,Ca 236 235]
def jl:LSO:=[Ac 13 1]
def jk:LSO:=[Aa 237 11,Aq 238 237 0]
def ji:LSO:=[Ac 13 0]
def jh:LSO:=[Aa 239 11,Aa 240 5,AC 241 239 240]
def jg:LSO:=[Ac 13 2]
def jf:LSO:=[Ad 242 3 4,Ab 243 1 242,Aa 244 13,Aa 245 12,o1 246 (.build [(.int .i64 0),(.str [])] [(0,(1,(tm 244))),(1,(1,(tm 245)))]),
 o1 247 (.bslice false 2 1 [(.int .i64 0),(.str [])] [(0,(2,(tm 246)))]),o1 248 (.app 1 2 24 [(.int .i64 0),(.str [])] (tm 243) (tm 247)),Ad 249 3 4,Ai 1 249 248]
def je:LSO:=[Ag 250 217 1,Aa 217 250]
def jd:LSO:=[Ap 251 5 4,Ai 5 2 251]
def dz:aO:=⟨252,(akg lV [] (akg lU Ct (.seq (akj 0 (.seq (.seq (.sdreg lT [.pure,(.read 0 0),.pure,(.read 0 0),.pure,(.read 0 0),.pure,(.read 0 0),(.read 0 0),.pure,.pure,.pure,(.read 0 0),.pure,(.read 0 0),.pure,.pure,(.read 0 0),.pure,(.read 0 0),.pure] C6) (akk 41 0)) (.block 1 (.sreg lS C2)))) (.seq (.dregM lR jt C6) (.seq (akg lQ Cr (aki 62 (.sreg lP Cy))) (akg lO C3 (.seq (akg lN Cq (akh 67 (.sreg lM C3) (akg kf Cq (akh 70 (.sreg ke C3) (akg kc Cq (akh 73 (.sreg kb C3) .skip)))))) (.seq (akg j9 Cr (aki 77 (.sreg j8 Cy))) (akg j7 [] (akg j6 [] (akg j5 [] (.seq (akj 2 (.seq (akg jZ Cr (akk 82 2)) (.block 3 (.seq (.seq (.sdreg jY [.pure,(.read 0 0),.pure,(.read 0 0),.pure,(.read 0 0),.pure,(.read 0 0),(.read 0 0)] CD) (aki 92 (.sreg jX Cy))) (.seq (.sdreg jW [.pure,(.read 0 0),.pure,(.read 0 0),.pure,(.read 0 0),.pure,(.read 0 0)] CD) (akg jV C2 (akg jU Cq (akh 112 (akg jT Cr (akg jS Cu (.sreg jR []))) (akg jQ Cq (akh 121 (.seq (.seq (.sdreg jP [.pure,(.read 0 0),.pure,(.read 0 0),.pure,.pure,(.read 0 0),.pure,(.read 0 0),(.read 0 0)] CJ) (aki 132 (.sreg jO Cy))) (.seq (.sdreg jN [.pure,(.read 0 0),.pure,(.read 0 0),.pure,(.read 0 0),.pure,(.read 0 0),.pure,(.read 0 0),.pure,(.read 0 0),.pure,(.read 0 0),(.read 0 0),.pure,.pure,.pure,.pure] [true,true,false,false,false,false,false,false,false,false,false,false,false,false,false,false,false,false,false,false]) (.seq (akg jM Cq (aki 154 (.sreg jL Cy))) (akg jK Cu (.sreg jJ C2))))) (akg jI Cs (akh 174 (akg jH Cy .ret) (.sreg jG Ct))))))))))))) (akg jF Cu (.seq (akg jE Cq (akh 187 (akg jD CH (akg jC C3 .ret)) .skip)) (.seq (akg jB Cr (aki 195 (.sreg jA Cy))) (.seq (akg jz Cu (akh 211 (akg jy C3 (akg jw C3 .ret)) .skip)) (akg jv C3 (.seq (akg ju [] (akj 4 (akg jr [] (.seq (akk 218 4) (.seq (.block 5 (akg jq Cz (.seq (akg jp Cu (aki 232 (.sreg jo Cy))) (akg jm Cq (akh 236 (akg jl [] (.seq (akg jk Cq (akh 238 (.sreg ji []) (akg jh Cr (akh 241 (.sreg jg []) .skip)))) (.sreg jf CE))) .skip))))) (.sreg je Cq)))))) (akg jd C3 .ret))))))))))))))))))),[(.cell true 5 2)]⟩
attribute [push_cast] lV lU lT lS lR jt lQ lP lO lN lM kf ke kc kb j9 j8 j7 j6 j5 jZ jY jX jW jV jU jT jS jR jQ jP jO jN jM jL jK jJ jI jH jG jF jE jD jC jB jA jz jy jw jv ju jr jq jp jo jm jl jk ji jh jg jf je jd
theorem lh:akl 152=akm dz:=by kernel_rfl
def xZ:LSO:=[AU 2,Ac 3 0]
def xY:LSO:=[Aa 6 0,Au 7 6,A3 8 7 4096]
def xX:LSO:=[o1 9 (.build [(.int .i64 0),(.str []),(.str []),(.sl [] 0 (some 0)),(.sl [] 0 (some 0))] []),Ai 5 2 9,Ac 3 5]
def xW:LSO:=[Aa 10 0,o1 11 (.build [(.str []),(.int .i64 0),(.int .i64 0),(.int .i64 0)] [(0,(1,(tm 10)))]),A4 12 11,Aa 4 12]
def xV:LSO:=[Aa 13 4,AL 14 107 13 1,AU 5,Ai 5 5 14]
def xU:LSO:=[Aa 15 4,As 16 15,Ad 17 3 16,Ab 18 1 17,Aq 19 18 0,Aa 20 19,.grp none 20 true
 [Ae 21 20 4,AX 22 20 21,A8 23 20 1 22,A7 24 20 1 23,Ae 25 20 0,BI 26 20 25,Bt 27 20 24 26]
 28 (tm 27)]
def xT:LSO:=[Aa 29 4,As 30 29,Ad 31 3 30,Bc 1 31 4]
def xS:LSO:=[Aa 32 4,As 33 32,Ad 34 3 33,Ab 35 1 34,AF 36 35 0]
def xR:List (ai×Kd):=
 [od 37 (.build [(.int .i64 0),(.str []),(.str []),(.sl [] 0 (some 0)),(.sl [] 0 (some 0))] []) .pure,A6 38 4,AE 39 38 0 1,A5 40 3 39,Az 41 1 40 0 1,
 (⟨none,(.store 5 (tm 2) (tm 37)),none⟩,.eff)]
def tv:List ai :=
 [⟨(some 3),(.mv (tm 41)),none⟩]
def xQ:LSO:=[Ap 42 5 5,Ai 5 2 42,Ac 3 0]
def rE:aO:=⟨43,(akg xZ [] (.seq (akg xY Cr (aki 8 (.sreg xX Cq))) (akg xW Cs (akg xV Cr (.seq (akg xU Cw (akh 28 (.sreg xT CK) .skip)) (.seq (akg xS Ct (aki 36 (.dregM xR tv Cu))) (akg xQ Cq .ret))))))),[(.cell true 5 2),(.tmp 3)]⟩
attribute [push_cast] xZ xY xX xW xV xU xT xS xR tv xQ
theorem O0:akl 58=akm rE:=by kernel_rfl
attribute [push_cast] dS dz rE
end Go.Proofs.YtcmfcpjnhephaaaGreatDoor.Av
set_option maxRecDepth 100000
namespace Go.Proofs.YtcmfcpjnhephaaaGreatDoor.Av
open Go
def iu:LSO:=[AU 4]
def ir:LSO:=[Aa 7 0,o1 8 (.call 150 [(tm 7),(.av (.int .u8 40))]),Ay 9 8]
def iq:LSO:=[Aa 10 0,AL 11 151 10 4,Ai 5 4 11]
def io:LSO:=[Aa 12 0,As 13 12,Ad 14 2 13,Ab 15 1 14,Ag 16 15 1,As 17 12,Ad 18 2 17,Ai 1 18 16]
def il:LSO:=[Aa 19 1,A3 20 19 64]
def ik:LSO:=[Aa 21 0,AL 22 151 21 6,Ai 5 4 22]
def ij:LSO:=[Aa 23 0,As 24 23,Ad 25 2 24,Ab 26 1 25,A3 27 26 1000]
def ig:LSO:=[Aa 28 0,AL 29 151 28 9,Ai 5 4 29]
def ic:LSO:=[Ac 5 0]
def ia:LSO:=[Aa 30 5,AH 31 30 3]
def gM:LSO:=[Aa 34 0,Aa 35 5,o1 36 (.idxS (.av (.str [38,124,33])) (tm 35)),Ax 37 150 34 36,Ay 38 37]
def gL:LSO:=[Aa 39 5,o1 40 (.build [(.int .i64 0),(.str []),(.str []),(.sl [] 0 (some 0)),(.sl [] 0 (some 0))] [(0,(1,(tm 39)))]),AU 6,Ai 5 6 40]
def gK:LSO:=[Aa 41 5,Aq 42 41 2]
def gJ:List (ai×Kd):=
 [A5 43 4 6,Az 44 1 43 0 1,A6 45 0,A6 46 1,od 47 (.bin .add (tm 46) (iv 1)) .pure,od 48 (.call 107 [(tm 45),(tm 47)]) .eff,
 od 49 (.bslice false 5 1 [(.int .i64 0),(.str []),(.str []),(.sl [] 0 (some 0)),(.sl [] 0 (some 0))] [(0,(5,(tm 48)))]) (.read 0 0)]
def gk:List ai :=
 [⟨(some 50),(.app 0 5 88 [(.int .i64 0),(.str []),(.str []),(.sl [] 0 (some 0)),(.sl [] 0 (some 0))] (tm 44) (tm 49)),none⟩,⟨(some 51),(.faddr 4 (tm 6)),none⟩,
 ⟨none,(.store 1 (tm 51) (tm 50)),none⟩]
def gI:LSO:=[Aa 52 5,AH 53 52 2,Aa 54 53,.grp none 54 true
 [Ae 55 54 0,AX 56 54 55,A8 57 54 3 56,A7 58 54 1 57,Bb 59 54 58 0]
 60 (tm 59),Aa 61 60,.grp none 61 true
 [Ae 62 61 0,AX 63 61 62,A8 64 61 1 63,A7 65 61 1 64,Ae 66 61 0,AX 67 61 66,A8 68 61 0 67,A7 69 61 1 68,BI 70 61 69,Bt 71 61 65 70]
 72 (tm 71),Aa 73 72,.grp none 73 true
 [Ae 74 73 0,AX 75 73 74,A8 76 73 0 75,A7 77 73 1 76,Ae 78 73 0,AX 79 73 78,A8 80 73 1 79,A7 81 73 1 80,AS 82 73 77 81,og 83 73 true (.bin .eql (tm 82) (.av (.int .u8 40)))]
 84 (tm 83)]
def gH:List (ai×Kd):=
 [A5 85 4 6,Az 86 1 85 0 1,A6 87 0,A6 88 1,od 89 (.bin .add (tm 88) (iv 1)) .pure,od 90 (.call 107 [(tm 87),(tm 89)]) .eff,
 od 91 (.bslice false 5 1 [(.int .i64 0),(.str []),(.str []),(.sl [] 0 (some 0)),(.sl [] 0 (some 0))] [(0,(5,(tm 90)))]) (.read 0 0)]
def gj:List ai :=
 [⟨(some 92),(.app 1 5 88 [(.int .i64 0),(.str []),(.str []),(.sl [] 0 (some 0)),(.sl [] 0 (some 0))] (tm 86) (tm 91)),none⟩,⟨(some 93),(.faddr 4 (tm 6)),none⟩,
 ⟨none,(.store 1 (tm 93) (tm 92)),none⟩]
def gG:LSO:=[Aa 94 0,As 95 94,Ad 96 3 95,Ab 97 1 96,Aq 98 97 0,Aa 99 98,Ae 100 99 0,og 101 99 true (.call 150 [(tm 100),(.av (.int .u8 41))]),B9 102 99 101,
 o1 103 (.pick (tm 99) (tm 102) (.av (.bool false)))]
def gF:LSO:=[Aa 104 0,AL 105 151 104 4,Ai 5 4 105]
def gE:LSO:=[Ap 106 5 6,Ai 5 4 106]
def gD:LSO:=[Aa 32 5,Ag 33 32 1,Aa 5 33]
def gC:LSO:=[Aa 107 0,Ak 108 152 107,Ai 5 4 108]
def aS:aO:=⟨109,(akg iu [] (.seq (akg ir Cr (aki 9 (.sreg iq Cy))) (akg io C2 (.seq (akg il Cq (aki 20 (.sreg ik Cy))) (.seq (akg ij Ct (aki 27 (.sreg ig Cy))) (.seq (akg ic [] (akj 0 (.seq (akg ia Cq (akk 31 0)) (.seq (.block 1 (.seq (akg gM Ct (akh 38 (.exit 1) .skip)) (akg gL Cr (.seq (akg gK Cq (akh 42 (.dregM gJ gk CV) .skip)) (.seq (akj 2 (.seq (.seq (.sdreg gI [.pure,.pure,.pure,.pure,(.read 0 0),.pure,(.read 0 0),.pure,.pure,.pure,.pure,(.read 0 0),.pure,(.read 0 0),.pure,(.read 0 0),.pure,(.read 0 0),(.read 0 0),.pure,.pure,.pure,.pure,(.read 0 0),.pure,(.read 0 0),.pure,(.read 0 0),.pure,(.read 0 0)] Cx) (akk 84 2)) (.block 3 (.dregM gH gj CV)))) (.seq (akg gG CD (aki 103 (.sreg gF Cy))) (akg gE C3 .ret))))))) (.sreg gD Cr))))) (akg gC Cy .ret))))))),[(.cell true 5 4)]⟩
attribute [push_cast] iu ir iq io il ik ij ig ic ia gM gL gK gJ gk gI gH gj gG gF gE gD gC
theorem cx:aR Tryz.prog (λr i=>if r=14/\i=5 then 3 else if r=14/\i=7 then 0 else if r=16/\i=5 then 3 else 1) 107=some aS.raw:=by kernel_rfl
attribute [push_cast] aS
set_option maxHeartbeats 8000000
set_option maxRecDepth 100000
abbrev rdR(s:List UInt8)(at_ n:Int):Blk:=.cells [.str s,.int .i64 at_,.int .i64 n,.int .i64 0]
theorem QK{P:Program}{N:Nat}{own:Nat->Nat->Nat}{Q:Exit->Tm->List Blk->Prop}{T:Tm}{lc:bW}{L L':List Blk}(e:L=L')(h:AW P N own lc Q T L'):AW P N own lc Q T L:=e▸h
theorem QH{P:Program}{f:FuncId}{xs:List Opd}{T:Tm}{L:List Blk}{args:List AV}{k:AV->List Blk->Prop}(v:AV)(L2:List Blk)(h:ab P f args L λav L'=>av=v/\L'=L2)(hx:fU T xs=some args)(hk:k v L2):
 ∃v L2,EQv P ⟨none,.call f xs,none⟩ T L v L2/\k v L2:=⟨v,L2,by simp only[EQv,hx];exact h,hk⟩
theorem agY{L:List Blk}{p:Nat}{s:List UInt8}{a n:Int}{v:AV}{X:List Blk}{K:ag7}(hr:v.refs (λi=>decide (i<L.length))=true)(h:K v (L.set p (rdR s a n))):Fin L v (L.set p (rdR s a n)++X) K :=
 fq (by simp) (λhh k hk'=>by rcases ajo hk' with e|e;exact hh k e;subst e;rfl) hr h
theorem Xk{s:List UInt8}{i:Nat}{a n:Int}{c:UInt8}{p:Nat}{L:List Blk}(hL:L[p]?=some (rdR s a n))(ha:a=i)(hi:i<s.length)(g3:s.getD i 0=c)(hs:s.length<=100){K:ag7}(h:K (.bool true) (L.set p (rdR s (a+1) n))):
  ag6 150 [.ptr p 0,.int .u8 c.toNat] L K:=by
 subst ha;have g1:(i:Int)<(s.length:Int):=by omega
 have g2:=ag4 i (by omega);have hp:p<L.length:=(ag8.1 hL).1;replace h:=hid h;refine ag5 oI ?_;have:=agY (L:=L) (p:=p) (s:=s) (a:=(i:Int)+1) (n:=n) (v:=.bool true) (X:=[]) (K:=K) rfl h.out;rwa[ahG]at this
theorem Xl{s:List UInt8}{i:Nat}{a n:Int}{c:UInt8}{p:Nat}{L:List Blk}(hL:L[p]?=some (rdR s a n))(ha:a=i)(hi:i<s.length)(hc:(s.getD i 0).toNat≠c.toNat){K:ag7}(h:K (.bool false) L):
  ag6 150 [.ptr p 0,.int .u8 c.toNat] L K:=by
 subst ha;have g1:(i:Int)<(s.length:Int):=by omega
 have hp:p<L.length:=(ag8.1 hL).1;have g3:¬((s.getD i 0).toNat:Int)=(c.toNat:Int):=by omega
 replace h:=hid h;refine ag5 oI ?_;exact aa h.out
theorem rdM{s:List UInt8}{a0 n0:Int}{p:Nat}{L:List Blk}(hL:L[p]?=some (rdR s a0 n0)):∃M:Int->Int->List Blk,L=M a0 n0/\(∀x n,L.set p (rdR s x n)=M x n)/\(∀x n,(M x n).length=L.length)/\(∀x n (X:List Blk) y m,(M x n++X).set p (rdR s y m)=M y m++X)/\(∀x n (X:List Blk),(M x n++X)[p]?=some (rdR s x n)) /\
  (∀x n (X:List Blk),(M x n++X)[L.length]?=X[0]?)/\(∀x n (X:List Blk) A,(M x n++X).set L.length A=M x n++X.set 0 A)/\(∀x n (X:List Blk) k,(M x n++X)[L.length+k]?=X[k]?)/\(∀x n (X:List Blk) k A,(M x n++X).set (L.length+k) A=M x n++X.set k A)/\Hid (∀x n' (f:Nat->Bool),(∀k∈M a0 n0,k.refs f=true)->∀k∈M x n',k.refs f=true):=by
 have hp:p<L.length:=(ag8.1 hL).1;obtain⟨M,hM⟩:∃M:Int->Int->List Blk,∀x n,L.set p (rdR s x n)=M x n:=⟨_,λx n=>rfl⟩;have m0:M a0 n0=L:=by rw[<- hM];obtain⟨_,e⟩:=ag8.1 hL;rw[<- e];simp
 have m1:∀x n,(M x n).length=L.length:=λx n=>by rw[<- hM];simp
 have m2:∀x n (X:List Blk) y m,(M x n++X).set p (rdR s y m)=M y m++X:=λx n X y m=>by rw[ahY _ _ (by rw[m1];exact hp),<- hM,<- hM,ais]
 have m3:∀x n (X:List Blk),(M x n++X)[p]?=some (rdR s x n):=λx n X=>by rw[ahi (by rw[m1];exact hp),<- hM,ahv,if_pos rfl,if_pos hp]
 have m4:∀x n (X:List Blk),(M x n++X)[L.length]?=X[0]?:=λx n X=>by rw[ahB (by rw[m1];exact ag9 _),m1,aiv]
 have m5:∀x n (X:List Blk) A,(M x n++X).set L.length A=M x n++X.set 0 A:=λx n X A=>by rw[ahT _ _ (by rw[m1];exact ag9 _),m1,aiv]
 have m6:∀x n (X:List Blk) k,(M x n++X)[L.length+k]?=X[k]?:=λx n X k=>by rw[ahB (by rw[m1];omega),m1,aj6]
 have m7:∀x n (X:List Blk) k A,(M x n++X).set (L.length+k) A=M x n++X.set k A:=λx n X k A=>by rw[ahT _ _ (by rw[m1];omega),m1,aj6]
 have m8:∀x n' (f:Nat->Bool),(∀k∈M a0 n0,k.refs f=true)->∀k∈M x n',k.refs f=true:=λx n' f hh k hk=>by rw[m0]at hh;rw[<- hM]at hk;rcases ajo hk with e|e;exact hh k e;subst e;rfl
 exact⟨M,m0.symm,hM,m1,m2,m3,m4,m5,m6,m7,hid m8⟩
structure XU(s:List UInt8)(i:Nat)(a b v:UInt8):Prop where
 h0:s.getD i 0=a
 h1:s.getD (i+1) 0=b
 h2:s.getD (i+2) 0=61
 h3:s.getD (i+3) 0=v
 h4:s.getD (i+4) 0=41
 hi:i+5<=s.length
 hs:s.length<=100
 d1:(s.drop i).take 1=[a]
 d2:(s.drop i).take 2=[a,b]
 d3:(s.drop i).take 3=[a,b,61]
 t1:eT [a]=true
 t2:eT [a,b]=true
 t3:eT [a,b,61]=false
 v1:v.toNat≠41/\v.toNat≠42/\v.toNat≠92/\v.toNat≠0/\v.toNat≠40
abbrev NU(a b v:UInt8):List AV:=[.int .i64 3,.str [a,b],.str [v],.sl [] 0 (some 0),.sl [] 0 (some 0)]
theorem abV{s:List UInt8}{i:Nat}{a b v:UInt8}(q:XU s i a b v){n:Int}{p:Nat}{L:List Blk}(hL:L[p]?=some (rdR s i n)){K:ag7}(h:K (.agg (NU a b v)) (L.set p (rdR s ((i:Int)+5) n))):
  ag6 152 [.ptr p 0] L K:=by
 obtain⟨h0,h1,h2,h3,h4,hi,hs,d1,d2,d3,t1,t2,t3,v1,v2,v3,v4,v5⟩:=q;obtain⟨N,m0,hM,n1,n2,n3,n4,n5,n6,n7,n8⟩:=rdM hL;rw[hM]at h;rw[m0];obtain⟨M,hN⟩:∃M:Int->List Blk,∀x,N x n=M x:=⟨λx=>N x n,λ_=>rfl⟩;have m1:=λx=>n1 x n
 have m2:=λx X y=>n2 x n X y n
 have m3:=λx X=>n3 x n X
 have m4:=λx X=>n4 x n X
 have m5:=λx X A=>n5 x n X A
 have m6:=λx X k=>n6 x n X k
 have m7:=λx X k A=>n7 x n X k A
 have m8:=λx f=>n8.out x n f
 simp only[hN]at h m1 m2 m3 m4 m5 m6 m7 m8⊢;replace m8:=hid m8;clear n1 n2 n3 n4 n5 n6 n7 n8 hN;clear hL hM m0;have w1:∀j:Nat,j<=10->IntKind.i64.wrap ((i:Int)+j+1)=(i:Int)+j+1:=λj hj=>ac (by omega) (by omega)
 replace w1:=hid w1;have no:∀(x:Int) (j:Nat) (c:UInt8),x=(j:Int)->j<s.length->(s.getD j 0).toNat≠c.toNat->∀{X:List Blk}{K:ag7},K (.bool false) (M x++X)->ag6 150 [.ptr p 0,.int .u8 c.toNat] (M x++X) K:=λx j c e hj hc X K q=>Xl (m3 x X) e hj hc q
 have yes:∀(x:Int) (j:Nat) (c:UInt8),x=(j:Int)->j<s.length->s.getD j 0=c->∀{X:List Blk}{K:ag7},K (.bool true) (M (x+1)++X)->ag6 150 [.ptr p 0,.int .u8 c.toNat] (M x++X) K:=λx j c e hj hc X K q=>Xk (m3 x X) e hj hc hs (by rw[m2];exact q)
 replace no:=hid no;replace yes:=hid yes;replace h:=hid h;have hsi:=hid (And.intro hi hs);refine ag5 lh ?_;refine ak (λm T' L'=>∃(j:Nat) (x:Int),m=2-j/\(j=0/\x=(i:Int)\/j=1/\x=(i:Int)+1\/j=2/\x=(i:Int)+1+1)/\T'=[(3,.int .i64 (i:Int)),(2,.ptr L.length 0),(0,.ptr p 0)]/\L'=M x++[.cells [.int .i64 0,.str [],.str [],.sl [] 0 (some 0),.sl [] 0 (some 0)]]) (CutS (b:=by simp[m1])) ⟨0,_,rfl,.inl ⟨rfl,rfl⟩,rfl,rfl⟩ ?_;rintro _ _ _ ⟨j,x,rfl,hj,rfl,rfl⟩;rcases hj with⟨rfl,rfl⟩|⟨rfl,rfl⟩|⟨rfl,rfl⟩;have g1:(i:Int)<(s.length:Int):=by omega
 have g2:=ag4 i (by omega);have g3:List.take (((i:Int)+1).toNat-i) (List.drop i s)=[a]:=by rw[show((i:Int)+1).toNat-i=1 by omega];exact d1
 have g4:((i:Int)+1).toNat<=s.length:=by omega
 have g5:i<=((i:Int)+1).toNat:=by omega
 have kk1:Hid (Ctr Tryz.prog 134 [.str [a]] (.bool true)):=hid λq=>qD (by simp) (by rw[t1];exact q)
 clear d1 d2 d3 t1 t2 t3;refine wk ?_;exact ah _ _ _ (by omega) (CutL (b:=by simp[m1])) ⟨1,_,rfl,.inr (.inl ⟨rfl,rfl⟩),rfl,rfl⟩;have g0:(i:Int)+1<(s.length:Int):=by omega
 have g2:IntKind.i64.wrap ((i:Int)+1+1)=(i:Int)+1+1:=ac (by omega) (by omega);have g3:List.take (((i:Int)+1+1).toNat-i) (List.drop i s)=[a,b]:=by rw[show((i:Int)+1+1).toNat-i=2 by omega];exact d2
 have kk1:Hid (Ctr Tryz.prog 134 [.str [a,b]] (.bool true)):=hid λq=>qD (by simp) (by rw[t2];exact q)
 clear d1 d2 d3 t1 t2 t3;refine wk ?_;exact ah _ _ _ (by omega) (CutL (b:=by simp[m1])) ⟨2,_,rfl,.inr (.inr ⟨rfl,rfl⟩),rfl,rfl⟩;have g0:(i:Int)+1+1<(s.length:Int):=by omega
 have g2:IntKind.i64.wrap ((i:Int)+1+1+1)=(i:Int)+1+1+1:=ac (by omega) (by omega);have g3:List.take (((i:Int)+1+1+1).toNat-i) (List.drop i s)=[a,b,61]:=by rw[show((i:Int)+1+1+1).toNat-i=3 by omega];exact d3
 have g4:List.take (((i:Int)+1+1).toNat-i) (List.drop i s)=[a,b]:=by rw[show((i:Int)+1+1).toNat-i=2 by omega];exact d2
 have kk1:Hid (Ctr Tryz.prog 134 [.str [a,b,61]] (.bool false)):=hid λq=>qD (by simp) (by rw[t3];exact q)
 clear d1 d2 d3 t1 t2 t3;refine wk ?_;have b0:((i:Int)+1+1)=((i+2:Nat):Int):=by omega
 have kk1:Hid (∀{X:List Blk}{K:ag7},K (.bool false) (M ((i:Int)+1+1)++X)->ag6 150 [.ptr p 0,.int .u8 62] (M ((i:Int)+1+1)++X) K):=hid (no.out _ (i+2) 62 b0 (by omega) (by rw[h2];decide));have kk2:Hid (∀{X:List Blk}{K:ag7},K (.bool false) (M ((i:Int)+1+1)++X)->ag6 150 [.ptr p 0,.int .u8 60] (M ((i:Int)+1+1)++X) K):=hid (no.out _ (i+2) 60 b0 (by omega) (by rw[h2];decide));have kk3:Hid (∀{X:List Blk}{K:ag7},K (.bool false) (M ((i:Int)+1+1)++X)->ag6 150 [.ptr p 0,.int .u8 126] (M ((i:Int)+1+1)++X) K):=hid (no.out _ (i+2) 126 b0 (by omega) (by rw[h2];decide));have kk4:Hid (∀{X:List Blk}{K:ag7},K (.bool true) (M ((i:Int)+1+1+1)++X)->ag6 150 [.ptr p 0,.int .u8 61] (M ((i:Int)+1+1)++X) K):=hid (yes.out _ (i+2) 61 b0 (by omega) h2);clear b0 g2 g3 g4;refine wk ?_;clear kk1 kk2 kk3 kk4;refine bX (l:=[]) (n:=0) 7 1 rfl (ahD 1).symm ?_;refine bX (l:=[]) (n:=0) 6 1 rfl (ahD 1).symm ?_;have q3:∀z,((v.toNat:Int)=z->False)->¬(v.toNat:Int)=z:=λz e=>e
 have e42:¬(v.toNat:Int)=42:=by omega
 have e92:¬(v.toNat:Int)=92:=by omega
 have e00:¬(v.toNat:Int)=0:=by omega
 have e40:¬(v.toNat:Int)=40:=by omega
 clear q3;obtain⟨B1,hB1⟩:=ag2 (Blk.cells [AV.int IntKind.i64 0,AV.str [],AV.str [],AV.sl [] 0 (some 0),AV.sl [] 0 (some 0)]);obtain⟨B2,hB2⟩:=ag2 (Blk.cells [AV.int IntKind.i64 3,AV.str [a,b],AV.str [],AV.sl [] 0 (some 0),AV.sl [] 0 (some 0)]);rw[hB1,hB2];refine QK (L':=M ((i:Int)+1+1+1)++[B1,B2,.spare 0 1,.spare 0 1]) (by simp) ?_;have l1:(M ((i:Int)+1+1+1)++[B1,B2]).length=L.length+2:=by simp[m1]
 have l2:(M ((i:Int)+1+1+1)++[B1,B2]++[Blk.spare 0 1]).length=L.length+3:=by simp[m1]
 rw[l1,l2];clear l1 l2;refine ak (λm T' L'=>∃(j:Nat) (x:Int) (C:List AV),m=1-j/\(j=0/\x=(i:Int)+1+1+1/\C=[]\/j=1/\x=(i:Int)+1+1+1+1/\C=[.int .u8 v.toNat])/\T'=[(7,.gsl C j (L.length+2) 1),(6,.gsl [] 0 (L.length+3) 1),(5,.int .i64 0),(4,.ptr (L.length+1) 0),(2,.ptr L.length 0),(0,.ptr p 0)]/\L'=M x++[B1,B2,.spare j 1,.spare 0 1]) (CutS (b:=by simp[m1])) ⟨0,_,_,rfl,.inl ⟨rfl,rfl,rfl⟩,rfl,rfl⟩ ?_;rintro _ _ _ ⟨j,x,C,rfl,hj,rfl,rfl⟩;rcases hj with⟨rfl,rfl,rfl⟩|⟨rfl,rfl,rfl⟩;have g1:¬(i:Int)+1+1+1=(s.length:Int):=by omega
 have g5:(i:Int)+1+1+1<(s.length:Int):=by omega
 have g2:IntKind.i64.wrap ((i:Int)+1+1+1+1)=(i:Int)+1+1+1+1:=ac (by omega) (by omega);have g3:s.getD ((i:Int)+1+1+1).toNat 0=v:=by rw[show((i:Int)+1+1+1).toNat=i+3 by omega];exact h3
 have g4:(0:Int)<=(i:Int)+1+1+1:=by omega
 have kk1:Hid (∀{X:List Blk}{K:ag7},K (.bool false) (M ((i:Int)+1+1+1)++X)->ag6 150 [.ptr p 0,.int .u8 41] (M ((i:Int)+1+1+1)++X) K):=hid (no.out _ (i+3) 41 (by omega) (by omega) (by rw[h3];exact v1));refine wk ?_;exact ah _ _ _ (by omega) (CutS (b:=by simp[m1])) ⟨1,_,_,rfl,.inr ⟨rfl,rfl,rfl⟩,rfl,rfl⟩;have kk1:Hid (∀{X:List Blk}{K:ag7},K (.bool true) (M ((i:Int)+1+1+1+1+1)++X)->ag6 150 [.ptr p 0,.int .u8 41] (M ((i:Int)+1+1+1+1)++X) K):=hid (yes.out _ (i+4) 41 (by omega) (by omega) h4);subst hB1 hB2;have u1:UI (AV.int IntKind.u8 v.toNat)=true:=rfl;have u2:List.map On [AV.int IntKind.u8 v.toNat]=[v]:=by simp[On]
 refine wk ?_;rw[show(i:Int)+1+1+1+1+1=(i:Int)+5 by omega];exact fq (by simp[m1]) (λhh=>m8.out _ _ hh) rfl h.out
theorem UQ{s:List UInt8}{i:Nat}{a b v:UInt8}(q:XU s (i+1) a b v)(h0:s.getD i 0=40)(ha:a.toNat≠38/\a.toNat≠124/\a.toNat≠33){n d:Int}(hn:0<=n)(hn2:n<1000)(hd:d<=64){p:Nat}{L:List Blk}(hL:L[p]?=some (rdR s i n)){K:ag7}(h:K (.agg (NU a b v)) (L.set p (rdR s ((i:Int)+6) (n+1)))):
  ag6 107 [.ptr p 0,.int .i64 d] L K:=by
 obtain⟨M,m0,hM,m1,m2,m3,m4,m5,_,_,m8⟩:=rdM hL;rw[hM]at h;rw[m0];clear hL hM m0;have e1:((i+1:Nat):Int)=(i:Int)+1:=rfl;obtain⟨f0,f1⟩:s.getD (i+1) 0=a/\i+1+5<=s.length/\s.length<=100:=⟨q.h0,q.hi,q.hs⟩;have kk1:Hid (∀{X:List Blk}{K:ag7},K (.bool true) (M ((i:Int)+1) n++X)->ag6 150 [.ptr p 0,.int .u8 40] (M i n++X) K):=hid λq=>Xk (c:=40) (m3 _ _ _) rfl (by omega) h0 f1.2 (by rw[m2];exact q)
 have no:∀(c:UInt8),a.toNat≠c.toNat->∀{X:List Blk}{K:ag7},K (.bool false) (M ((i:Int)+1) (n+1)++X)->ag6 150 [.ptr p 0,.int .u8 c.toNat] (M ((i:Int)+1) (n+1)++X) K:=λc hc X K q=>Xl (i:=i+1) (m3 _ _ X) (by omega) (by omega) (by rw[f0];exact hc) q
 have kk2:Hid (∀{X:List Blk}{K:ag7},K (.bool false) (M ((i:Int)+1) (n+1)++X)->ag6 150 [.ptr p 0,.int .u8 38] (M ((i:Int)+1) (n+1)++X) K):=hid (no 38 ha.1);have kk3:Hid (∀{X:List Blk}{K:ag7},K (.bool false) (M ((i:Int)+1) (n+1)++X)->ag6 150 [.ptr p 0,.int .u8 124] (M ((i:Int)+1) (n+1)++X) K):=hid (no 124 ha.2.1);have kk4:Hid (∀{X:List Blk}{K:ag7},K (.bool false) (M ((i:Int)+1) (n+1)++X)->ag6 150 [.ptr p 0,.int .u8 33] (M ((i:Int)+1) (n+1)++X) K):=hid (no 33 ha.2.2);have kk5:Hid (∀{X:List Blk}{K:ag7},K (.agg (NU a b v)) (M ((i:Int)+1+5) (n+1)++X)->ag6 152 [.ptr p 0] (M ((i:Int)+1) (n+1)++X) K):=hid λr=>abV q (by rw[e1];exact m3 _ _ _) (by rw[e1,m2];exact r)
 have g0:IntKind.i64.wrap (n+1)=n+1:=ac (by omega) (by omega);have g1:¬1000<n+1:=by omega
 have g2:¬64<d:=by omega
 replace h:=hid h;clear no ha f0 f1 h0;refine ag5 cx ?_;refine ak (λm T' L'=>∃k:Nat,m=3-k/\k<=3/\T'=[(5,.int .i64 (k:Int)),(4,.ptr L.length 0),(0,.ptr p 0),(1,.int .i64 d)]/\L'=M ((i:Int)+1) (n+1)++[.cells [.int .i64 0,.str [],.str [],.sl [] 0 (some 0),.sl [] 0 (some 0)]]) (CutS (b:=by simp[m1])) ⟨0,rfl,by omega,rfl,rfl⟩ ?_;rintro _ _ _ ⟨k,rfl,hk,rfl,rfl⟩;have hk:k=0\/k=1\/k=2\/k=3:=by omega
 rcases hk with rfl|rfl|rfl|rfl;refine wk ?_;exact ah _ _ _ (by omega) (CutS (b:=by simp[m1])) ⟨1,rfl,by omega,rfl,rfl⟩;refine wk ?_;exact ah _ _ _ (by omega) (CutS (b:=by simp[m1])) ⟨2,rfl,by omega,rfl,rfl⟩;refine wk ?_;exact ah _ _ _ (by omega) (CutS (b:=by simp[m1])) ⟨3,rfl,by omega,rfl,rfl⟩
 .refine wk ?_;rw[show(i:Int)+1+5=(i:Int)+6 by omega]
  trace_state
  exact fq (by simp[m1]) (λhh=>m8.out _ _ _ hh) rfl h.out
theorem Oy{s:List UInt8}{k:Int}{a v:List UInt8}{ks:List AV}{nk:Nat}{cp ck:Option Nat}{n:Int}(hs:s.length<=100)(h1:∀q,AV.refsL q ks=true)(hf:∀{p:Nat}{L:List Blk}{K:ag7},L[p]?=some (rdR s 0 0)->K (.agg [.int .i64 k,.str a,.str v,.sl [] 0 cp,.sl ks nk ck]) (L.set p (rdR s s.length n))->ag6 107 [.ptr p 0,.int .i64 1] L K){L:List Blk}{K:ag7}(h:K (.tup [.agg [.int .i64 k,.str a,.str v,.sl [] 0 cp,.sl ks nk ck],.int .i64 0]) L):
  ag6 58 [.str s] L K:=by
 replace hf:=@hid _ @hf;replace h:=hid h;have g1:¬(4096:Int)<(s.length:Int):=by omega
 have g2:¬(s.length:Int)<(s.length:Int):=by omega
 refine ag5 O0 ?_;refine hf.out (by simp) ?_;simp only[ahT _ _ (aj4 _ _),aj6,ajy,ajV];refine sk ?_;refine wk ?_;exact ae (by simp only[AV.refs,AV.refsL,h1,ah7]) h.out
abbrev YY(a1 b1 v1 a2 b2 v2:UInt8):List UInt8:=[40,124,40,a1,b1,61,v1,41,40,a2,b2,61,v2,41,41]
theorem Z2{a1 b1 v1 a2 b2 v2:UInt8}(z1:XU (YY a1 b1 v1 a2 b2 v2) 3 a1 b1 v1)(z2:XU (YY a1 b1 v1 a2 b2 v2) 9 a2 b2 v2)(y1:a1.toNat≠38/\a1.toNat≠124/\a1.toNat≠33)(y2:a2.toNat≠38/\a2.toNat≠124/\a2.toNat≠33){p:Nat}{L:List Blk}(hL:L[p]?=some (rdR (YY a1 b1 v1 a2 b2 v2) 0 0)){K:ag7}(h:K (.agg [.int .i64 1,.str [],.str [],.sl [] 0 none,.sl [.int .i64 3,.str [a1,b1],.str [v1],.sl [] 0 none,.sl [] 0 none,.int .i64 3,.str [a2,b2],.str [v2],.sl [] 0 none,.sl [] 0 none] 2 none]) (L.set p (rdR (YY a1 b1 v1 a2 b2 v2) 15 3))):
  ag6 107 [.ptr p 0,.int .i64 1] L K:=by
 have hp:p<L.length:=(ag8.1 hL).1;obtain⟨M,m0,hM,m1,m2,m3,m4,m5,m6,m7,m8⟩:=rdM hL;rw[hM]at h;rw[m0];clear hL hM m0;have no:∀(i:Nat) (c:UInt8),i<15->∀n,((YY a1 b1 v1 a2 b2 v2).getD i 0).toNat≠c.toNat->∀{X:List Blk}{K:ag7},K (.bool false) (M i n++X)->ag6 150 [.ptr p 0,.int .u8 c.toNat] (M i n++X) K:=λi c hi n hc {X K} q=>Xl (i:=i) (m3 _ _ X) rfl hi hc q
 have yes:∀(i:Nat) (c:UInt8),i<15->∀n,(YY a1 b1 v1 a2 b2 v2).getD i 0=c->∀{X:List Blk}{K:ag7},K (.bool true) (M ((i+1:Nat):Int) n++X)->ag6 150 [.ptr p 0,.int .u8 c.toNat] (M i n++X) K:=λi c hi n hc {X K} q=>Xk (i:=i) (m3 _ _ X) rfl hi hc (by simp) (by rw[m2];exact q)
 have kk1:Hid (∀{X:List Blk}{K:ag7},K (.bool true) (M 1 0++X)->ag6 150 [.ptr p 0,.int .u8 40] (M 0 0++X) K):=hid (yes 0 40 (by omega) 0 rfl);have kk2:Hid (∀{X:List Blk}{K:ag7},K (.bool false) (M 1 1++X)->ag6 150 [.ptr p 0,.int .u8 38] (M 1 1++X) K):=hid (no 1 38 (by omega) 1 (show UInt8.toNat 124≠UInt8.toNat 38 by decide));have kk3:Hid (∀{X:List Blk}{K:ag7},K (.bool true) (M 2 1++X)->ag6 150 [.ptr p 0,.int .u8 124] (M 1 1++X) K):=hid (yes 1 124 (by omega) 1 rfl);have kk4:Hid (∀{X:List Blk}{K:ag7},K (.bool true) (M 15 3++X)->ag6 150 [.ptr p 0,.int .u8 41] (M 14 3++X) K):=hid (yes 14 41 (by omega) 3 rfl);have q1:Hid (∀{X:List Blk}{K:ag7},K (.agg (NU a1 b1 v1)) (M 8 2++X)->ag6 107 [.ptr p 0,.int .i64 2] (M 2 1++X) K):=hid λr=>UQ (i:=2) z1 rfl y1 (by omega) (by omega) (by omega) (m3 _ _ _) (by rw[m2];exact r)
 have q2:Hid (∀{X:List Blk}{K:ag7},K (.agg (NU a2 b2 v2)) (M 14 3++X)->ag6 107 [.ptr p 0,.int .i64 2] (M 8 2++X) K):=hid λr=>UQ (i:=8) z2 rfl y2 (by omega) (by omega) (by omega) (m3 _ _ _) (by rw[m2];exact r)
 have g0:IntKind.i64.wrap (0+1)=1:=rfl;replace h:=hid h;clear no yes z1 z2 y1 y2;refine ag5 cx ?_;refine ak (λm T' L'=>∃k:Nat,m=2-k/\k<=1/\T'=[(5,.int .i64 (k:Int)),(4,.ptr L.length 0),(0,.ptr p 0),(1,.int .i64 1)]/\L'=M 1 1++[.cells [.int .i64 0,.str [],.str [],.sl [] 0 (some 0),.sl [] 0 (some 0)]]) (CutS (b:=by simp[m1])) ⟨0,rfl,by omega,rfl,rfl⟩ ?_;rintro _ _ _ ⟨k,rfl,hk,rfl,rfl⟩;have hk:k=0\/k=1:=by omega
 rcases hk with rfl|rfl;refine wk ?_;exact ah _ _ _ (by omega) (CutS (b:=by simp[m1])) ⟨1,rfl,by omega,rfl,rfl⟩;refine wk ?_;have e2:(M 2 1++[Blk.cells [.int .i64 0,.str [],.str [],.sl [] 0 (some 0),.sl [] 0 (some 0)],.cells [.int .i64 1,.str [],.str [],.sl [] 0 (some 0),.sl [] 0 (some 0)]]).length=L.length+2:=by simp[m1]
 refine Iq (L.length+1) 4 5 (c:=[.int .i64 1,.str [],.str [],.sl [] 0 (some 0),.sl [] 0 (some 0)]) (l:=[]) (n:=0) (by simp[m6]) rfl (ahD 5).symm ?_;rw[e2];clear e2;obtain⟨B0,hB0⟩:=ag2 (Blk.cells [.int .i64 0,.str [],.str [],.sl [] 0 (some 0),.sl [] 0 (some 0)]);refine QK (L':=M 2 1++[B0,.cells [.int .i64 1,.str [],.str [],.sl [] 0 (some 0),.gsl [] 0 (L.length+2) 5],.spare 0 5]) (by rw[<- hB0];simp[m7]) ?_;refine ak (λm T' L'=>∃(j:Nat) (x n:Int) (C:List AV),m=2-j/\(j=0/\x=2/\n=1/\C=[]\/j=1/\x=8/\n=2/\C=[.int .i64 3,.str [a1,b1],.str [v1],.sl [] 0 none,.sl [] 0 none]\/j=2/\x=14/\n=3/\C=[.int .i64 3,.str [a1,b1],.str [v1],.sl [] 0 none,.sl [] 0 none,.int .i64 3,.str [a2,b2],.str [v2],.sl [] 0 none,.sl [] 0 none])/\T'=[(6,.ptr (L.length+1) 0),(5,.int .i64 1),(4,.ptr L.length 0),(0,.ptr p 0),(1,.int .i64 1)]/\L'=M x n++[B0,.cells [.int .i64 1,.str [],.str [],.sl [] 0 (some 0),.gsl C j (L.length+2) 5],.spare j 5]) (CutS (b:=by simp[m1])) ⟨0,_,_,_,rfl,.inl ⟨rfl,rfl,rfl,rfl⟩,rfl,rfl⟩ ?_;clear kk1 kk2 kk3;rintro _ _ _ ⟨j,x,n,C,rfl,hj,rfl,rfl⟩;rcases hj with⟨rfl,rfl,rfl,rfl⟩|⟨rfl,rfl,rfl,rfl⟩|⟨rfl,rfl,rfl,rfl⟩;refine wk ?_;refine QH (.agg (NU a1 b1 v1)) (M 8 2++[B0,.cells [.int .i64 1,.str [],.str [],.sl [] 0 (some 0),.gsl [] 0 (L.length+2) 5],.spare 0 5]) (q1.out ⟨rfl,rfl⟩) rfl ?_;refine sk ?_;refine wk ?_;exact ah _ _ _ (by omega) (CutS (b:=by simp[m1])) ⟨1,_,_,_,rfl,.inr (.inl ⟨rfl,rfl,rfl,rfl⟩),rfl,rfl⟩;refine wk ?_;refine QH (.agg (NU a2 b2 v2)) (M 14 3++[B0,.cells [.int .i64 1,.str [],.str [],.sl [] 0 (some 0),.gsl [.int .i64 3,.str [a1,b1],.str [v1],.sl [] 0 none,.sl [] 0 none] 1 (L.length+2) 5],.spare 1 5]) (q2.out ⟨rfl,rfl⟩) rfl ?_;refine sk ?_;refine wk ?_;exact ah _ _ _ (by omega) (CutS (b:=by simp[m1])) ⟨2,_,_,_,rfl,.inr (.inr ⟨rfl,rfl,rfl,rfl⟩),rfl,rfl⟩;subst hB0;refine wk ?_;refine ba ?_;simp only[AV.frz,AV.frzL];exact fq (by simp[m1]) (λhh=>m8.out _ _ _ hh) rfl h.out
end Go.Proofs.YtcmfcpjnhephaaaGreatDoor.Av
