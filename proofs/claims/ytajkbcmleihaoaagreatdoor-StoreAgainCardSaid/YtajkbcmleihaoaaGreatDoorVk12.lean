/- Joined texts of the walk, made small by a program. -/
import Derived.Test.YtajkbcmleihaoaaGreatDoorVk11
import Derived.Test.YtajkbcmleihaoaaGreatDoorVk4
import Derived.Test.YtajkbcmleihaoaaGreatDoorRows
import Derived.KernelRfl
import Derived.Test.YtajkbcmleihaoaaGreatDoorVk10
import Derived.Test.YtajkbcmleihaoaaGreatDoorVk8
import Derived.Test.YtajkbcmleihaoaaGreatDoorVk5
import Derived.Sort.Walk0
import Derived.Test.YtajkbcmleihaoaaGreatDoorVk9
import Derived.Test.YtajkbcmleihaoaaGreatDoorVk7
import Derived.Shelf.Strings.Builder1
import Derived.Shelf.Strings.Builder2
import Derived.Shelf.Strings.OnBuilder
import Derived.Shelf.Strings.Trim
import Derived.Shelf.Small.Utf8
import Derived.Shelf.Small.Bits
import Derived.Shelf.Small.Strs
import Derived.Shelf.Strings.BuilderF
import Derived.Shelf.Strings.BuilderK
import Derived.Shelf.Strings.Builder2Cap
import Derived.Shelf.Strconv.Itoa0
import Derived.Shelf.Strings.Search1
import Derived.Shelf.Strings.Search2
import Derived.Shelf.Strings.Cut
import Derived.Shelf.LaysM
import Derived.Shelf.Strings.Shaped
import Derived.Shelf.Sort.Plain
import Derived.Shelf.Strings.Prefix
import Derived.Shelf.Strings.Runes
import Derived.Shelf.Strings.AsciiSet
import Derived.Shelf.Bits.Mul64
import Derived.Shelf.Strings.Repeat
import Derived.Shelf.Unicode.DecodeSlow
import Derived.Shelf.Unicode.DecodeAny
import Derived.Shelf.Unicode.DecodeLast
import Derived.Shelf.Strings.BuilderCap
import Derived.Shelf.Slices.Equal
import Derived.Ground.Names2Prog
import Derived.Shelf.Slices.Clone
import Derived.Shelf.Slices.In.SortNone
import Derived.Shelf.Slices.Empties2
import Derived.Ground.SlsfProg
import Derived.Shelf.SlSortCmp.Insertion
import Derived.Shelf.SlSortCmp.SiftDown1
import Derived.Shelf.SlSortCmp.HeapSort1
import Derived.Shelf.SlSortCmp.Insertion1
import Derived.Shelf.SlSortCmp.Median1
import Derived.Shelf.SlSortCmp.Pivot1
import Derived.Shelf.SlSortCmp.ReverseRange1
import Derived.Shelf.SlSortCmp.PartialInsertion1
import Derived.Shelf.SlSortCmp.PartitionEqual1
import Derived.Shelf.SlSortCmp.Partition1
import Derived.Shelf.SlSortCmp.Pdq1
import Derived.Shelf.SlSortCmp.Whole1
import Derived.Shelf.SlSortCmp.NoneTotal
import Derived.Test.YtajkbcmleihaoaaGreatDoorProg
import Derived.WalkKit
import Derived.WalkLawsBesides
import Derived.Deep.QuietTactic
import Derived.Deep.LoopGhost
import Derived.BigQuiet
import Derived.Lib.Walk
set_option linter.unusedSimpArgs false
set_option linter.unusedVariables false
namespace Go.Proofs.YtajkbcmleihaoaaGreatDoor.Av
open Go
set_option maxHeartbeats 8000000
set_option maxRecDepth 100000
theorem Ul{α:Type}{l:List α}{i:Nat}{d:α}(h:i<l.length):l.getD i d∈l:=by simp[h]
theorem adl{s:Sec}{g h:Nat}(e:rdH az s=some (g,h)):g<2^32:=by unfold rdH at e;split at e;cases e;split at e;cases e;cases e;exact lu s 5 4
def hdK(S:List Sec):Nat->Nat×Nat×Nat×Int
 |0=>(0,0,1,-1)
 |1=>Gw az (0,0,1,-1) 0 (S.getD 0 [])
 |_=>v8 az S
theorem ZR(S:List Sec){k:Nat}(a:k<2):hdK S (k+1)=Gw az (hdK S k) k (S.getD k []):=by rcases(by omega:k=0\/k=1)with rfl|rfl<;>rfl
theorem ME{σ:Type}(f:σ->Option Cel)(gen:Nat):∀(n:Nat) (R:List σ) (a:List (List UInt8)),(gu f gen n R a).length<=a.length+n
 |0,R,a=>by simp[gu]
 |n+1,[],a=>by simp[gu]
 | n+1,s::r,a=>by
   rw[gu];cases j7 f gen a.length (s::r) 0 1 []with
   |none=>simp only;omega
   | some p =>
     obtain⟨b,c⟩:=p;have:=ME f gen n c (a++[b]);simp only[afc,afg,afF]at this⊢;omega
theorem Vl{m k:Nat}{R:List Sec}(a:k<R.length):qG az m (R.take (k+1))=(match rdC az (R.getD k [])with|none=>qG az m (R.take k)|some c=>max (qG az m (R.take k)) c.gen):=by unfold qG;rw[afs a,ahA];simp only[afO,ag7];rw[show R.getD k []=R[k]by simp[a]];cases rdC az R[k]<;>rfl
section
variable {L:List Blk}{dp lp wp ck:Nat}{cp:Option Nat}{lim:Int}{x y z:AV}{S:List Sec}
theorem abP(hd:L[dp]?=some (.cells (gl lp wp S.length cp lim false 0 x y z)))(hl:L[lp]?=some (.cells (S.map AV.str)))(hw:L[wp]?=some (.map [] ck))(n1:dp≠lp)(n2:dp≠wp)(n3:lp≠wp)(bd:S.length<=8192)(h4:4<=S.length)(H:∀s∈S,s.length=128)(ch:lim<=9000)(cl:(aV az S (if(S.length:Int)<lim then(S.length:Int)else lim) (bD az S).1 (bD az S).2).1=0){K:aeX}(h:∀M jp D c,M[jp]?=some (.cells (kH dp (aV az S (if(S.length:Int)<lim then(S.length:Int)else lim) (bD az S).1 (bD az S).2).2.1 false))->M[lp]?=some (.cells ((aV az S (if(S.length:Int)<lim then(S.length:Int)else lim) (bD az S).1 (bD az S).2).2.2.map AV.str))->M[wp]?=some (.map [] D)->(∀i,i≠lp->i≠wp->i<L.length->M[i]?=L[i]?)->L.length<=M.length->L.length<=jp ->
   K (.tup [.ptr jp 0,.sl ((bD az S).2.map AV.str) (bD az S).2.length c,.int .i64 0]) M):
  aeW 22 [.ptr dp 0] L K:=by
 obtain⟨RR,A⟩:=aeS (aV az S (if(S.length:Int)<lim then(S.length:Int)else lim) (bD az S).1 (bD az S).2);rw[A]at cl h;obtain⟨N,hN⟩:=aeS (S.length);have kk1:Hid (∀{K:aeX},K (.int .i64 (N:Int)) L->aeW 51 [.ptr dp 0] L K):=@hid _ (λ{K} q=>WS hd (by rw[hN];exact q));have a4:∀X:List Blk,(L++X)[dp]?=some (.cells (gl lp wp S.length cp lim false 0 x y z)):=λX=>aeT hd
 have an:∀X:List Blk,(L++X)[lp]?=some (.cells (S.map AV.str)):=λX=>aeT hl
 have a0:∀X:List Blk,(L++X)[wp]?=some (.map [] ck):=λX=>aeT hw
 have kR:Hid (∀(k:Nat) (X:List Blk),k<N->∀{K:aeX},K (.tup [.str (S.getD k []),.int .i64 0]) (L++X)->aeW 52 [.ptr dp 0,.int .i64 (k:Int)] (L++X) K):=hid (λk X hk K q=>ab6 (ws:=[]) (a4 X) (an X) (a0 X) ah3 q);have g1:¬(N:Int)<4:=ah3;replace h:=hid h;have ci:=hid hd;have b_:=hid hl;have cb:=hid hw;replace a4:=hid a4;replace an:=hid an;replace a0:=hid a0;replace A:=hid A;replace H:=hid H;clear hd hl hw;refine aeV Mk ?_;refine cG (l:=[]) (n:=0) 5 1 rfl (afD 1).symm ?_;refine ao (λm T' L'=>∃(k:Nat) (C:List AV) (X:List Blk),m=N-k/\k<=N/\Hid (C=(S.take k).map AV.str)/\T'=[(31,.int .i64 (k:Int)),(30,.int .i64 (N:Int)),(5,.gsl C k L.length 1),(2,.nilptr),(3,.sl [] 0 (some 0)),(4,.int .i64 0),(0,.ptr dp 0)]/\L'=L++(.spare k 1::X)) ah7 ⟨0,[],[],rfl,ae5 _,hid rfl,rfl,ah4⟩ ?_;rintro m _ _ ⟨k,C,X,hm,hk,hC,rfl,rfl⟩;subst m;by_cases r:k<N;have g2:(k:Int)<(N:Int):=ah3;have g3:IntKind.i64.wrap ((k:Int)+1)=((k+1:Nat):Int):=by rw[ae ah3 ah3];omega
 obtain⟨s,hs⟩:=aeS (S.getD k []);have kk2:Hid (∀{X:List Blk}{K:aeX},K (.tup [.str s,.int .i64 0]) (L++X)->aeW 52 [.ptr dp 0,.int .i64 (k:Int)] (L++X) K):=@hid _ (λ{X K} q=>kR.o k X r (by rw[hs];exact q));have c0:Hid (C++[.str s]=(S.take (k+1)).map AV.str):=hid (by rw[afs ah3,afk,<- hC.o,<- hs];simp[hN,r])
 clear h hC hs kR kk1;refine wk ?_;exact ah8 ah3 ah6 ⟨k+1,_,_,rfl,r,c0,rfl,rfl⟩;have c4:k=N:=ah3;subst c4;have g2:¬(k:Int)<(k:Int):=ah3;obtain⟨AL,ab⟩:=aeS (S.map AV.str);have cx:C=AL:=by have:=hC.o;rw[<- hN,afo,ab]at this;exact this
 subst cx;clear hC r hk kR kk1;refine wk ?_;obtain⟨v,O⟩:=aeS (L ++ .spare k 1::X);obtain⟨jp,bo⟩:=aeS (L.length+(X.length+1));have F:v.length=jp:=by rw[<- O,<- bo];simp
 rw[show ∀b:Blk,L++Blk.spare k 1::(X++[b])=v++[b]from λb=>by rw[<- O];simp,bo];have u:Hid (∀Y:List Blk,(v++Y)[dp]?=some (.cells (gl lp wp S.length cp lim false 0 x y z))):=hid (λY=>by rw[<- O,afa];exact a4.o _);have Q:Hid (∀Y:List Blk,(v++Y)[lp]?=some (.cells (S.map AV.str))):=hid (λY=>by rw[<- O,afa];exact an.o _);have P:Hid (∀Y:List Blk,(v++Y)[wp]?=some (.map [] ck)):=hid (λY=>by rw[<- O,afa];exact a0.o _);have I:Hid (∀(i:Nat) (Y:List Blk),i<L.length->(v++Y)[i]?=L[i]?):=hid (λi Y hi=>by rw[<- O,afa,ae3 hi]);have c':L.length<jp:=ah3;have b0:∀b:Blk,(v++[b])[jp]?=some b:=λb=>by rw[<- F];simp
 have cm:∀b c:Blk,(v++[b]).set jp c=v++[c]:=λb c=>by rw[<- F,afG _ _ (ae0 _)];simp
 replace O:=hid O;replace F:=hid F;have c3:=hid (And.intro (aeY.1 ci.o).1 (And.intro (aeY.1 b_.o).1 (aeY.1 cb.o).1));clear a4 an a0 ci b_ cb bo;obtain⟨A2,a_⟩:=aeS (C.take 2);have c8:A2.length=2:=by rw[<- a_,<- ab];simp;omega
 have al:Hid (∀i,i<2->A2.getD i .undef=.str (S.getD i [])):=hid (λi hi=>by rw[<- a_,<- ab,afh,afh,afz hi];have:i<S.length:=ah3;simp[this])
 rw[a_];replace ab:=hid ab;clear a_;refine ao (λmm T' L'=>∃(i m c h:Nat) (sl:Int),mm=2-i/\i<=2/\Hid (hdK S i=(m,c,h,sl))/\m<2^32/\c<2^32/\h<=1/\(-1<=sl/\sl<=1)/\T'=[(54,.int .i64 (i:Int)),(53,.int .i64 2),(52,.sl A2 2 none),(11,.int .i64 (c:Int)),(10,.int .i64 (m:Int)),(9,.ptr jp 0),(5,.gsl C k L.length 1),(2,.nilptr),(3,.sl [] 0 (some 0)),(4,.int .i64 0),(0,.ptr dp 0)]/\L'=v++[.cells (kH dp ⟨0,h,sl,0,0⟩ false)]) ah7 ⟨0,0,0,1,-1,rfl,by decide,hid rfl,by decide,by decide,by decide,by decide,rfl,rfl⟩ ?_;rintro mm _ _ ⟨i,m,c,t,sl,hm,hi,hK,a6,a7,a',b9,rfl,rfl⟩;subst mm;by_cases r:i<2;have g5:(i:Int)<2:=ah3;have g6:IntKind.i64.wrap ((i:Int)+1)=((i+1:Nat):Int):=by rw[ae ah3 ah3];omega
 obtain⟨a,ha⟩:=aeS (S.getD i []);have e1:=al.o i r;rw[ha]at e1;have bx:i<A2.length:=ah3;have f:a.length=128:=H.o a (by rw[<- ha];exact Ul ah3);have d:=ZR S r;rw[hK.o,ha]at d;unfold Gw at d;cases hr:rdH az a with
 | none =>
   rw[hr]at d;have kk1:Hid (Ctr Tryz.prog 53 [.str a] (.tup [.int .i64 0,.int .i64 0,.bool false])):=@hid _ (λ{L K} q=>ZQ f (by rw[hr];exact q));replace d:=hid d;clear h hK ha hr u Q P I al f A;refine wk ?_;exact ah8 ah3 ah6 ⟨i+1,m,c,t,sl,rfl,r,d,a6,a7,a',b9,rfl,rfl⟩
 | some p =>
   obtain⟨g,hh⟩:=p;rw[hr]at d;dsimp only at d;have b1:=adl hr;have b2:=(PG hr).1;have kk1:Hid (Ctr Tryz.prog 53 [.str a] (.tup [.int .i64 (g:Int),.int .i64 (hh:Int),.bool true])):=@hid _ (λ{L K} q=>ZQ f (by rw[hr];exact q));obtain⟨m2,G⟩:=aeS (max m g);have g7:(if(g:Int)>(m:Int)then(g:Int)else(m:Int))=(m2:Int):=(by rw[<- G];split<;>omega);rw[G]at d;have ad:m2<2^32:=ah3;by_cases cg:c<g
   .have g8:(c:Int)<(g:Int):=ah3;rw[if_pos cg]at d;replace d:=hid d;clear h hK ha hr u Q P I al f A G;refine wk ?_;exact ah8 ah3 ah6 ⟨i+1,m2,g,hh,(i:Int),rfl,r,d,ad,b1,b2,ah3,rfl,rfl⟩
   .have g8:¬(c:Int)<(g:Int):=ah3;rw[if_neg cg]at d;replace d:=hid d;clear h hK ha hr u Q P I al f A G;refine wk ?_;exact ah8 ah3 ah6 ⟨i+1,m2,c,t,sl,rfl,r,d,ad,a7,a',b9,rfl,rfl⟩
 have bx:i=2:=ah3;subst bx;have bk:v8 az S=(m,c,t,sl):=hK.o;obtain⟨sz,w⟩:=aeS (aQ S.length);have kk1:Hid (∀{K:aeX},K (.int .i64 (sz:Int)) (v++[.cells (kH dp ⟨0,t,sl,0,0⟩ false)])->aeW 54 [.ptr jp 0] (v++[.cells (kH dp ⟨0,t,sl,0,0⟩ false)]) K):=@hid _ (λ{K} q=>L8 (j:=⟨0,t,sl,0,0⟩) (b0 _) (u.o _) ah3 bd (by rw[w];exact q));have ca:2+2*sz<=k:=by rw[<- w,<- hN];unfold aQ;omega
 have c7:1<=sz:=by rw[<- w];unfold aQ;omega
 obtain⟨U,a8⟩:=aeS (2*sz);have g5:IntKind.i64.wrap (2*(sz:Int))=(U:Int):=by rw[ae ah3 ah3];omega
 obtain⟨e2,c_⟩:=aeS (2+U);have g6:IntKind.i64.wrap (2+(U:Int))=(e2:Int):=by rw[ae ah3 ah3];omega
 have g7:e2<=k:=ah3;have g8:e2-2=U:=ah3;have g9:2<=e2:=ah3;obtain⟨BL,V⟩:=aeS ((S.drop 2).take U);obtain⟨B,hB⟩:=aeS ((C.drop 2).take U);have bl:BL.length=U:=by rw[<- V];simp;omega
 have b7:B=BL.map AV.str:=by rw[<- hB,<- V,<- ab.o,aha,ahm]
 have c6:B.length=U:=by rw[b7,ae6,bl]
 have a9:Hid (∀i,i<U->B.getD i .undef=.str (BL.getD i [])):=hid (λi hi=>by rw[b7,afh,afh];simp[show i<BL.length by omega])
 have E:Hid (∀s∈BL,s.length=128):=hid (λs hs=>H.o s (by rw[<- V]at hs;exact agv (ahd hs)));replace V:=hid V;replace bk:=hid bk;replace w:=hid w;replace a8:=hid a8;clear hK r hi b7;refine wk ?_;refine ao (λmm T' L'=>∃(i m':Nat) (Y:List Blk),mm=U-i/\i<=U/\Hid (qG az m (BL.take i)=m')/\m'<2^32/\T'=[(89,.int .i64 (i:Int)),(88,.int .i64 (U:Int)),(87,.sl B U none),(11,.int .i64 (c:Int)),(10,.int .i64 (m':Int)),(9,.ptr jp 0),(5,.gsl C k L.length 1),(2,.nilptr),(3,.sl [] 0 (some 0)),(4,.int .i64 0),(0,.ptr dp 0)]/\L'=v++(.cells (kH dp ⟨0,t,sl,0,0⟩ false)::Y)) ah7 ⟨0,m,[],rfl,ae5 _,hid rfl,a6,rfl,rfl⟩ ?_;rintro mm _ _ ⟨i,m',Y,c9,hi,av,b6,rfl,rfl⟩;subst mm;by_cases r:i<U;have p1:(i:Int)<(U:Int):=ah3;have p2:IntKind.i64.wrap ((i:Int)+1)=((i+1:Nat):Int):=by rw[ae ah3 ah3];omega
 obtain⟨a,ha⟩:=aeS (BL.getD i []);have e1:=a9.o i r;rw[ha]at e1;have bx:i<B.length:=ah3;have f:a.length=128:=E.o a (by rw[<- ha];exact Ul ah3);have d:=Vl (m:=m) (R:=BL) (k:=i) ah3;rw[av.o,ha]at d;cases hr:rdC az a with
 | none =>
   rw[hr]at d;have kk1:Hid (Ctr Tryz.prog 55 [.str a] (.tup [.agg (GC Uy),.bool false])):=@hid _ (λ{L K} q=>Pk f (by rw[hr];exact q));replace d:=hid d;clear h av ha hr u Q P I f A a9 E b0 cm;refine wk ?_;exact ah8 ah3 ah6 ⟨i+1,m',_,rfl,r,d,b6,rfl,rfl⟩
 | some p =>
   have l1:=(Zj hr).1;obtain⟨cg,cs,cn,cq,cd⟩:=p;rw[hr]at d;dsimp only at d l1;have kk1:Hid (Ctr Tryz.prog 55 [.str a] (.tup [.agg (GC ⟨cg,cs,cn,cq,cd⟩),.bool true])):=@hid _ (λ{L K} q=>Pk f (by rw[hr];exact q));obtain⟨m2,G⟩:=aeS (max m' cg);have p3:(if(cg:Int)>(m':Int)then(cg:Int)else(m':Int))=(m2:Int):=(by rw[<- G];split<;>omega);have w2:=WO (n:=cg) ah3;rw[G]at d;have ad:m2<2^32:=ah3;replace d:=hid d;clear h av ha hr u Q P I f A a9 E b0 cm G;refine wk ?_;exact ah8 ah3 ah6 ⟨i+1,m2,_,rfl,r,d,ad,rfl,rfl⟩
 have c1:i=U:=ah3;subst c1;have d:bD az S=(⟨m',t,sl,0,0⟩,if 0<=sl then gu (rdC az) c sz ((S.drop (aM S.length t)).take sz) []else[]):=by unfold bD;rw[bk.o,w.o,a8.o,V.o];have:=av.o;rw[afu ah3]at this;rw[this]
 have p1:¬(i:Int)<(i:Int):=ah3;have ap:∀(b:Blk) (Z:List Blk),(v++b::Z)[jp]?=some b:=λb Z=>by rw[<- F.o];simp
 have b':∀(b c:Blk) (Z:List Blk),(v++b::Z).set jp c=v++c::Z:=λb c Z=>by rw[<- F.o,afG _ _ (ae0 _)];simp
 have bb:Hid (∀(rc:List (List UInt8)) (co:Option Nat),(bD az S).2=rc->∀{K2:AV->List Blk->Prop},(∀M D,M[jp]?=some (.cells (kH dp RR.2.1 false))->M[lp]?=some (.cells (RR.2.2.map AV.str))->M[wp]?=some (.map [] D)->(∀i,i≠lp->i≠wp->i<L.length->M[i]?=L[i]?)->L.length<=M.length->K2 (.int .i64 0) M)->aeW 29 [.ptr jp 0,.sl (rc.map AV.str) rc.length co] (v ++ .cells (kH dp ⟨m',t,sl,0,0⟩ false)::Y) K2):=hid (λrc co q K2 e=>by
  obtain⟨a1,a2,a3⟩:=c3.o;have c5:aV az S (if(S.length:Int)<lim then(S.length:Int)else lim) ⟨m',t,sl,0,0⟩ rc=RR:=(by rw[<- A.o,q,d]);have c2:rc.length<=1000000:=by rw[<- q,d];have ca:sz<=8192:=(by rw[<- w.o];unfold aQ;omega);dsimp only;split;have:=ME (rdC az) c sz ((S.drop (aM S.length t)).take sz) [];simp only[afF]at this;omega;simp
  refine T7 (j:=⟨m',t,sl,0,0⟩) (ap _ _) (u.o _) (Q.o _) (P.o _) n1 n2 n3 ah3 ah3 ah3 bd h4 a' ch c2 (λM D r1 r2 r3 r4 r5=>?_);rw[c5]at r1 r2⊢;rw[cl];exact e M D r1 r2 r3 (λi b1 b2 b3=>by rw[r4 i ah3 b1 b2 (by simp;have:=F.o;omega)];exact I.o i _ b3) (by have:=F.o;simp at r5;omega))
 have W:Hid ((bD az S).2=if 0<=sl then gu (rdC az) c sz ((S.drop (aM S.length t)).take sz) []else[]):=hid (by rw[d]);clear av a6 bk a8 V a9 E hB c6 bl hi d;by_cases ai:0<=sl;have p2:decide (0<=sl)=true:=decide_eq_true ai;have J:=W.o;rw[if_pos ai]at J;obtain⟨rc,T⟩:=aeS (gu (rdC az) c sz ((S.drop (aM S.length t)).take sz) []);rw[T]at J;have cv:aM S.length t+sz<=k:=by rw[<- w.o,<- hN];unfold aM aQ;rcases(by omega:t=0\/t=1)with rfl|rfl<;>omega
 obtain⟨fs,b4⟩:=aeS (aM S.length t);have kk1:Hid (∀{Z:List Blk}{K:aeX},K (.int .i64 (fs:Int)) (v ++ .cells (kH dp ⟨0,t,sl,0,0⟩ false)::Z)->aeW 56 [.ptr jp 0,.int .i64 (t:Int)] (v ++ .cells (kH dp ⟨0,t,sl,0,0⟩ false)::Z) K):=@hid _ (λ{Z K} q=>Ma (j:=⟨0,t,sl,0,0⟩) (ap _ _) (u.o _) ah3 bd a' (by rw[b4];exact q));have kk2:Hid (∀{Z:List Blk}{K:aeX},K (.int .i64 (sz:Int)) (v ++ .cells (kH dp ⟨0,t,sl,0,0⟩ false)::Z)->aeW 54 [.ptr jp 0] (v ++ .cells (kH dp ⟨0,t,sl,0,0⟩ false)::Z) K):=@hid _ (λ{Z K} q=>L8 (j:=⟨0,t,sl,0,0⟩) (ap _ _) (u.o _) ah3 bd (by rw[w.o];exact q));obtain⟨e3,ct⟩:=aeS (fs+sz);rw[b4]at T cv;have p3:IntKind.i64.wrap ((fs:Int)+(sz:Int))=(e3:Int):=by rw[ae ah3 ah3];omega
 have p4:e3-fs=sz:=ah3;have p5:fs<=e3:=ah3;have p6:e3<=k:=ah3;obtain⟨B2,cy⟩:=aeS ((C.drop fs).take sz);obtain⟨RL,a5⟩:=aeS ((S.drop fs).take sz);have bn:RL.length=sz:=by rw[<- a5];simp;omega
 have cf:B2=RL.map AV.str:=by rw[<- cy,<- a5,<- ab.o,aha,ahm]
 rw[a5]at T;have kk3:Hid (Ctr Tryz.prog 57 [.sl B2 sz none,.int .i64 (c:Int)] (.sl (rc.map AV.str) rc.length none)):=@hid _ (λ{L K} q=>by have:=Vb (R:=RL) (gen:=c) (n:=sz) (L:=L) (K:=K) (λs hs=>H.o s (by rw[<- a5]at hs;exact agv (ahd hs))) a7 ah3 ah3 (by rw[T];exact q);rw[<- cf,bn]at this;exact this)
 obtain⟨RA,b5⟩:=aeS (rc.map AV.str);obtain⟨rn,bs⟩:=aeS (rc.length);rw[b5,bs]at kk3;replace ct:=hid ct;clear cf a5 bn T b4 w W;refine wk ?_;rw[<- b5,<- bs];refine bb.o rc none J (λM D r1 r2 r3 r4 r5=>?_);have hK:=hid (h.o M jp D none r1 r2 r3 r4 r5 ah3);rw[J]at hK;rw[b5,bs]at hK⊢;clear r1 r2 r3 r4 r5 bb h kk1 kk2 kk3 ap b' u Q P I;refine wk ?_;exact ag hK.o;have p2:decide (0<=sl)=false:=decide_eq_false ai;have J:=W.o;rw[if_neg ai]at J;refine wk ?_;refine bb.o [] (some 0) J (λM D r1 r2 r3 r4 r5=>?_);have hK:=hid (h.o M jp D (some 0) r1 r2 r3 r4 r5 ah3);rw[J]at hK;clear r1 r2 r3 r4 r5 bb h ap b' u Q P I;refine wk ?_;exact ag hK.o
end
end Go.Proofs.YtajkbcmleihaoaaGreatDoor.Av
set_option maxRecDepth 100000
namespace Go.Proofs.YtajkbcmleihaoaaGreatDoor.Av
open Go
def Dn:LSO:=[Aq 2]
def Dm:LSO:=[Aq 3]
def Dl:LSO:=[Aa 10 0,Aa 11 0,Aa 12 0,Ag 13 33 12,Ax 14 26 11 13,Ba 15 32 10 14 2,Af 16 15,Ab 17 0]
def Dk:LSO:=[Ao 18 17 16]
def Dj:LSO:=[Ak 19 1 15 17,Ac 20 1 19,Aa 5 20]
def Di:LSO:=[Aa 22 0,Aa 23 5,Ax 24 34 22 23,Aa 21 24,Am 25 21,Ap 26 21,Aa 6 25,Aa 7 26]
def Dh:LSO:=[Aa 28 6,Aa 29 7,
 o1 30 (.build [(.int .i64 0),(.sl [] 0 (some 0)),(.sl [] 0 (some 0)),(.sl [] 0 (some 0))] [(0,(1,(iv 1))),(1,(1,(tm 28))),(3,(1,(tm 29)))]),Ag 31 14 30,Aa 27 31,Am 32 27,
 Ap 33 27,Aa 8 32,Aa 9 33]
def Dg:LSO:=[Aa 34 3,Aa 35 8,AN 36 35,Bi 37 34 36,Aa 3 37]
def Df:LSO:=[Aj 38 17 1,Aa 17 38]
def De:LSO:=[Aa 39 3,Aa 2 39]
def wg:aI:=⟨40,(ahW Dn [] (ahW Dm [] (.seq (ahW Dl CC (ahZ 0 (ahW Dk [] (.seq (ah0 18 0) (.seq (.block 1 (ahW Dj Ce (ahW Di Cr (ahW Dh [false,true,false,false,false,false,false,false,false] (.sreg Dg Cg))))) (.sreg Df Cd)))))) (ahW De Cd .ret)))),[(.tmp 2)]⟩
attribute [push_cast] Dn Dm Dl Dk Dj Di Dh Dg Df De
theorem Na:ah1 30=ah2 wg:=ah5
attribute [push_cast] wg
end Go.Proofs.YtajkbcmleihaoaaGreatDoor.Av
set_option maxRecDepth 100000
namespace Go.Proofs.YtajkbcmleihaoaaGreatDoor.Av
open Go
def FM:LSO:=[Al 4]
def FL:LSO:=[Aa 7 0,Af 8 7,Aa 9 1,Af 10 9,AU 11 8 10]
def FK:LSO:=[Al 4]
def FJ:LSO:=[Aa 12 0,Af 13 12,Ab 14 0]
def FI:LSO:=[Ao 15 14 13]
def FH:LSO:=[Aa 16 14,Aa 5 16]
def FG:LSO:=[Aa 17 0,Aa 18 5,Ak 19 1 17 18,Ac 20 1 19,Af 21 20,Aa 22 1,Aa 23 5,Ak 24 1 22 23,Ac 25 1 24,Af 26 25,AU 27 21 26]
def FF:LSO:=[Al 4]
def FE:LSO:=[Aa 28 0,Aa 29 5,Ak 30 1 28 29,Ac 31 1 30,Af 32 31,Ab 33 0]
def FD:LSO:=[Ao 34 33 32]
def zY:LSO:=[Aa 35 33,Aa 6 35]
def zX:LSO:=[Aa 36 0,Aa 37 5,Ak 38 1 36 37,Ac 39 1 38,Aa 40 6,Ak 41 2 39 40,Az 42 2 41,Aa 43 1,Aa 44 5,Ak 45 1 43 44,Ac 46 1 45,Aa 47 6,Ak 48 2 46 47,Az 49 2 48,
 o1 50 (.eq2 true (tm 42) (tm 49))]
def zW:LSO:=[Al 4]
def zV:LSO:=[Aj 51 33 1,Aa 33 51]
def zU:LSO:=[Aj 52 14 1,Aa 14 52]
def zT:LSO:=[AC 4]
def zp:aI:=⟨53,(ahW FM [] (.seq (ahW FL Cg (ahY 11 (.sreg FK []))) (.seq (ahW FJ Cj (ahZ 0 (ahW FI [] (.seq (ah0 15 0) (.seq (.block 1 (ahW FH Cd (.seq (.seq (.sdreg FG [.pure,.pure,(.read 0 0),(.read 0 0),(.read 0 0),.pure,.pure,(.read 0 0),(.read 0 0),(.read 0 0)] Cv) (ahY 27 (.sreg FF []))) (ahW FE Cw (ahZ 2 (ahW FD [] (.seq (ah0 34 2) (.seq (.block 3 (ahW zY Cd (.seq (.sdreg zX [.pure,.pure,(.read 0 0),(.read 0 0),.pure,(.read 0 0),(.read 0 0),.pure,.pure,(.read 0 0),(.read 0 0),.pure,(.read 0 0),(.read 0 0)] CG) (ahY 50 (.sreg zW []))))) (.sreg zV Cd))))))))) (.sreg zU Cd)))))) (ahW zT [] .ret)))),[(.tmp 4)]⟩
attribute [push_cast] FM FL FK FJ FI FH FG FF FE FD zY zX zW zV zU zT
theorem OZ:ah1 46=ah2 zp:=ah5
attribute [push_cast] zp
variable {L:List Blk}{K:aeX}
set_option maxHeartbeats 8000000
set_option maxRecDepth 100000
def dnM(d:List Rdn):Prop:=d.length<=1100000/\∀r∈d,r.length<=1100000/\∀a∈r,(a.1.length:Int)<=140737488351232
theorem dnM.b{d:List Rdn}(h:dnM d):dnB d:=⟨h.1,λr hr=>(h.2 r hr).1⟩
theorem TN{d:List Rdn}(h:OkD d):d.length<=1000/\∀r∈d,r.length<=1000/\∀a∈r,a.1.length<=10000/\a.2.length<=10000:=by obtain⟨e,b⟩:=Sj h;exact⟨ah3,λr hr=>⟨by have:=(b r hr).1;omega,λa c=>⟨by have:=((b r hr).2 a c).1;omega,by have:=((b r hr).2 a c).2;omega⟩⟩⟩
theorem OkD.m{d:List Rdn}(h:OkD d):dnM d:=⟨by have:=(TN h).1;omega,λr hr=>⟨by have:=((TN h).2 r hr).1;omega,λa b=>by have:=(((TN h).2 r hr).2 a b).1;omega⟩⟩
theorem abb{d:List Rdn}{cap:Option Nat}(hd:OkD d)(h:K (.str (aP true d)) L):
  aeW 76 [.sl (d.map aH) d.length cap,.bool true] L K:=by
 obtain⟨g,c⟩:=Sj hd;have b:∀r∈d,(cM true r).length<=200000:=λr hr=>Kf (c r hr).1 (λa e=>((c r hr).2 a e).1) (λa e=>((c r hr).2 a e).2)
 have f:=J8 ah3 b;exact Wk (TN hd).1 (TN hd).2 (λr hr=>by have:=b r hr;omega) ah3 h
theorem Wg{d b:List Rdn}{cap i:Option Nat}(hd:dnB d)(l:dnB b)(h:K (.bool (gk d b)) L):
  aeW 77 [.sl (d.map aH) d.length cap,.sl (b.map aH) b.length i] L K:=by
 have e:gk d b=(decide (OkD d)&&decide (OkD b)&&decide (b.length<=d.length)&&decide (aP true (d.drop (d.length-b.length))=aP true b)):=rfl;obtain⟨⟨ps,t⟩,m⟩:∃q,prS d=q:=⟨_,rfl⟩;obtain⟨⟨w,ne⟩,g⟩:∃q,Sq b=q:=⟨_,rfl⟩;have kk1:Hid (Ctr Tryz.prog 35 [.sl (d.map aH) d.length cap] (.tup [.str ps,.int .i64 t])):=@hid _ (by intro L K q;exact yX hd.1 hd.2 (by rw[m];exact q));have kk2:Hid (Ctr Tryz.prog 61 [.sl (b.map aH) b.length i] (.tup [.str w,.int .i64 ne])):=@hid _ (by intro L K q;exact MI l.1 l.2 (by rw[g];exact q));have n:OkD d↔t=0:=by unfold OkD;rw[m]
 by_cases r:t=0;rotate_left;rw[e,decide_eq_false (λc=>r (n.1 c))]at h;simp only[agH]at h;replace h:=hid h;clear m g e n hd l;refine aeV mU ?_;exact ag h.o;have a:OkD d:=n.2 r;by_cases s:ne=0;rotate_left;rw[e,decide_eq_false (p:=OkD b) (λc=>s (by have:=qL c;rw[g]at this;injection this))]at h;simp only[agH,ahz]at h;replace h:=hid h;subst r;clear m g e n hd l a;refine aeV mU ?_;exact ag h.o;have f:OkD b:=by by_cases c:OkD b;exact c;exact absurd (by rw[g];exact s) (Sp c)
 have j:w=aP true b:=by have:=qL f;rw[g]at this;injection this
 rw[decide_eq_true a,decide_eq_true f]at e;simp only[afU]at e;subst r s;by_cases u:b.length<=d.length;rotate_left;rw[e,decide_eq_false u]at h;simp only[agH]at h;replace h:=hid h;have g1:(d.length:Int)<(b.length:Int):=ah3;clear m g e n hd l a f j;refine aeV mU ?_;exact ag h.o;rw[e,decide_eq_true u,<- j]at h;simp only[afU]at h;obtain⟨k,v⟩:=aeS (d.length-b.length);rw[v]at h;have kk3:Hid (∀{c:Option Nat}{L:List Blk}{K:aeX},K (.str (aP true (d.drop k))) L->aeW 76 [.sl (List.take (d.length-k) (List.drop k (d.map aH))) (d.length-k) c,.bool true] L K):=@hid _ (by intro c L K q;have:=abb (cap:=c) (a.drop k) q;rw[agb]at this;rw[<- ahm,afu ah4];exact this)
 have g1:¬(d.length:Int)<(b.length:Int):=ah3;have x:d.length<=32:=a.len;have y:IntKind.i64.wrap ((d.length:Int)-(b.length:Int))=(k:Int):=by rw[ae ah3 ah3];omega
 have g3:(k:Int)<=(d.length:Int):=ah3;replace h:=hid h;clear m g e n hd l a f j v u x;refine aeV mU ?_;exact ag h.o
abbrev aw:=Ent (List Atr)
instance:Inhabited aw:=⟨⟨0,[],[]⟩⟩
def atR(v:List Atr):AV:=.sl (bj v) v.length none
def SH(x:aw):List AV:=[.int .i64 x.id,dnA x.nm,atR x.av]
def cK(l:List aw):List AV:=l.flatMap SH
theorem X9(l:List aw):(cK l).length=l.length*3:=by
 induction l with
 |nil=>rfl
 | cons x l ih =>
   unfold cK at ih⊢;rw[afT,afc,ih,afg];simp only[SH,afg,afF];omega
theorem Yb(l m:List aw):cK (l++m)=cK l++cK m:=by simp[cK]
theorem VT(l:List aw)(k:Nat):(cK l).drop (k*3)=cK (l.drop k):=by
 induction l generalizing k with
 |nil=>simp[cK]
 | cons x l ih =>
   cases k with
   |zero=>simp
   | succ k =>
     rw[ahj,<- ih k,show(k+1)*3=k*3+1+1+1 by omega];simp[cK,SH]
theorem Z8{l:List aw}{k:Nat}(h:k<l.length):((cK l).drop (k*3)).take 3=SH (l.getD k default):=by rw[VT,afL h,show l.getD k default=l[k]by simp[h]];unfold cK;rw[afT];rfl
theorem Ya{l:List aw}{k:Nat}(h:k<l.length):(cK l).getD (k*3) .undef=.int .i64 (l.getD k default).id/\(cK l).getD (k*3+1) .undef=dnA (l.getD k default).nm/\(cK l).getD (k*3+2) .undef=atR (l.getD k default).av:=by
 have a:∀j,j<3->(cK l).getD (k*3+j) .undef=(SH (l.getD k default)).getD j .undef:=λj c=>by have b:=congrArg (λl=>l[j]?) (Z8 h);simp only[afz c,afE]at b;rw[afh,b];exact(afh ..).symm
 exact⟨by have:=a 0 ah3;simpa[SH]using this,by have:=a 1 ah3;simpa[SH]using this,by have:=a 2 ah3;simpa[SH]using this⟩
theorem abr{d:List Rdn}{cap c:Option Nat}(A:d.length<=1100000)(hr:∀r∈d,r.length<=1100000)(h:K (.bool true) L):
  aeW 46 [.sl (d.map aH) d.length cap,.sl (d.map aH) d.length c] L K:=by
 replace h:=hid h;have l:=hid (λk=>@yW d k);replace hr:=hid hr;refine aeV OZ ?_;refine ao (λm T' L'=>∃k:Nat,m=d.length-k/\k<=d.length/\T'=[(14,.int .i64 (k:Int)),(13,.int .i64 d.length),(0,.sl (d.map aH) d.length cap),(1,.sl (d.map aH) d.length c)]/\L=L') (CutS (b:=ae0 _)) ⟨0,rfl,ae5 _,rfl,rfl⟩ ?_;rintro _ _ L' ⟨k,rfl,u,rfl,e⟩;subst e;by_cases f:k<d.length;have g1:(k:Int)<(d.length:Int):=ah3;have x:=aeU k ah3;have q:=l.o k f;have w:k<(d.map aH).length:=by simpa using f
 obtain⟨r,g⟩:=aeS (d.getD k []);have s:=hr.o r (by rw[<- g];simp[f]);rw[g]at q;clear g;refine wk ?_;refine ao (λm T' L'=>∃j:Nat,m=r.length-j/\j<=r.length/\T'=[(33,.int .i64 (j:Int)),(32,.int .i64 r.length),(5,.int .i64 (k:Int)),(14,.int .i64 (k:Int)),(13,.int .i64 d.length),(0,.sl (d.map aH) d.length cap),(1,.sl (d.map aH) d.length c)]/\L=L') (CutS (b:=ae0 _)) ⟨0,rfl,ae5 _,rfl,rfl⟩ ?_;rintro _ _ L' ⟨j,rfl,B,rfl,e⟩;subst e;by_cases i:j<r.length;have t:(j:Int)<(r.length:Int):=ah3;have y:=aeU j ah3;have p:=oc i;have v:j*2+2<=(bQ r).length:=by rw[iW];omega
 obtain⟨⟨ty,z⟩,n⟩:∃a,r.getD j ([],[])=a:=⟨_,rfl⟩;rw[n]at p;simp only[GR]at p;clear n;refine wk ?_;exact ah8 ah3 ah6 ⟨j+1,rfl,i,rfl,rfl⟩;have t:¬(j:Int)<(r.length:Int):=ah3;refine wk ?_;exact ah8 ah3 ah6 ⟨k+1,rfl,f,rfl,rfl⟩;have g1:¬(k:Int)<(d.length:Int):=ah3;refine wk ?_;exact ag h.o
def plI(o:Option Nat):Int:=match o with|some i=>(i:Int)|none=>-1
def byI(l:List aw)(id:Int):Int:=plI (l.findIdx? λx=>decide (x.id=id))
abbrev TKy:=List UInt8×Int×Nat
def kyA(r:TKy):AV×AV×Nat:=(.str r.1,.int .i64 r.2.1,r.2.2)
def eY(nb bn:Int->Nat)(x:aw):AV×AV×Nat:=(.int .i64 x.id,.ptr (nb x.id) 0,bn x.id)
def lz(l:List aw)(x:aw):List AV:=[dnA x.nm,.sl (ay (pth x)) x.nm.length none,atR x.av,.int .i64 (aO (cu l) (NK x.nm):Nat)]
structure aR(L:List Blk)(iv mn mi:Nat)(nb bn:Int->Nat)(ck ci:Nat)(rs:List TKy)(suf:List Rdn)(last:Int)(l:List aw):Prop where
 v:L[iv]?=some (.cells [dnA suf,.lmap mn,.lmap mi,.int .i64 last])
 n:L[mn]?=some (.map (l.map (eY nb bn)) ck)
 i:L[mi]?=some (.map (rs.map kyA) ci)
 nd:∀x∈l,L[nb x.id]?=some (.cells (lz l x))
 keys:(rs.map (·.1)).Nodup
 mem:∀k id,(∃b,(k,id,b)∈rs)↔∃x∈l,aP true x.nm=k/\x.id=id
 bnd:(l.map λx=>bn x.id).Nodup
 blt:∀x∈l,bn x.id<ck
theorem aR.app{L:List Blk}{iv mn mi:Nat}{nb bn:Int->Nat}{ck ci:Nat}{rs:List TKy}{suf:List Rdn}{last:Int}{l:List aw}(h:aR L iv mn mi nb bn ck ci rs suf last l)(X:List Blk):aR (L++X) iv mn mi nb bn ck ci rs suf last l:=by
 have key:∀{i:Nat}{b:Blk},L[i]?=some b->(L++X)[i]?=some b:=λ{i b} e=>by rw[ae3 (aeY.1 e).1];exact e
 exact⟨key h.v,key h.n,key h.i,λx a=>key (h.nd x a),h.keys,h.mem,h.bnd,h.blt⟩
theorem yG:∀(rs:List TKy) (k:List UInt8) (j:Nat),bH (.str k) (rs.map kyA) j=some ((rs.findIdx? λr=>decide (r.1=k)).map λn=>(j+n,.int .i64 (rs.getD n default).2.1))
 |[],k,j=>rfl
 | r::rs,k,j=>by
   by_cases h:k=r.1
   .subst h;simp[bH,kyA,yF,agt]
   .have h':¬r.1=k:=λe=>h e.symm
    simp only[afe,kyA,bH,yF,decide_eq_false h,agt,decide_eq_false h',afm,if_false];have a:=yG rs k (j+1);rw[a];cases rs.findIdx? (λr=>decide (r.1=k))with
    |none=>rfl
    |some n=>simp only[afi];rw[show j+1+n=j+(n+1)by omega];rfl
theorem yD(nb bn:Int->Nat):∀(l:List aw) (id:Int) (j:Nat),bH (.int .i64 id) (l.map (eY nb bn)) j=some ((l.findIdx? λx=>decide (x.id=id)).map λn=>(j+n,.ptr (nb id) 0))
 |[],id,j=>rfl
 | x::l,id,j=>by
   by_cases h:id=x.id
   .subst h;simp[bH,eY,yF,agt]
   .have h':¬x.id=id:=λe=>h e.symm
    simp only[afe,eY,bH,yF,if_true,decide_eq_false h,agt,decide_eq_false h',afm,if_false];have a:=yD nb bn l id (j+1);rw[a];cases l.findIdx? (λx=>decide (x.id=id))with
    |none=>rfl
    |some n=>simp only[afi];rw[show j+1+n=j+(n+1)by omega]
theorem iQ{β:Type}{f:β->Bool}{l:List β}[Inhabited β]:(l.findIdx? f=none/\l.find? f=none)\/∃n,l.findIdx? f=some n/\n<l.length/\l.find? f=some (l.getD n default):=by
 induction l with
 |nil=>exact .inl ⟨rfl,rfl⟩
 | cons x l ih =>
   by_cases h:f x=true
   .exact .inr ⟨0,by simp[agt,h],ah4,by simp[af5,h]⟩
   .rcases ih with⟨b,a⟩|⟨n,b,a,c⟩
    .exact .inl ⟨by simp[agt,h,b],by simp[af5,h,a]⟩
    .exact .inr ⟨n+1,by simp[agt,h,b],by simpa using a,by simp[af5,h,c]⟩
theorem aR.look{L:List Blk}{iv mn mi:Nat}{nb bn:Int->Nat}{ck ci:Nat}{rs:List TKy}{suf:List Rdn}{last:Int}{l:List aw}(h:aR L iv mn mi nb bn ck ci rs suf last l)(i:TOk suf last l){d:List Rdn}(hd:OkD d):
  (aN l d=0/\atE l d=none/\bH (.str (aP true d)) (rs.map kyA) 0=some none)\/∃j,bH (.str (aP true d)) (rs.map kyA) 0=some (some (j,.int .i64 (aN l d))):=by
 rw[yG];rcases iQ (f:=λr:TKy=>decide (r.1=aP true d)) (l:=rs)with⟨m,g⟩|⟨n,m,u,g⟩;left;have a:atE l d=none:=yS.2 λ_ x c e=>by obtain⟨b,p⟩:=(h.mem (aP true x.nm) x.id).2 ⟨x,c,rfl,rfl⟩;have:=af7.1 g _ p;simp only[decide_eq_true_eq]at this;exact this ((mP (i.ok x c) hd).2 e)
 exact⟨i.find0.2 a,a,by rw[m];rfl⟩;right;refine⟨n,?_⟩;obtain⟨⟨k,id,b⟩,hr⟩:∃r,rs.getD n default=r:=⟨_,rfl⟩;have o:=agr g;have q:k=aP true d:=by have:=ags g;rw[hr]at this;simpa using this
 rw[hr]at o;obtain⟨x,c,s,t⟩:=(h.mem k id).1 ⟨b,o⟩;have:atE l d=some x:=i.at c hd ((mP hd (i.ok x c)).1 (by rw[<- q,s]));rw[m];simp only[afi,hr,agm,aN,this,t]
theorem mO{d:List Rdn}{cap:Option Nat}(hd:dnB d){L:List Blk}{iv mn mi:Nat}{nb bn:Int->Nat}{ck ci:Nat}{rs:List TKy}{suf:List Rdn}{last:Int}{l:List aw}(r:TOk suf last l)(b:aR L iv mn mi nb bn ck ci rs suf last l){K:aeX}(h:K (.int .i64 (aN l d)) L):
  aeW 26 [.ptr iv 0,.sl (d.map aH) d.length cap] L K:=by
 replace h:=hid h;obtain⟨⟨s,e⟩,a⟩:∃q,Sq d=q:=⟨_,rfl⟩;have kk1:Hid (Ctr Tryz.prog 61 [.sl (d.map aH) d.length cap] (.tup [.str s,.int .i64 e])):=@hid _ (by intro L K q;exact MI hd.1 hd.2 (by rw[a];exact q));have w:=b.v;have u:=b.i;by_cases t:e=0;subst t;have f:OkD d:=by by_cases c:OkD d;exact c;exact absurd (by rw[a]) (Sp c)
 have g:s=aP true d:=by have:=qL f;rw[a]at this;injection this
 rcases b.look r f with⟨m,_,k⟩|⟨j,k⟩;rw[<- g]at k;rw[m]at h;have n:aU .str (.str s)=true:=rfl;clear a b g;refine aeV bX ?_;exact ag h.o;rw[<- g]at k;have n:aU .str (.str s)=true:=rfl;obtain⟨z,p⟩:=aeS (aN l d);rw[p]at h k;clear a b g p;refine aeV bX ?_;exact ag h.o;have m:aN l d=0:=by refine r.find0.2 (yS.2 λc=>?_);have:=qL c;rw[a]at this;exact absurd (by injection this) t
 rw[m]at h;clear a b;refine aeV bX ?_;exact ag h.o
theorem aR.node{L:List Blk}{iv mn mi:Nat}{nb bn:Int->Nat}{ck ci:Nat}{rs:List TKy}{suf:List Rdn}{last:Int}{l:List aw}(h:aR L iv mn mi nb bn ck ci rs suf last l)(id:Int):
  (Ef l id=none/\bH (.int .i64 id) (l.map (eY nb bn)) 0=some none)\/∃x n,Ef l id=some x/\x∈l/\x.id=id/\bH (.int .i64 id) (l.map (eY nb bn)) 0=some (some (n,.ptr (nb id) 0))/\L[nb id]?=some (.cells (lz l x)):=by
 rw[yD];unfold Ef;rcases iQ (f:=λx:aw=>decide (x.id=id)) (l:=l)with⟨a,d⟩|⟨n,a,d,b⟩;exact .inl ⟨d,by rw[a];rfl⟩;right;have e:=agr b;have c:(l.getD n default).id=id:=by have:=ags b;simpa using this
 refine⟨_,n,b,e,c,by rw[a];simp,?_⟩;have:=h.nd _ e;rwa[c]at this
theorem ac7{L:List Blk}{iv mn mi:Nat}{nb bn:Int->Nat}{ck ci:Nat}{rs:List TKy}{suf:List Rdn}{last:Int}{l:List aw}(a:aR L iv mn mi nb bn ck ci rs suf last l){K:aeX}(h:K (.int .i64 (l.length:Nat)) L):
  aeW 25 [.ptr iv 0] L K:=by
 have d:=a.v;have b:=a.n;have c:(l.map (eY nb bn)).length=l.length:=ae6 _;replace h:=hid h;clear a;refine aeV JL ?_;exact ag h.o
theorem YH{L:List Blk}{iv mn mi:Nat}{nb bn:Int->Nat}{ck ci:Nat}{rs:List TKy}{suf:List Rdn}{last:Int}{l:List aw}(hd:dnB suf)(a:aR L iv mn mi nb bn ck ci rs suf last l){K:aeX}(h:K (dnA suf) L):
  aeW 33 [.ptr iv 0] L K:=by
 have b:=a.v;have kk2:Hid (∀{c:Option Nat}{L:List Blk}{K:aeX},K (dnA suf) L->aeW 50 [.sl (suf.map aH) suf.length none,.sl [] 0 c] L K):=@hid _ (by intro c L K q;exact MP hd.1 hd.2 q);replace h:=hid h;clear a hd;refine aeV Eg ?_;exact ag h.o
theorem We{d b:List Rdn}{cap a:Option Nat}(hd:dnB d)(e:dnB b){v:Nat}(h:K (.bool (MC d b)) L):
  aeW 36 [.ptr v 0,.sl (d.map aH) d.length cap,.sl (b.map aH) b.length a] L K:=by
 have kk1:Hid (Ctr Tryz.prog 77 [.sl (d.map aH) d.length cap,.sl (b.map aH) b.length a] (.bool (gk d b))):=@hid _ (by intro L K q;exact Wg hd e q);unfold MC at h;obtain⟨u,f⟩:=aeS (gk d b);rw[f]at h kk1;by_cases c:d.length=b.length;have g:(d.length:Int)=(b.length:Int):=ah3;rw[decide_eq_true c,afU]at h;replace h:=hid h;clear f hd e c;refine aeV qJ ?_;exact ag h.o;have g:¬(d.length:Int)=(b.length:Int):=ah3;rw[decide_eq_false c,agH]at h;replace h:=hid h;clear f hd e c;refine aeV qJ ?_;exact ag h.o
theorem aba{d:List Rdn}{cap:Option Nat}(hd:dnB d){L:List Blk}{K:aeX}(h:¬OkD d->K (.tup [.nilptr,.int .i64 (prS d).2]) L)(i:d=[]->K (.tup [.nilptr,.int .i64 2]) L)(j:OkD d->d≠[]->K (.tup [.ptr (L.length+3) 0,.int .i64 0]) (L++[.map [] 0,.map [] 0,.cells [dnA d,.lmap L.length,.lmap (L.length+1),.int .i64 0],.cells [.ptr (L.length+2) 0]])):
  aeW 21 [.sl (d.map aH) d.length cap] L K:=by
 obtain⟨⟨s,e⟩,a⟩:∃q,prS d=q:=⟨_,rfl⟩;have kk1:Hid (Ctr Tryz.prog 35 [.sl (d.map aH) d.length cap] (.tup [.str s,.int .i64 e])):=@hid _ (by intro L K q;exact yX hd.1 hd.2 (by rw[a];exact q));have kk2:Hid (∀{c:Option Nat}{L:List Blk}{K:aeX},K (dnA d) L->aeW 50 [.sl (d.map aH) d.length cap,.sl [] 0 c] L K):=@hid _ (by intro c L K q;exact MP hd.1 hd.2 q);have f:OkD d↔e=0:=by unfold OkD;rw[a]
 rw[a]at h;by_cases l:e=0;rotate_left;replace h:=hid (h λc=>l (f.1 c));clear a f i j hd;refine aeV wb ?_;exact ag h.o;subst l;by_cases k:d.length=0;have b:=afK.1 k;replace h:=hid (i b);subst b;clear a f i j hd k;refine aeV wb ?_;exact ag h.o;have g:¬(d.length:Int)=0:=ah3;replace h:=hid (j (f.2 rfl) λc=>k (by rw[c];rfl));clear a f i j hd;refine aeV wb ?_;exact ag h.o
end Go.Proofs.YtajkbcmleihaoaaGreatDoor.Av
namespace Go.Proofs
open Go.Shelf
def Tryz.srtF_ren:Go.Shelf.Ren:=⟨λ|6=>72|15=>99|14=>98|28=>140|29=>141|20=>132|21=>133|22=>134|23=>135|24=>136|25=>137|26=>138|27=>139|46=>162|47=>163|48=>164|49=>165|50=>166|57=>186|n=>n,λ|22=>82|24=>3|25=>137|3=>3|39=>162|0=>0|53=>160|55=>58|4=>4|46=>211|45=>210|50=>215|5=>5|9=>9|66=>239|70=>243|76=>257|77=>258|n=>n,λ|n=>n⟩
theorem Tryz.srtF:Go.Proofs.SlLaysF.n6 Tryz.prog Tryz.srtF_ren:={
 mixed:=by kernel_rfl
 f6:=⟨Tryz.f72.name,by decide,Tryz.func72.trans (congrArg some (by kernel_rfl))⟩
 f14:=⟨Tryz.f98.name,by decide,Tryz.func98.trans (congrArg some (by kernel_rfl))⟩
 f15:=Tryz.func99.trans (congrArg some (by kernel_rfl))
 f20:=⟨Tryz.f132.name,by decide,Tryz.func132.trans (congrArg some (by kernel_rfl))⟩
 f21:=⟨Tryz.f133.name,by decide,Tryz.func133.trans (congrArg some (by kernel_rfl))⟩
 f22:=⟨Tryz.f134.name,by decide,Tryz.func134.trans (congrArg some (by kernel_rfl))⟩
 f23:=⟨Tryz.f135.name,by decide,Tryz.func135.trans (congrArg some (by kernel_rfl))⟩
 f24:=⟨Tryz.f136.name,by decide,Tryz.func136.trans (congrArg some (by kernel_rfl))⟩
 f25:=⟨Tryz.f137.name,by decide,Tryz.func137.trans (congrArg some (by kernel_rfl))⟩
 f26:=⟨Tryz.f138.name,by decide,Tryz.func138.trans (congrArg some (by kernel_rfl))⟩
 f27:=⟨Tryz.f139.name,by decide,Tryz.func139.trans (congrArg some (by kernel_rfl))⟩
 f28:=Tryz.func140.trans (congrArg some (by kernel_rfl))
 f29:=Tryz.func141.trans (congrArg some (by kernel_rfl))
 f46:=⟨Tryz.f162.name,by decide,Tryz.func162.trans (congrArg some (by kernel_rfl))⟩
 f47:=Tryz.func163.trans (congrArg some (by kernel_rfl))
 f48:=Tryz.func164.trans (congrArg some (by kernel_rfl))
 f49:=⟨Tryz.f165.name,by decide,Tryz.func165.trans (congrArg some (by kernel_rfl))⟩
 f50:=⟨Tryz.f166.name,by decide,Tryz.func166.trans (congrArg some (by kernel_rfl))⟩
 f57:=⟨Tryz.f186.name,by decide,Tryz.func186.trans (congrArg some (by kernel_rfl))⟩
 t0:=Tryz.underlying0
 a0:=Tryz.isAgg0
 z0:=Tryz.sizeOf0
 v0:=Tryz.zeroValue0
 t3:=Tryz.underlying3
 a3:=Tryz.isAgg3
 z3:=Tryz.sizeOf3
 v3:=Tryz.zeroValue3
 t4:=Tryz.underlying4
 a4:=Tryz.isAgg4
 z4:=Tryz.sizeOf4
 v4:=Tryz.zeroValue4
 t5:=Tryz.underlying5
 a5:=Tryz.isAgg5
 z5:=Tryz.sizeOf5
 v5:=Tryz.zeroValue5
 t9:=Tryz.underlying9
 a9:=Tryz.isAgg9
 z9:=Tryz.sizeOf9
 v9:=Tryz.zeroValue9
 t22:=Tryz.underlying82
 a22:=Tryz.isAgg82
 z22:=Tryz.sizeOf82
 v22:=Tryz.zeroValue82
 a24:=Tryz.isAgg3
 z24:=Tryz.sizeOf3
 t25:=Tryz.underlying137
 a25:=Tryz.isAgg137
 z25:=Tryz.sizeOf137
 v25:=Tryz.zeroValue137
 t39:=Tryz.underlying162
 a39:=Tryz.isAgg162
 z39:=Tryz.sizeOf162
 v39:=Tryz.zeroValue162
 t45:=Tryz.underlying210
 a45:=Tryz.isAgg210
 z45:=Tryz.sizeOf210
 v45:=Tryz.zeroValue210
 t46:=Tryz.underlying211
 a46:=Tryz.isAgg211
 z46:=Tryz.sizeOf211
 v46:=Tryz.zeroValue211
 t50:=Tryz.underlying215
 a50:=Tryz.isAgg215
 z50:=Tryz.sizeOf215
 v50:=Tryz.zeroValue215
 t53:=Tryz.underlying160
 a53:=Tryz.isAgg160
 z53:=Tryz.sizeOf160
 v53:=Tryz.zeroValue160
 t55:=Tryz.underlying58
 a55:=Tryz.isAgg58
 z55:=Tryz.sizeOf58
 v55:=Tryz.zeroValue58
 t66:=Tryz.underlying239
 a66:=Tryz.isAgg239
 z66:=Tryz.sizeOf239
 v66:=Tryz.zeroValue239
 t70:=Tryz.underlying243
 a70:=Tryz.isAgg243
 z70:=Tryz.sizeOf243
 v70:=Tryz.zeroValue243
 t76:=Tryz.underlying257
 a76:=Tryz.isAgg257
 z76:=Tryz.sizeOf257
 v76:=Tryz.zeroValue257
 t77:=Tryz.underlying258
 a77:=Tryz.isAgg258
 z77:=Tryz.sizeOf258
 v77:=Tryz.zeroValue258}
end Go.Proofs
namespace Go.Proofs
open Go Go.Lib Go.RowKit Go.Proofs.YtajkbcmleihaoaaGreatDoor.Av
set_option maxHeartbeats 2000000
set_option maxRecDepth 100000
theorem Tryz.isnan_c(a:ByteArray)(w:World):Calls Tryz.prog 142 #[.string a] w λe w'=>e=.returned (.bool false)/\w'=w:=by
 go_enter Tryz.func142,Tryz.ntmps142
 go_wp2
 go_ret
 exact⟨ah4,rfl⟩
theorem Tryz.cmps_c(a b:ByteArray)(w:World):Calls Tryz.prog 100 #[.string a,.string b] w λe w'=>e=.returned (.int .i64 (if Op.bytesLess a.toList b.toList then -1 else if Op.bytesLess b.toList a.toList then 1 else 0))/\w'=w:=by
 have h1:=λs W=>Tryz.isnan_c s W
 obtain⟨p,hp⟩:=aeS (Op.bytesLess a.toList b.toList);obtain⟨q,hq⟩:=aeS (Op.bytesLess b.toList a.toList);rw[hp,hq];have ht:p=false->q=false->a.toList=b.toList:=λe1 e2=>by rw[e1,bytesLess_eq,decide_eq_false_iff_not]at hp;rw[e2,bytesLess_eq,decide_eq_false_iff_not]at hq;exact adI hp hq
 cases p<;>cases q
 all_goals
  go_enter Tryz.func100,Tryz.ntmps100
  go_wp2_with (go_at_call 142;refine(h1 _ _).mono ?_;rintro e w' ⟨rfl,rfl⟩)
 all_goals (go_ret;first|exact⟨rfl,rfl⟩|(exfalso;simp_all;done))
theorem Tryz.cmpn_c(x:List (List UInt8))(y:List (List UInt8))(b1 o1 c b2 o2 d:Nat)(w:World)(hb1:x.length<=1100000)(hb2:y.length<=1100000)(hc1:∀j,j<x.length->w.cell? ⟨b1,o1+j,none⟩=some (.string ⟨⟨x.getD j []⟩⟩))(hc2:∀j,j<y.length->w.cell? ⟨b2,o2+j,none⟩=some (.string ⟨⟨y.getD j []⟩⟩)):
  Calls Tryz.prog 74 #[.slice (some ⟨b1,o1,none⟩) x.length c,.slice (some ⟨b2,o2,none⟩) y.length d] w λe w'=>e=.returned (.int .i64 (cpP x y))/\w'=w:=by
 have h1:=λa b W=>Tryz.cmps_c a b W
 go_enter Tryz.func74,Tryz.ntmps74
 go_wp2
 go_loopg [11] x.length (λg s11 wr=>∃k:Nat,k<=x.length/\k<=y.length/\x.length-k<=g/\s11=.int .i64 k/\wr=w/\cpP (x.drop k) (y.drop k)=cpP x y)
 case atStart=>exact⟨0,ae5 _,ae5 _,ah3,rfl,rfl,rfl⟩
 case round =>
  obtain⟨k,hk,hky,hg,rfl,rfl,heq⟩:=hrel;by_cases hlt:k<x.length
  .have d1:x.drop k=x.getD k []::x.drop (k+1):=(by rw[afL hlt];simp[hlt]);have g1:=hc1 k hlt;rw[d1]at heq;obtain⟨s,hs⟩:=aeS (x.getD k []);rw[hs]at g1 heq;by_cases hly:k<y.length
   .have d2:y.drop k=y.getD k []::y.drop (k+1):=(by rw[afL hly];simp[hly]);have g2:=hc2 k hly;rw[d2]at heq;obtain⟨t,ht⟩:=aeS (y.getD k []);rw[ht]at g2 heq;have hcon:=h1 ⟨⟨s⟩⟩ ⟨⟨t⟩⟩ wr;rw[cpP]at heq;obtain⟨z,hz⟩:=aeS (cpS s t);rw[show(if Op.bytesLess (ByteArray.mk ⟨s⟩).toList (ByteArray.mk ⟨t⟩).toList then(-1:Int)else if Op.bytesLess (ByteArray.mk ⟨t⟩).toList (ByteArray.mk ⟨s⟩).toList then 1 else 0)=z from by rw[ahr,ahr,<- hz,bytesLess_eq,bytesLess_eq];simp[cpS]]at hcon;rw[hz]at heq;have A:Aside (cpP x y=if z≠0 then z else cpP (x.drop (k+1)) (y.drop (k+1))):=heq.symm;clear heq hc1 hc2 d1 d2 hs ht hz h1;by_cases hz0:z=0
    .subst hz0
     go_wp2_with (go_at_call 100;refine hcon.mono ?_;rintro e w' ⟨rfl,rfl⟩)
     go_roundg (x.length-(k+1))
     case measure=>omega
     case rel=>exact⟨k+1,ah3,ah3,ah3,by go_num,rfl,by have:=A.out;simp only[ne_eq,not_true_eq_false,if_false]at this;exact this.symm⟩
    .go_wp2_with (go_at_call 100;refine hcon.mono ?_;rintro e w' ⟨rfl,rfl⟩)
     all_goals go_ret
     have:=A.out;rw[if_pos hz0]at this;exact⟨by rw[this];rfl,rfl⟩
   .have A:Aside (cpP x y=1):=by show cpP x y=1;rw[agu (l:=y) ah3,cpP]at heq;exact heq.symm
    clear heq hc1 hc2 d1 hs h1
    go_wp2
    go_ret
    exact⟨by rw[A.out];rfl,rfl⟩
  .have hkx:k=x.length:=ah3;have A:Aside (cpP x y=if x.length<y.length then -1 else 0):=by
    show cpP x y=if x.length<y.length then -1 else 0
    rw[agu (l:=x) ah3]at heq;by_cases hly:k<y.length;rw[afL hly,cpP]at heq;rw[if_pos ah3];exact heq.symm;rw[agu (l:=y) ah3,cpP]at heq;rw[if_neg ah3];exact heq.symm
   subst hkx;clear heq hc1 hc2 h1;by_cases hl:x.length<y.length
   .go_wp2
    all_goals (go_ret;first|exact⟨by rw[A.out,if_pos hl];rfl,rfl⟩|(exfalso;omega))
   .go_wp2
    all_goals (go_ret;first|exact⟨by rw[A.out,if_neg hl];rfl,rfl⟩|(exfalso;omega))
theorem Tryz.scp_c(x y:List (List UInt8))(a b:Int)(bb bo vb vo mb na oa pa qa ca nb ob pb qb cb:Nat)(W:World)(hb1:x.length<=1100000)(hb2:y.length<=1100000)(e1:W.cell? ⟨bb,bo,none⟩=some (.pointer (some ⟨vb,vo,none⟩)))(e2:W.cell? ⟨vb,vo+1,none⟩=some (.map (some mb)))(e3:∀n,(Instr.lookup 90 (.map (some mb)) (.int .i64 a) false).run Tryz.prog (W.drewN n)=.ok (.pointer (some ⟨na,oa,none⟩)) (W.drewN n))(e4:∀n,(Instr.lookup 90 (.map (some mb)) (.int .i64 b) false).run Tryz.prog (W.drewN n)=.ok (.pointer (some ⟨nb,ob,none⟩)) (W.drewN n))(e5:W.cell? ⟨na,oa+1,none⟩=some (.slice (some ⟨pa,qa,none⟩) x.length ca))(e6:W.cell? ⟨nb,ob+1,none⟩=some (.slice (some ⟨pb,qb,none⟩) y.length cb))(hc1:∀j,j<x.length->W.cell? ⟨pa,qa+j,none⟩=some (.string ⟨⟨x.getD j []⟩⟩))(hc2:∀j,j<y.length->W.cell? ⟨pb,qb+j,none⟩=some (.string ⟨⟨y.getD j []⟩⟩)):
  Calls Tryz.prog 73 #[.int .i64 a,.int .i64 b,.pointer (some ⟨bb,bo,none⟩)] W λe w'=>e=.returned (.int .i64 (cpP x y))/\∃q,w'=W.drewN q:=by
 have hcon:=λn=>Tryz.cmpn_c x y pa qa ca pb qb cb (W.drewN n) hb1 hb2 hc1 hc2
 generalize cpP x y=r at hcon⊢;clear hc1 hc2
 go_enter Tryz.func73,Tryz.ntmps73
 go_wp2
 go_quiet (exact Calls.quiet_of_same (hcon _))
 go_wp2
 go_ret
 exact⟨rfl,_,rfl⟩
end Go.Proofs
namespace Go.Proofs
open Go.Shelf Go.Sort Go.RowKit
theorem Tryz.sortF{α:Type}[Inhabited α](enc:α->Value)(i:OneCell enc)(a:α->α->Int)(h:SWO (ltOf a))(g:Nat)(cb:Array Value)(blk off cap:Nat)(d:Array α)(w:World)(j:∀args w,(callFunc g args).run Tryz.prog w=.ok (.enter g args) w)(b:CmpLays1 Tryz.prog g cb enc a blk off d.size w)(k:Holds enc w blk off d)(c:blk<w.heap.size)(f:d.size<4611686018427387904)(l:∀x y,(ltOf a) x y=false->(ltOf a) y x=false->x=y):
  Calls Tryz.prog 72 #[.slice (some ⟨blk,off,none⟩) d.size cap,.func (.func g) #[] cb] w λe w' =>
   e=.returned (.tuple #[])/\∃n os,w'=sortWorld enc w blk off n (d.toList.mergeSort λx y => !(ltOf a) y x).toArray os :=
 Any.slices_SortFunc_total Tryz.srtF enc i a h g cb blk off cap d w j b k c f l
theorem Tryz.sortF0(p:Option Addr)(cap:Nat)(a:Value)(w:World):
  Calls Tryz.prog 72 #[.slice p 0 cap,a] w λe w'=>e=.returned (.tuple #[])/\w'=w :=
 AnyF.slices_SortFunc_none {Tryz.srtF with} p cap a w
end Go.Proofs
namespace Go.Proofs.YtajkbcmleihaoaaGreatDoor.Av
open Go Go.Sort Go.RowKit
variable {L:List Blk}{K:aeX}
set_option maxHeartbeats 8000000
set_option maxRecDepth 100000
theorem Rel.putG{α:Type}[Inhabited α]{enc:α->Value}{f:α->AV}{w0:World}{S0:SB}{E:Env}{L:List Blk}{w:World}(h:Rel w0 S0 E L w)(y:∀x,VR E (f x) (enc x)){i:Nat}{n:List AV}{d:List α}{c:Loc}(l:L[i]?=some (.cells n))(g:E.loc i=some c)(hd:d.length=n.length)(q:Nat):
  Rel w0 S0 E (L.set i (.cells (d.map f))) (putRow enc (Sort.ahead w q) c.blk c.off d.toArray):=by
 obtain⟨c',cs,ty,fr,m,r,s,h4,u,t⟩:=h.blk i _ l;rw[g]at m;cases m;have p:(putRow enc (Sort.ahead w q) c.blk c.off d.toArray).heap[c.blk]?=some (.cells (putCells enc c.off d.toArray cs) ty fr):=by simp[putRow,mapBlock,Sort.ahead,agK,r,onCells]
 refine h.turn (k':=.cells (d.map f)) l rfl g ah4 (λb o=>?_) rfl rfl rfl ⟨c,_,ty,fr,g,p,by simp[putCells,s],?_,λj a v=>?_,t⟩ (λ_ _ e=>by cases e);have:c.blk≠b:=λe=>o e.symm
 simp[putRow,mapBlock,Sort.ahead,agK,this];simp[*];have A:j<d.length:=by grind
 have k:c.off+j<cs.size:=ah3;have z:(putCells enc c.off d.toArray cs)[c.off+j]?=some (if c.off<=c.off+j/\c.off+j<c.off+d.length then enc (d.toArray[c.off+j-c.off]!)else cs[c.off+j]):=by simp[putCells,k]
 grind
theorem U8{α:Type}[Inhabited α]{enc:α->Value}{f:α->AV}{w0:World}{S0:SB}{E:Env}{L:List Blk}{w:World}(h:Rel w0 S0 E L w)(n:∀x v,VR E (f x) v->v=enc x){i:Nat}{d:List α}{c:Loc}(k:L[i]?=some (.cells (d.map f)))(m:E.loc i=some c):
  Holds enc w c.blk c.off d.toArray/\c.blk<w.heap.size:=by
 obtain⟨c',cs,ty,fr,g,b,r,h4,l,p⟩:=h.blk i _ k;rw[m]at g;cases g;refine⟨λj o=>?_,(afJ.1 b).1⟩;have a:j<d.length:=by simpa using o
 obtain⟨v,g1,e⟩:=l j (f d[j]) (by simp[a]);have e:=n _ _ e;subst e;refine⟨by simp[World.cell?,b,g1,a],?_⟩;have q:=p (c.off+j) ah3 (by simp only[ae6]at h4;omega);simp only[World.frozen?,b];simp_all
theorem abd{α:Type}[Inhabited α]{enc:α->Value}{w:World}{blk off n:Nat}{d:Array α}{os:Array Obj}{b:Nat}(c:b≠blk)(a:b<w.heap.size):(sortWorld enc w blk off n d os).heap[b]?=w.heap[b]?:=by
 have:blk≠b:=λe=>c e.symm
 unfold sortWorld grow;rw[ahw (by simpa[putRow,mapBlock,Sort.ahead]using a)];simp[putRow,mapBlock,Sort.ahead,agK,this]
theorem iS{w w':World}{b o:Nat}(h:w'.heap[b]?=w.heap[b]?):w'.cell? ⟨b,o,none⟩=w.cell? ⟨b,o,none⟩:=by simp only[World.cell?,h]
theorem Rel.at{w0:World}{S0:SB}{E:Env}{L:List Blk}{w:World}(h:Rel w0 S0 E L w){i j:Nat}{l:List AV}{a:AV}(d:L[i]?=some (.cells l))(k:l[j]?=some a):∃c v,E.loc i=some c/\w.cell? ⟨c.blk,c.off+j,none⟩=some v/\VR E a v/\c.blk<w.heap.size:=by obtain⟨c,cs,ty,fr,g,b,m,h4,e,n⟩:=h.blk i _ d;obtain⟨v,g1,f⟩:=e j a k;exact⟨c,v,g,by simp[World.cell?,b,g1],f,(afJ.1 b).1⟩
theorem Th{E:Env}:∀(p:Pth) (b o:Nat),VRC E (ay p) b o->∀j,j<p.length->E.mem b (o+j)=some (.string ⟨⟨p.getD j []⟩⟩)
 |[],_,_,_,j,hj=>absurd hj (Nat.not_lt_zero _)
 | s::p,b,o,h,j,hj=>by
   obtain⟨⟨x,c,rfl⟩,a⟩:=h;cases j with
   |zero=>simpa using c
   | succ j =>
     have:=Th p b (o+1) a j (by simpa using hj)
     grind
section
variable {suf:List Rdn}{last:Int}{l:List aw}{w0:World}{S0:SB}{E:Env}{L:List Blk}{w:World}{iv mn mi:Nat}{nb bn:Int->Nat}{ck ci:Nat}{rs:List TKy}
theorem aR.path(r:Rel w0 S0 E L w)(k:aR L iv mn mi nb bn ck ci rs suf last l){x:aw}(m:x∈l)(q:x.nm≠[]):
  ∃c a d ca,E.loc (nb x.id)=some c/\c.blk<w.heap.size/\w.cell? ⟨c.blk,c.off+1,none⟩=some (.slice (some ⟨a,d,none⟩) (pth x).length ca)/\∀j,j<(pth x).length->E.mem a (d+j)=some (.string ⟨⟨(pth x).getD j []⟩⟩):=by
 obtain⟨c,v,h,f,n,h4⟩:=r.at (k.nd x m) (j:=1) rfl;obtain⟨p,c',rfl,_,_,e⟩:=n;have g:(pth x).length=x.nm.length:=by simp[pth,bA]
 rcases e with⟨s,_⟩|⟨b,o,rfl,i⟩;simp_all;exact⟨c,b,o,c',h,h4,by rw[g];exact f,Th _ _ _ i⟩
theorem aR.lookup(A:Rel w0 S0 E L w)(p:aR L iv mn mi nb bn ck ci rs suf last l){d:Loc}(g:E.loc mn=some d){x:aw}(z:TOk suf last l)(D:x∈l){c:Loc}(f:E.loc (nb x.id)=some c)(W:World)(v:W.heap[d.blk]?=w.heap[d.blk]?):
  (Instr.lookup 90 (.map (some d.blk)) (.int .i64 x.id) false).run Tryz.prog W=.ok (.pointer (some ⟨c.blk,c.off,none⟩)) W:=by
 obtain⟨c',h,o,B,G⟩:=A.blk mn _ p.n;rw[g]at o;cases o;have hd:Tryz.prog.underlying 90=some (.map 3 96):=ah5;have a:fH Tryz.prog 3=some .int:=ah5;have s:aU .int (.int .i64 x.id)=true:=rfl;have m:VR E (.int .i64 x.id) (.int .i64 x.id):=by simp[VR]
 have i:∀e,(Instr.checkKey e 10000 3 (.int .i64 x.id)).run Tryz.prog W=.ok () W:=λe=>mC a s m e
 have u:(getObj d.blk).run Tryz.prog W=.ok (.map h ck) W:=by simp[getObj,Sem.run,v,B]
 rcases p.node x.id with⟨j,_⟩|⟨y,n,j,H,F,C,_⟩;rw[z.ent D]at j;cases j;obtain⟨e,q,b,k,J,g3,g4,_⟩:=yJ a s m G C W;obtain⟨I,r,t⟩:=g4;rw[f]at r;cases r;simp[Instr.lookup,run_underlying hd,u,i,k,t]
end
abbrev oj(m:List aw):List AV:=m.map λx=>.int .i64 x.id
abbrev InL(l:List aw):={x:aw // x∈l}
theorem abg{suf:List Rdn}{last:Int}{l:List aw}(G:TOk suf last l){m:List aw}(hm:∀x∈m,x∈l)(W:m≠[])(hn:m.length<=1100000){L:List Blk}{iv mn mi:Nat}{nb bn:Int->Nat}{ck ci:Nat}{rs:List TKy}(z:aR L iv mn mi nb bn ck ci rs suf last l){i bx:Nat}{cp:Option Nat}(D:L[i]?=some (.cells (oj m)))(P:L[bx]?=some (.cells [.ptr iv 0])){K:aeX}(h:K (.tup []) (L.set i (.cells (oj (m.mergeSort leE))))):
  aeW 72 [.lsl i 0 m.length cp 1,.func 73 [.ptr bx 0]] L K:=λw0 S0 E w vs o M=>by
 simp only[VRL,VR]at M;obtain⟨_,_,rfl,⟨c,rc,d,t,rfl,hd,a8,_,_⟩,_,_,rfl,⟨_,rfl,_,_,rfl,⟨cb,J,rfl⟩,rfl⟩,rfl⟩:=M;have N:0<m.length:=afP.2 W;have a5:d=c.off:=by have:=hd ah3;omega
 subst a5;obtain⟨x0,a4⟩:=List.exists_mem_of_ne_nil _ W;have V:∀x∈l,x.nm≠[]:=λx I e=>G.inv.ne (cH I) (by rw[e];rfl)
 haveI:Inhabited (InL l):=⟨⟨x0,hm x0 a4⟩⟩
 obtain⟨p,rfl⟩:∃p:List (InL l),m=p.map (·.1):=⟨m.attach.map λx=>⟨x.1,hm x.1 x.2⟩,ah4⟩;obtain⟨f,hf⟩:∃f:(InL l)->AV,f=λx=>.int .i64 x.1.id:=⟨_,rfl⟩
 obtain⟨enc,g⟩:∃enc:(InL l)->Value,enc=λx=>.int .i64 x.1.id:=⟨_,rfl⟩
 have e1:∀s:List (InL l),oj (s.map (·.1))=s.map f:=λs=>by rw[hf];exact afj
 rw[e1]at D;have an:∀x v,VR E (f x) v->v=enc x:=λx v M=>by rw[hf]at M;rw[g];simpa[VR]using M
 have ab:∀x,VR E (f x) (enc x):=λx=>by rw[hf,g];simp[VR]
 obtain⟨hH,al⟩:=U8 o an D t;obtain⟨c1,v1,Y,b1,b2,b3⟩:=o.at P (j:=0) rfl;rw[J]at Y;cases Y;simp only[VR]at b2;obtain⟨c2,U,rfl⟩:=b2;obtain⟨a7,v2,X,d1,d2,d3⟩:=o.at z.v (j:=1) rfl;rw[U]at X;cases X;simp only[VR]at d2;obtain⟨c3,u,rfl⟩:=d2;have O:c3.blk<w.heap.size:=by obtain⟨c',a9,g1,g2,_⟩:=o.blk mn _ z.n;rw[u]at g1;cases g1;exact(afJ.1 g2).1
 obtain⟨y0,ys,ai⟩:∃y ys,p=y::ys:=by
  cases p with
  |nil=>simp at N
  |cons y ys=>exact⟨y,ys,rfl⟩
 have Z:∀(j:Nat) (k:Blk) (c':Loc),L[j]?=some k->k.live=true->E.loc j=some c'->k≠.cells (p.map f)->c'.blk≠c.blk:=λj k c' B hl av hk e=>by have:=o.inj j i k _ c' c B hl D rfl av t e;subst this;rw[B]at D;exact hk (Option.some.inj D)
 have F:∀a R,(∀n,a≠.int .i64 n)->Blk.cells (a::R)≠.cells (p.map f):=λa R ha e=>by rw[ai,hf]at e;simp only[afe,Blk.cells.injEq,ahG]at e;exact ha _ e.1
 have a1:=Z bx _ cb P rfl J (F _ _ ah4);have a2:=Z iv _ c2 z.v rfl U (F _ _ (by intro n;simp[dnA]));have a3:=Z mn _ c3 z.n rfl u ah4;have T:=(o.own i _ c D rfl t).1;have r:∀x∈l,∃A H po ca,E.loc (nb x.id)=some A/\A.blk<w.heap.size/\A.blk≠c.blk/\H<w.heap.size/\H≠c.blk/\w.cell? ⟨A.blk,A.off+1,none⟩=some (.slice (some ⟨H,po,none⟩) (pth x).length ca)/\∀j,j<(pth x).length->w.cell? ⟨H,po+j,none⟩=some (.string ⟨⟨(pth x).getD j []⟩⟩):=λx I=>by
  obtain⟨A,H,po,ca,g1,g2,g3,g4⟩:=z.path o I (V x I);have a6:0<(pth x).length:=by have:=afP.2 (V x I);simp only[pth,agc,bA];exact this
  have g5:=g4 0 a6;exact⟨A,H,po,ca,g1,g2,Z (nb x.id) _ A (z.nd x I) rfl g1 (F _ _ (by intro n;simp[dnA])),o.mem_lt g5,(λe=>by rw[e,T]at g5;cases g5),g3,λj B=>o.mem _ _ _ (g4 j B)⟩
 have Q:CmpLays1 Tryz.prog 73 #[.pointer (some ⟨cb.blk,cb.off+0,none⟩)] enc (λx y=>cpP (pth x.1) (pth y.1)) c.blk c.off p.toArray.size w:=λn os dk hs x y=>by
  obtain⟨cx,px,qx,kx,x1,x2,x3,x4,x5,x6,x7⟩:=r x.1 x.2;obtain⟨cy,py,qy,ky,y1,y2,y3,y4,y5,y6,y7⟩:=r y.1 y.2;have a0:(pth x.1).length<=1100000:=(by have:=(G.ok x.1 x.2).len;simp only[pth,agc,bA];omega);have ad:(pth y.1).length<=1100000:=(by have:=(G.ok y.1 y.2).len;simp only[pth,agc,bA];omega);have C:∀b,b≠c.blk->b<w.heap.size->(sortWorld enc w c.blk c.off n dk os).heap[b]?=w.heap[b]?:=λb hb hl=>abd hb hl
  have:=Tryz.scp_c (pth x.1) (pth y.1) x.1.id y.1.id cb.blk (cb.off+0) c2.blk (c2.off+0) c3.blk cx.blk cx.off px qx kx cy.blk cy.off py qy ky (sortWorld enc w c.blk c.off n dk os) a0 ad
   (by rw[iS (C _ a1 b3)];exact b1) (by rw[iS (C _ a2 d3)];exact d1)
   (λq=>z.lookup o u G x.2 x1 _ (C _ a3 O)) (λq=>z.lookup o u G y.2 y1 _ (C _ a3 O))
   (by rw[iS (C _ x3 x2)];exact x6) (by rw[iS (C _ y3 y2)];exact y6)
   (λj B=>by rw[iS (C _ x5 x4)];exact x7 j B) (λj B=>by rw[iS (C _ y5 y4)];exact y7 j B)
  rw[g]at this⊢;exact this.mono λe w' ⟨k1,q,k2⟩=>⟨k1,q,#[],by rw[k2,grow_empty]⟩
 have hO:SWO (ltOf (λx y:(InL l)=>cpP (pth x.1) (pth y.1))):=abB (λx:(InL l)=>pth x.1);have S:=Tryz.sortF enc (λx=>by rw[g];rfl) (λx y=>cpP (pth x.1) (pth y.1)) hO 73 #[.pointer (some ⟨cb.blk,cb.off+0,none⟩)] c.blk c.off rc p.toArray w (enters_of Tryz.func73 ah5 rfl) Q hH al (by simp only[ae6]at hn;simp only[List.size_toArray];omega) (λx y Y X=>by have:=Sn (a:=pth x.1) (b:=pth y.1) Y X;exact Subtype.ext (G.byN x.2 y.2 (Pe this)))
 rw[ae6]at *;refine .inl ⟨jJ Tryz.func72 rfl ah5 _ _,S.mono ?_⟩;rintro e w' ⟨rfl,q,os,rfl⟩;have hp:(p.mergeSort λx y => !(ltOf (λx y:(InL l)=>cpP (pth x.1) (pth y.1))) y x).length=(p.map f).length:=by rw[ahS,ae6]
 have r1:=o.putG ab D t hp q;have e3:oj ((p.map (·.1)).mergeSort leE)=(p.mergeSort λx y => !(ltOf (λx y:(InL l)=>cpP (pth x.1) (pth y.1))) y x).map f:=by rw[<- e1];congr 1;refine(List.map_mergeSort λa _ b _=>?_).symm;rfl
 rw[e3]at h;refine⟨E,_,_,_,rfl,.refl E,h,by simp[VR,VRL],r1.grown ?_⟩;exact⟨λb hb=>ahw hb,by simp[sortWorld,grow,putRow,mapBlock,Sort.ahead],rfl,rfl,rfl⟩
theorem YW{cap:Option Nat}{d:AV}(h:K (.tup []) L):aeW 72 [.sl [] 0 cap,d] L K :=
 iN Tryz.func72 rfl ah5 (λw0 S0 E w vs g f=>by obtain⟨_,_,rfl,⟨p,c,rfl,_⟩,x,_,rfl,_,rfl⟩:=f;exact(Tryz.sortF0 p c x w).mono λe w' ⟨a,b⟩=>⟨_,a,by simp[VR,VRL],by subst b;exact QZ.refl _⟩) h
end Go.Proofs.YtajkbcmleihaoaaGreatDoor.Av
set_option maxRecDepth 100000
namespace Go.Proofs.YtajkbcmleihaoaaGreatDoor.Av
open Go
variable {d:List Rdn}{cap:Option Nat}{id:Int}{seen:List Nat}{ps:List aw}{rows:List AV}{i j n:Nat}{p:Pth}
def eO:LSO:=[Aq 2]
def eN:LSO:=[Aa 3 0,o1 4 (.slnil false (tm 3))]
def eM:LSO:=[Aq 2]
def eK:LSO:=[o1 5 (.bslice false 1 0 [] []),Aa 6 0,BP 7 5 6,Aa 2 7]
def bc:aI:=⟨8,(ahW eO [] (.seq (ahW eN Cd (ahY 4 (.sreg eM []))) (ahW eK Cf .ret))),[(.tmp 2)]⟩
attribute [push_cast] eO eN eM eK
theorem eE:aK Tryz.prog (λr i=>if r=3/\i=2 then 2 else 1) 93=some bc.raw:=ah5
attribute [push_cast] bc
variable {L:List Blk}{K:aeX}
set_option maxHeartbeats 8000000
set_option maxRecDepth 100000
theorem WL{e z:List Rdn}{f:Option Nat}{ne nd:Nat}(t:e++d=z)(y:ne=e.length)(s:nd=d.length)(B:z.length<=1100000)(hr:∀r∈z,r.length<=1100000)(h:K (dnA z) L):
  aeW 50 [.sl (d.map aH) nd cap,.sl (e.map aH) ne f] L K:=by
 subst y s;replace h:=hid h;have u:=hid (λk=>@yW z k);replace hr:=hid hr;have kk1:Hid (Ctr Tryz.prog 80 [.sl [.sl (e.map aH) e.length f,.sl (d.map aH) d.length cap] 2 (some 2)] (.sl (z.map aH) z.length none)):=@hid _ (by
  intro L K q;refine cL ?_;simp only[AV.frzL,AV.frz,ce];have:=@RZ [e.map aH,d.map aH] none ah4 (by simp only[ahE,ahF,afq,<- afk,t,ae6];exact B) (λl w=>by rw[afd];intro a A;simp only[afp,af6,or_false]at w;rcases w with rfl|rfl<;>(obtain⟨r,_,rfl⟩:=ae1.1 A;rfl)) (λp=>by simp only[ahE,ahF,afq,<- afk];exact fb p _) L K
  simp only[ahE,ahF,afq,<- afk,t,afe,afQ,ae6,afF,afg,Q5]at this;exact this q)
 clear t;refine aeV Mn ?_;refine cG (l:=[]) (n:=0) 5 1 rfl (afD 1).symm ?_;refine ao (λm T' L'=>∃(k:Nat) (C:List AV) (X:List Blk),m=z.length-k/\k<=z.length/\Hid (C=(z.take k).map aH)/\T'=[(13,.int .i64 (k:Int)),(12,.int .i64 z.length),(11,.sl (z.map aH) z.length none),(5,.gsl C k L.length 1)]/\L'=L++(.spare k 1::X)) ah7 ⟨0,[],[],rfl,ae5 _,hid rfl,rfl,ah4⟩ ?_;rintro _ _ _ ⟨k,C,X,rfl,E,j,rfl,rfl⟩;by_cases b:k<z.length;have g1:(k:Int)<(z.length:Int):=ah3;have H:=aeU k ah3;have D:=u.o k b;have G:k<(z.map aH).length:=by simpa using b
 obtain⟨r,c⟩:=aeS (z.getD k []);have x:=hr.o r (by rw[<- c];simp[b]);have g:(z.take (k+1)).map aH=C++[.sl (bQ r) r.length none]:=by rw[j.o,afs b,afk,show z[k]=r by rw[<- c];simp[b]];rfl
 rw[c]at D;have F:=yQ r;have I:=iW r;replace g:=hid g;clear c j;refine wk ?_;exact ah8 ah3 ah6 ⟨k+1,_,_,rfl,b,hid g.o.symm,rfl,rfl⟩;have v:k=z.length:=ah3;subst v;have g1:¬(z.length:Int)<(z.length:Int):=ah3;have i:=j.o;rw[afo]at i;subst i;clear j;refine wk ?_;refine aB ?_;simp only[AV.frz,ce];exact af (by simp only[AV.refs,fb]) h.o
theorem aal{xs:List (List UInt8)}(e:xs.length<=1100000)(h:K (.sl (xs.map AV.str) xs.length none) L):
  aeW 93 [.sl (xs.map AV.str) xs.length cap] L K:=by
 replace h:=hid h;by_cases b:xs=[]
 .subst b;refine aa eE (by simp[bc]) ?_;simp only[bc,am]
  repeat' first
   |refine lF ?_
   | (first|refine jO ah5 ?_|refine fW ah5 ?_|refine fZ ?_|refine Eb ?_|refine oA (fun _=>?_)|refine ed ?_|refine jQ ?_)
     refine sm ?_
   | (first|refine jK ah5 ?_|refine iX ?_|refine fY ?_|refine jP ?_|refine oF (d9 ?_))
     refine sl ?_
   |exact oB
   |first|apply oC|apply jL|apply oD|apply jM|apply oE|apply jN
   |refine gg ?_
   |refine fX ?_
   |first|refine gc rfl ?_|refine gf rfl ?_|refine cO rfl ?_ ?_|refine iM rfl (λ_=>?_) (λ_=>?_)|refine iL rfl (λ_=>?_) (λ_=>?_)
   |((first|refine cN (λ_=>?_) (λ_=>?_)|refine dZ (λ_=>?_) (λ_=>?_))<;>try refine sm ?_)
   |refine And.intro trivial ?_
   |refine And.intro ah3 ?_
   |refine eZ rfl (λ_=>?_) (λ_=>?_)
   |refine And.intro ?_ ?_
  all_goals
   refine aB ?_;rw[show(AV.sl [] 0 (some 0)).frz=.sl (([]:List (List UInt8)).map AV.str) ([]:List (List UInt8)).length none from rfl];exact ag h.o
 have g:¬xs.length=0:=λc=>b (afK.1 c)
 have f:(xs.map AV.str).all AV.one=true:=by rw[afd];intro a d;obtain⟨r,_,rfl⟩:=ae1.1 d;rfl
 refine aeV eE ?_;refine GX (i:=L.length) (l:=xs.map AV.str) ah4 ?_;rw[show(AV.lsl L.length 0 xs.length none 1).snap L.length (xs.map AV.str)=.sl (xs.map AV.str) xs.length none from by simp[AV.snap,afu],show(L++[Blk.cells (xs.map AV.str)]).set L.length .dead=L++[.dead]by simp];exact af (by simp only[AV.refs];exact j6 _ _) h.o
theorem O9{l:List Atr}(w:l.length<=1100000)(p:∀a∈l,a.2.length<=1100000)(h:K (.sl (bj l) l.length none) L):
  aeW 68 [.sl (bj l) l.length cap] L K:=by
 replace h:=hid h;have s:Hid (∀{xs:List (List UInt8)}{c:Option Nat}(r:xs.length<=1100000){L:List Blk}{K:aeX},K (.sl (xs.map AV.str) xs.length none) L->aeW 93 [.sl (xs.map AV.str) xs.length c] L K):=@hid _ (by intro xs c r L K q;exact aal r q);refine aeV QH ?_;refine cG (l:=[]) (n:=0) 3 2 rfl (afD 2).symm ?_;refine ao (λm T' L'=>∃(k:Nat) (C:List AV) (X:List Blk),m=l.length-k/\k<=l.length/\C=bj (l.take k)/\T'=[(8,.int .i64 (k:Int)),(7,.int .i64 l.length),(6,.sl (bj l) l.length cap),(3,.gsl C k L.length 2)]/\L'=L++(.spare k 2::X)) ah7 ⟨0,[],[],rfl,ae5 _,rfl,rfl,rfl⟩ ?_;rintro _ _ _ ⟨k,C,X,rfl,u,e,rfl,rfl⟩;by_cases b:k<l.length;have g1:(k:Int)<(l.length:Int):=ah3;have x:=aeU k ah3;have j:=zx b;have v:k*2+2<=(bj l).length:=by rw[GS];omega
 obtain⟨⟨nm,vs⟩,g⟩:∃a,l.getD k ([],[])=a:=⟨_,rfl⟩;have d:bj (l.take (k+1))=bj (l.take k)++[.str nm,.sl (vs.map AV.str) vs.length none]:=by rw[afs b,QR,show l[k]=(nm,vs)by rw[<- g];simp[b]];rfl
 have f:=p (nm,vs) (by rw[<- g];simp[b]);simp only at f;rw[g]at j;simp only[atA]at j;have t:AV.frzL (vs.map AV.str)=vs.map AV.str:=jF vs;replace d:=hid d;replace e:=hid e;have kk1:Hid (∀{c:Option Nat}{L:List Blk}{K:aeX},K (.sl (vs.map AV.str) vs.length none) L->aeW 93 [.sl (vs.map AV.str) vs.length c] L K):=@hid _ (by intro c L K q;exact s.o f q);clear g p s;refine wk ?_;exact ah8 ah3 ah6 ⟨k+1,_,_,rfl,b,by rw[d.o,e.o],rfl,rfl⟩;have i:k=l.length:=ah3;subst i;have g1:¬(l.length:Int)<(l.length:Int):=ah3;rw[afo]at e;subst e;have t:=oe l;refine wk ?_;refine aB ?_;simp only[AV.frz,t];exact af (by simp only[AV.refs,qU]) h.o
theorem Tj{L:List Blk}{iv mn mi:Nat}{nb bn:Int->Nat}{ck ci:Nat}{rs:List TKy}{suf:List Rdn}{last:Int}{l:List aw}(p:TOk suf last l)(k:∀x∈l,x.av.length<=1100000/\∀a∈x.av,a.2.length<=1100000)(f:aR L iv mn mi nb bn ck ci rs suf last l){K:aeX}(s:Ef l id=none->K (.tup [dnA [],atR []]) L)(h:∀x,Ef l id=some x->K (.tup [dnA x.nm,atR x.av]) L):
  aeW 34 [.ptr iv 0,.int .i64 id] L K:=by
 have A:=f.v;have B:=f.n;have y:aU .int (.int .i64 id)=true:=rfl;rcases f.node id with⟨g,z⟩|⟨x,n,g,u,t,z,i⟩;replace h:=hid (s g);clear f g s k p;refine aeV nY ?_;refine aB ?_;rw[show(AV.tup [.sl [] 0 (some 0),.sl [] 0 (some 0)]).frz=.tup [dnA [],atR []]from rfl];exact ag h.o;replace h:=hid (h x g);unfold lz at i;have d:=(p.ok x u).m.b;have e:=k x u;obtain⟨C,j,r⟩:=x;simp only at i d e h;have kk1:Hid (∀{c:Option Nat}{L:List Blk}{K:aeX},K (dnA j) L->aeW 50 [.sl (j.map aH) j.length none,.sl [] 0 c] L K):=@hid _ (by intro c L K q;exact MP d.1 d.2 q);have kk2:Hid (Ctr Tryz.prog 68 [.sl (bj r) r.length none] (atR r)):=@hid _ (by intro L K q;exact O9 e.1 e.2 q);obtain⟨q,w⟩:=aeS (aO (cu l) (NK j));rw[w]at i;unfold atR at i kk2 h;clear f g s k p u t w d e;refine aeV nY ?_;exact ag h.o
theorem WH{nb bn:Int->Nat}:∀{l:List aw}{x:aw},(l.map λx=>bn x.id).Nodup->x∈l->(l.map (eY nb bn)).find? (λe=>Nat.beq e.2.2 (bn x.id))=some (eY nb bn x)
 |[],x,_,h=>by cases h
 | y::l,x,hn,h=>by
   rw[afe,afY]at hn;rcases afp.1 h with h|h
   .subst h;simp[eY]
   .have hne:bn y.id≠bn x.id:=λe=>hn.1 (ae1.2 ⟨x,h,e.symm⟩)
    have a:Nat.beq (bn y.id) (bn x.id)=false:=by
     cases hh:Nat.beq (bn y.id) (bn x.id)with
     |false=>rfl
     |true=>exact absurd (ahJ hh) hne
    simp only[afe,af5];rw[show Nat.beq (eY nb bn y).2.2 (bn x.id)=false from a];exact WH hn.2 h
theorem aeL{nb bn:Int->Nat}{l:List aw}{x:aw}{ck:Nat}(b:(l.map λx=>bn x.id).Nodup)(a:x∈l):mat (l.map (eY nb bn)) ck (seen++[bn x.id]) ck=some (eY nb bn x):=by simp only[mat,List.getLast?_append,List.getLast?_singleton,Option.some_or,if_true];exact WH b a
theorem Zx{β:Type}:∀(ps l:List β),ps.Nodup->(∀x∈ps,x∈l)->ps.length<=l.length
 |[],l,_,_=>ae5 _
 | x::ps,l,hn,hs=>by
   obtain⟨e,c⟩:=afY.1 hn;obtain⟨a,b,rfl⟩:=List.append_of_mem (hs x ah4);have:=Zx ps (a++b) c λy d=>by
    have:=hs y (by simp[d]);rcases ae2.1 this with h|h
    .exact af9 _ h
    .rcases afp.1 h with h|h
     .rw[h]at d;exact absurd d e
     .exact agx _ h
   simp only[afc,afg]at this⊢;omega
structure Q0(bn:Int->Nat)(l:List aw)(ps:List aw)(seen:List Nat):Prop where
 sub:∀x∈ps,x∈l
 nd:ps.Nodup
 eq:seen=ps.map λx=>bn x.id
theorem Q0.nil{bn:Int->Nat}{l:List aw}:Q0 bn l [] []:=⟨λ_ h=>absurd h af6,agX,rfl⟩
theorem Q0.next{bn:Int->Nat}{l:List aw}(h:Q0 bn l ps seen){x:aw}(f:x∈l)(d:seen.contains (bn x.id)=false):Q0 bn l (ps++[x]) (seen++[bn x.id]):=by
 refine⟨λy c=>?_,?_,by rw[h.eq];simp⟩;rcases ae2.1 c with c|c;exact h.sub y c;rw[afl.1 c];exact f;rw[agq];refine⟨h.nd,ah4,λa i b g e=>?_⟩;rw[afl.1 g]at e;have:bn x.id∈seen:=by rw[h.eq,<- e];exact ae1.2 ⟨a,i,rfl⟩
 rw[afX]at d;simp[this]at d
theorem Q0.all{bn:Int->Nat}{l:List aw}(h:Q0 bn l ps seen)(f:l.Nodup)(c:(l.map λx=>bn x.id).Nodup)(d:∀x∈l,seen.contains (bn x.id)=true):ps.Perm l:=by
 refine(List.perm_ext_iff_of_nodup h.nd f).2 λx=>⟨h.sub x,λa=>?_⟩
 have:=d x a;rw[afX,decide_eq_true_eq,h.eq]at this;obtain⟨y,b,e⟩:=ae1.1 this;rw[<- bR c (h.sub y b) a e];exact b
theorem Q0.len{bn:Int->Nat}{l:List aw}(h:Q0 bn l ps seen):ps.length<=l.length:=Zx ps l h.nd h.sub
theorem aeJ{bn:Int->Nat}{l:List aw}{x:aw}(b:x∈l)(a:seen.contains (bn x.id)=false):(l.filter λr => !(seen++[bn x.id]).contains (bn r.id)).length<(l.filter λr => !seen.contains (bn r.id)).length:=by
 have e:(l.filter λr => !(seen++[bn x.id]).contains (bn r.id))=(l.filter λr => !seen.contains (bn r.id)).filter (λr=>decide (bn r.id≠bn x.id)):=by
  rw[List.filter_filter];refine ahC λr _=>?_
  by_cases h:bn r.id=bn x.id<;>simp[h]
 rw[e];refine List.length_filter_lt_length_iff_exists.2 ⟨x,afB.2 ⟨b,by rw[a];rfl⟩,ah4⟩
theorem TOk.nodup{suf:List Rdn}{last:Int}{l:List aw}(h:TOk suf last l):l.Nodup:=by have a:=h.inv.ids;unfold cu at a;rw[afj]at a;exact yZ a
theorem Tz(q:Nat->Bool):∀l:List aw,AV.refsL q (oj l)=true
 |[]=>rfl
 |x::l=>by show(AV.refs q _&&AV.refsL q _)=true;rw[Tz q l];rfl
theorem J6{suf:List Rdn}{last:Int}{l:List aw}(ht:TOk suf last l)(b0:l.length<=1100000){L:List Blk}{iv mn mi:Nat}{nb bn:Int->Nat}{ck ci:Nat}{rs:List TKy}(I:aR L iv mn mi nb bn ck ci rs suf last l){s:Int}{K:aeX}(h:K (.sl ((scT l id s).map (AV.int .i64)) (scT l id s).length none) L):
  aeW 32 [.ptr iv 0,.int .i64 id,.int .i64 s] L K:=by
 have w:=I.v;have hn:=I.n;have a_:iv<L.length:=(aeY.1 w).1;have a8:mn<L.length:=(aeY.1 hn).1;have av:∀X:List Blk,(L++X)[iv]?=some (.cells [dnA suf,.lmap mn,.lmap mi,.int .i64 last]):=λX=>by rw[ae3 a_];exact w
 have an:∀X:List Blk,(L++X)[mn]?=some (.map (l.map (eY nb bn)) ck):=λX=>by rw[ae3 a8];exact hn
 have b6:aU .int (.int .i64 id)=true:=rfl;unfold scT at h;rcases I.node id with⟨e1,e2⟩|⟨a,j,e1,ha,bx,e2,e3⟩;rw[e1]at h;replace h:=hid h;clear I e1 w hn;refine aeV eB ?_;refine aB ?_;rw[show(AV.sl [] 0 (some 0)).frz=.sl (([]:List Int).map (AV.int .i64)) ([]:List Int).length none from rfl];exact af rfl h.o
 .rw[e1]at h;simp only at h;have b3:nb id<L.length:=(aeY.1 e3).1;unfold lz at e3;have ad:∀X:List Blk,(L++X)[nb id]?=some (.cells [dnA a.nm,.sl (ay (pth a)) a.nm.length none,atR a.av,.int .i64 (aO (cu l) (NK a.nm):Nat)]):=λX=>by rw[ae3 b3];exact e3
  by_cases hs:s<0\/2<s;rw[if_pos hs]at h;replace h:=hid h;clear I e1 w hn e3;by_cases c1:s<0;refine aeV eB ?_;refine aB ?_;rw[show(AV.sl [] 0 (some 0)).frz=.sl (([]:List Int).map (AV.int .i64)) ([]:List Int).length none from rfl];exact af rfl h.o;have c2:2<s:=ah3;have c3:s>2:=c2;refine aeV eB ?_;refine aB ?_;rw[show(AV.sl [] 0 (some 0)).frz=.sl (([]:List Int).map (AV.int .i64)) ([]:List Int).length none from rfl];exact af rfl h.o
  .rw[if_neg hs]at h;have c1:¬s<0:=ah3;have c2:¬2<s:=ah3;have c3:¬s>2:=c2;replace h:=hid h;replace I:=hid I;replace ht:=hid ht;clear w hn e3 hs;refine aeV eB ?_;refine ao (λn T' L'=>∃(seen:List Nat) (ps:List aw) (v:AV) (Z:List Blk),n=(l.filter λr => !seen.contains (bn r.id)).length/\Hid (Q0 bn l ps seen)/\Hid ((ps.filter (fA a s)=[]/\v=.sl [] 0 (some 0))\/∃m,ps.filter (fA a s)≠[]/\v=.lsl (L.length+2+m) 0 (ps.filter (fA a s)).length none 1/\Z[m]?=some (.cells (oj (ps.filter (fA a s)))))/\T'=[(44,.ptr (L.length+1) 0),(8,v),(7,.sl (ay (pth a)) a.nm.length none),(3,.ptr L.length 0),(0,.ptr iv 0),(1,.int .i64 id),(2,.int .i64 s)]/\L'=L++([.cells [.ptr iv 0],.miter (some mn) ck seen ck]++Z)) ah7 ⟨[],[],_,[],rfl,hid Q0.nil,hid (.inl ⟨rfl,rfl⟩),rfl,rfl⟩ ?_;rintro _ _ _ ⟨seen,ps,v,Z,rfl,F,w,rfl,rfl⟩;have i1:∀(a b:Blk) (Z:List Blk),(L++([a,b]++Z))[L.length+1]?=some b:=λa b Z=>by rw[aff ah3];simp
   have i3:∀(a b c:Blk) (Z:List Blk),(L++([a,b]++Z)).set (L.length+1) c=L++([a,c]++Z):=λa b c Z=>by rw[afG _ _ ah3,show L.length+1-L.length=1 by omega];rfl
   refine lF ?_;refine W7 (i:=L.length+1) (j:=mn) (es:=l.map (eY nb bn)) ah5 rfl (i1 _ _ _) (an _) (λe he=>?_) (ae0 _) (λai=>?_) (λe he hs=>?_);obtain⟨p,hp,rfl⟩:=ae1.1 he;exact I.o.blt p hp;have Q:=F.o.all ht.o.nodup I.o.bnd λx R=>ai (eY nb bn x) (ae1.2 ⟨x,R,rfl⟩)
   have N:=ht.o.srt a s (Q.filter (fA a s));have y:=afw (ahb (fA a s) ps) F.o.len;have H:∀x∈ps.filter (fA a s),x∈l:=λx R=>F.o.sub x (afB.1 R).1
   obtain⟨z,A⟩:=aeS (ps.filter (fA a s));have bd:=w.o;rw[A]at bd N y H;rw[<- N]at h;replace H:=hid H;replace y:=hid y;clear ai Q N F w A;refine sk ?_;rcases bd with⟨rfl,rfl⟩|⟨m,ab,rfl,J⟩;have kk1:Hid (∀{cap:Option Nat}{fv:AV}{L:List Blk}{K:aeX},K (.tup []) L->aeW 72 [.sl [] 0 cap,fv] L K):=@hid _ (by intro cap fv L K q;exact YW q);clear H y;refine wk ?_;refine aB ?_;have h':=h.o;rw[List.mergeSort_nil]at h';exact af rfl h';have al:∀(b c:Blk),(L++b::c::Z)[L.length+2+m]?=some (.cells (oj z)):=λb c=>by rw[aff ah3,show L.length+2+m-L.length=m+1+1 by omega];simpa using J
   have a9:∀(b c d:Blk),(L++b::c::Z).set (L.length+2+m) d=L++b::c::Z.set m d:=λb c d=>by rw[afG _ _ ah3,show L.length+2+m-L.length=m+1+1 by omega];rfl
   have hm:m<Z.length:=(aeY.1 J).1;obtain⟨S,U⟩:=aeS (z.mergeSort leE);have bl:S.length=z.length:=(by rw[<- U,ahS]);have kk1:Hid (∀{K:aeX},K (.tup []) (L ++ .cells [.ptr iv 0] :: .miter (some mn) ck seen ck::Z.set m (.cells (oj S)))->aeW 72 [.lsl (L.length+2+m) 0 z.length none 1,.func 73 [.ptr L.length 0]] (L ++ .cells [.ptr iv 0] :: .miter (some mn) ck seen ck::Z) K):=@hid _ (by intro K q;refine abg ht.o H.o ab (afw y.o b0) (I.o.app _) (al _ _) (by rw[aff (ae0 _)];simp) ?_;rw[a9,U];exact q)
   rw[U]at h;have e4:(S.map λx=>x.id).map (AV.int .i64)=oj S:=(by rw[afj];rfl);rw[e4,ae6]at h;clear H y ab U a9 al J;refine wk ?_;refine GX (i:=L.length+2+m) (l:=oj S) ?_ ?_;rw[aff ah3,show L.length+2+m-L.length=m+1+1 by omega];simp[hm];rw[show(AV.lsl (L.length+2+m) 0 z.length none 1).snap (L.length+2+m) (oj S)=.sl (oj S) S.length none from by simp[AV.snap,<- bl,afu],afG _ _ ah3];refine af ?_ h.o;simp only[AV.refs];exact Tz _ S
   .obtain⟨x,R,rfl⟩:=ae1.1 he;clear he;have a3:seen.contains (bn x.id)=false:=hs;have E:=hid (aeJ R a3);have t:=hid (F.o.next R a3);have bb:=aeL (nb:=nb) (ck:=ck) (seen:=seen) I.o.bnd R;have T:=I.o.nd x R;have bk:nb x.id<L.length:=(aeY.1 T).1;unfold lz at T;have a4:∀X:List Blk,(L++X)[nb x.id]?=some (.cells [dnA x.nm,.sl (ay (pth x)) x.nm.length none,atR x.av,.int .i64 (aO (cu l) (NK x.nm):Nat)]):=λX=>by rw[ae3 bk];exact T
    have f:=ZP ht.o ha R s;have M:(pth x).length=x.nm.length:=(by simp[pth,bA]);have a6:(pth a).length=a.nm.length:=(by simp[pth,bA]);have O:(ps++[x]).filter (fA a s)=ps.filter (fA a s)++(if fA a s x=true then[x]else[]):=by rw[List.filter_append];congr 1;by_cases c:fA a s x=true<;>simp[c]
    have a7:=(ht.o.ok x R).len;have a':=(ht.o.ok a ha).len;have y:=afw (ahb (fA a s) ps) F.o.len;rw[M,a6]at f;simp only[eY]at *;clear hs a3 F;simp only[i3];have w1:IntKind.i64.wrap ((x.nm.length:Int)-(a.nm.length:Int))=(x.nm.length:Int)-(a.nm.length:Int):=ae ah3 ah3;have kE:Hid (∀{ca cb:Option Nat}{L:List Blk}{K:aeX},a.nm.length<=x.nm.length->K (.bool (decide (List.take a.nm.length (pth x)=pth a))) L->aeW 71 [.sl (List.take a.nm.length (ay (pth x))) a.nm.length ca,.sl (ay (pth a)) a.nm.length cb] L K):=@hid _ (by intro ca cb L K b5 q;rw[<- aha];exact aej (a:=(pth x).take a.nm.length) (b:=pth a) (by rw[afZ,M];omega) a6.symm (by rw[afZ,M];omega) q)
    obtain⟨u,hu⟩:=aeS (decide (List.take a.nm.length (pth x)=pth a));rw[hu]at kE f;obtain⟨xi,P⟩:=aeS (x.id);have B:fA a s x=true->(ps++[x]).filter (fA a s)=ps.filter (fA a s)++[x]:=λe=>by rw[O,if_pos e]
    have a2:fA a s x=false->(ps++[x]).filter (fA a s)=ps.filter (fA a s):=λe=>by rw[O,if_neg (by rw[e];decide)];simp
    obtain⟨z,A⟩:=aeS (ps.filter (fA a s));rw[A]at w B a2 y;obtain⟨nx,W⟩:=aeS (x.nm.length);obtain⟨na,V⟩:=aeS (a.nm.length);rw[P]at bb a4;rw[W,V]at kE f w1;rw[W]at a4 a7;rw[V]at ad a';obtain⟨xp,ap⟩:=aeS (ay (pth x));rw[ap]at kE a4;have b4:xp.length=nx:=(by rw[<- ap,ae6,M,W]);have D:fA a s x=false->Hid ((z=[]/\v=.sl [] 0 (some 0))\/∃m,z≠[]/\v=.lsl (L.length+2+m) 0 z.length none 1/\Z[m]?=some (.cells (oj z)))->Hid (((ps++[x]).filter (fA a s)=[]/\v=.sl [] 0 (some 0))\/∃m,(ps++[x]).filter (fA a s)≠[]/\v=.lsl (L.length+2+m) 0 ((ps++[x]).filter (fA a s)).length none 1/\Z[m]?=some (.cells (oj ((ps++[x]).filter (fA a s))))):=λe w=>by rw[a2 e];exact w
    rw[V,P];rw[P]at E t;have g:=λ(e:fA a s x=false)=>D e w
    clear D;replace g:=hid g;replace f:=hid f;have G:=hid (show oj [x]=[.int .i64 xi]from by rw[<- P];rfl);clear O T R a2 M a6 P W V hu ap A ha bx e1;by_cases d1:na<=nx;rotate_left;have g1:¬(0:Int)<=(nx:Int)-(na:Int):=ah3;have g2:¬(nx:Int)-(na:Int)≥0:=g1;have D:=g.o (by rw[f.o,decide_eq_false g1];rfl);clear kE f g w B;refine aib ?_;refine ah8 E.o ah7 ⟨_,ps++[x],_,_,rfl,hid t.o,D.o,rfl,rfl⟩;have kk1:=@hid _ (λ{ca cb:Option Nat}{L:List Blk}{K:aeX}=>kE.o (ca:=ca) (cb:=cb) (L:=L) (K:=K) d1);have g1:(0:Int)<=(nx:Int)-(na:Int):=ah3;have g2:(nx:Int)-(na:Int)≥0:=g1;have g3:(na:Int)<=(nx:Int):=ah3;have f:=f.o;rw[decide_eq_true g1,afU]at f;replace f:=hid f;clear kE;cases u with
    | false =>
      have D:=g.o (by rw[f.o];rfl);clear f g w B;refine aib ?_;refine ah8 E.o ah7 ⟨_,ps++[x],_,_,rfl,hid t.o,D.o,rfl,rfl⟩
    | true =>
      have f:=f.o;rw[afU]at f;replace f:=hid f;by_cases d2:s=2
      .subst d2;have k:=hid (B (by rw[f.o];rfl));clear f g B;rcases w.o with⟨A,rfl⟩|⟨m,ab,rfl,J⟩
       .subst A;clear w;refine aib ?_;refine ah8 E.o ah7 ⟨_,ps++[x],_,Z++[.cells [.int .i64 xi]],rfl,hid t.o,hid (.inr ⟨Z.length,by rw[k.o];simp,?_,by rw[k.o,afH,G.o];simp⟩),rfl,ah4⟩;rw[k.o,show L.length+(Z.length+1+1)=L.length+2+Z.length by omega];rfl
       .have hm:m<Z.length:=(aeY.1 J).1;have a1:∀(a b:Blk),(L++a::b::Z)[L.length+2+m]?=some (.cells (oj z)):=λa b=>by rw[aff ah3,show L.length+2+m-L.length=m+1+1 by omega];simpa using J
        have bs:∀(a b:Blk),(L++a::b::Z).set (L.length+2+m) .dead=L++a::b::Z.set m .dead:=λa b=>by rw[afG _ _ ah3,show L.length+2+m-L.length=m+1+1 by omega];rfl
        obtain⟨C,Y⟩:=aeS (oj z);obtain⟨d,hd⟩:=aeS (z.length);have b2:C.length=d:=(by rw[<- Y,ae6,hd]);have b1:List.take d C=C:=afu ah3;have bo:d<=1100000:=ah3;rw[Y]at a1;rw[hd];have a0:=hid Y;have a5:=hid hd;clear w J Y hd y;refine aib ?_;refine ah8 E.o ah7 ⟨_,ps++[x],_,Z.set m .dead++[.cells (C++[.int .i64 xi])],rfl,hid t.o,hid (.inr ⟨Z.length,by rw[k.o];simp,?_,by rw[k.o,show oj (z++[x])=oj z++oj [x]from afk,a0.o,G.o,aff ah4];simp⟩),rfl,ah4⟩;rw[k.o,show L.length+(Z.length+1+1)=L.length+2+Z.length by omega,afc,a5.o];rfl
      .by_cases d3:(nx:Int)-(na:Int)=s
       .have k:=hid (B (by rw[f.o];rw[decide_eq_true d3,Bool.or_true]));subst d3;clear f g B;rcases w.o with⟨A,rfl⟩|⟨m,ab,rfl,J⟩
        .subst A;clear w;refine aib ?_;refine ah8 E.o ah7 ⟨_,ps++[x],_,Z++[.cells [.int .i64 xi]],rfl,hid t.o,hid (.inr ⟨Z.length,by rw[k.o];simp,?_,by rw[k.o,afH,G.o];simp⟩),rfl,ah4⟩;rw[k.o,show L.length+(Z.length+1+1)=L.length+2+Z.length by omega];rfl
        .have hm:m<Z.length:=(aeY.1 J).1;have a1:∀(a b:Blk),(L++a::b::Z)[L.length+2+m]?=some (.cells (oj z)):=λa b=>by rw[aff ah3,show L.length+2+m-L.length=m+1+1 by omega];simpa using J
         have bs:∀(a b:Blk),(L++a::b::Z).set (L.length+2+m) .dead=L++a::b::Z.set m .dead:=λa b=>by rw[afG _ _ ah3,show L.length+2+m-L.length=m+1+1 by omega];rfl
         obtain⟨C,Y⟩:=aeS (oj z);obtain⟨d,hd⟩:=aeS (z.length);have b2:C.length=d:=(by rw[<- Y,ae6,hd]);have b1:List.take d C=C:=afu ah3;have bo:d<=1100000:=ah3;rw[Y]at a1;rw[hd];have a0:=hid Y;have a5:=hid hd;clear w J Y hd y;refine aib ?_;refine ah8 E.o ah7 ⟨_,ps++[x],_,Z.set m .dead++[.cells (C++[.int .i64 xi])],rfl,hid t.o,hid (.inr ⟨Z.length,by rw[k.o];simp,?_,by rw[k.o,show oj (z++[x])=oj z++oj [x]from afk,a0.o,G.o,aff ah4];simp⟩),rfl,ah4⟩;rw[k.o,show L.length+(Z.length+1+1)=L.length+2+Z.length by omega,afc,a5.o];rfl
       .have D:=g.o (by rw[f.o,decide_eq_false d2,decide_eq_false d3];rfl);clear f g w B;refine aib ?_;refine ah8 E.o ah7 ⟨_,ps++[x],_,_,rfl,hid t.o,D.o,rfl,rfl⟩
section
variable {P:Program}{w0:World}{S0:SB}{N:Nat}{own:Nat->Nat->Nat}{Q:Exit->Tm->List Blk->Prop}{T:Tm}{L:List Blk}
theorem Vt{c:Code}{g:Opd}{ps:List Nat}{x y:aT}(hc:aF P N own c=some (.rangeF g ps x y)):
  ∃g0 ps0 ca cb,c=.rangeFunc g0 ps0 ca cb/\aZ g0=some g/\ps0.toList=ps/\aF P N own ca=some x/\aF P N own cb=some y/\x.hasRF=false/\y.hasRF=false/\∀p∈ps,p<N:=by
 cases c
 case rangeFunc g0 ps0 ca cb =>
  simp only[aF]at hc;split at hc<;>try cases hc
  rename_i g1 x1 y1 h1 h2 h3;split at hc<;>cases hc;rename_i hb;simp only[ae7,afA,Array.all_eq_true_iff_forall_mem,decide_eq_true_eq]at hb
  grind
 case region id ops draw =>
  cases draw<;>simp only[aF]at hc
  all_goals
   (repeat' split at hc)
   all_goals (first|(cases hc;done)|(simp only[afr]at hc;obtain⟨_,_,hc⟩:=hc;cases hc;done)|(simp only[agM]at hc;obtain⟨_,_,hc⟩:=hc;split at hc<;>cases hc;done))
 all_goals
  simp only[aF]at hc
  (repeat' split at hc)
  all_goals (first|(cases hc;done)|(simp only[afr]at hc;obtain⟨_,_,hc⟩:=hc;cases hc;done))
def Jk:List Nat->List AV->Tm->Tm
 |p::ps,a::as',T=>Jk ps as' ((p,a)::T)
 |_,_,T=>T
theorem QQ{E:Env}:∀(ps:List Nat) (b:List AV) (vs:List Value) (T:Tm) (tm:Array Value),ps.length=b.length->VRL E b vs->(∀p∈ps,p<tm.size)->(∀t v,ar T t=some v->VR E v (tm.getD t undef)) ->
  ∀t v,ar (Jk ps b T) t=some v->VR E v (((ps.zip vs).foldl (λtm (p:Nat×Value)=>tm.setIfInBounds p.1 p.2) tm).getD t undef)
 |[],[],vs,T,tm,_,_,_,h,t,v,ht=>by simpa[Jk]using h t v (by simpa[Jk]using ht)
 |[],_::_,_,_,_,hl,_,_,_,_,_,_=>by simp at hl
 |_::_,[],_,_,_,hl,_,_,_,_,_,_=>by simp at hl
 | p::ps,a::b,vs,T,tm,hl,hv,hp,h,t,v,ht=>by
   obtain⟨x,xs,rfl,f,e⟩:=hv;refine QQ ps b xs ((p,a)::T) (tm.setIfInBounds p x) (by simpa using hl) e (λq d=>by simpa using hp q (by simp[d])) (λt' g c=>?_) t v (by simpa[Jk]using ht);simp only[ar]at c;split at c
   .simp_all
   simp_all
theorem VP(l:List (Nat×Value)):∀tm:Array Value,(l.foldl (λtm (p:Nat×Value)=>tm.setIfInBounds p.1 p.2) tm).size=tm.size:=by
 induction l with
 |nil=>intro tm;rfl
 |cons a l ih=>intro tm;rw[afO,ih];simp
def aeP(i:Nat)(b0 b1:Blk)(K:AV->List Blk->Prop)(e:Exit)(T:Tm)(L:List Blk):Prop:=e=.normal/\L[i]?=some b0/\K (.bool true) (L.set i b1)
theorem Td{i:Nat}{fn:FuncId}{ps:List Nat}{ca cb:Code}{args:List AV}{K:AV->List Blk->Prop}{x y:aT}(hL:L[i]?=some (.lrec T N fn ps ca cb false))(hx:aF P N own ca=some x.raw)(hy:aF P N own cb=some y.raw)(hfx:x.hasRF=false)(hfy:y.hasRF=false)(hlen:ps.length=args.length)(hps:∀p∈ps,p<N)(h:AW P N own x (UM (λT1 L1=>L1[i]?=some (.lrec T N fn ps ca cb false)/\AW P N own y (aeP i (.lrec T N fn ps ca cb true) (.lrec T N fn ps ca cb false) K) T1 (L1.set i (.lrec T N fn ps ca cb true))) (λ_ _ _=>False)) (Jk ps args T) L):Rm P i args L K:=by
 intro w0 S0 E w vs hR hv c hc;have hB:=hR.blk i _ hL;obtain⟨c',D,tm,h1,h2,h3,h4,h5⟩:=hB;rw[hc]at h1;cases h1;have hvl:=hv.length;have hyd:=run_yield (P:=P) (args:=⟨vs⟩) h2 (by simp[hvl,hlen]);refine⟨fn,_,ca,cb,hyd,roundIn_of_wpIn (F:=fB none) (n:=0) trivial ?_⟩;have hst:St w ⟨Mt E L,w.heap.size⟩ N E (Jk ps args T) L {tmps:=((⟨ps⟩:Array Tmp).zip ⟨vs⟩).foldl (λtmps (t,a)=>tmps.setIfInBounds t a) tm,defers:=[]} w:=by
  have e:((⟨ps⟩:Array Tmp).zip ⟨vs⟩).foldl (λtmps (t,a)=>tmps.setIfInBounds t a) tm=(ps.zip vs).foldl (λtm (p:Nat×Value)=>tm.setIfInBounds p.1 p.2) tm:=by simp
  refine⟨hR.enter _,λt v ht=>?_,?_,UO.nil (ae0 _)⟩;simp only[e];exact QQ ps args vs T tm hlen hv (λp hp=>by rw[h4];exact hps p hp) h5 t v ht;simp only[e];rw[VP];exact h4
 refine wpIn_mono (h ca hx (some c.blk) (λe=>by rw[hfx]at e;cases e) w _ E _ w hst) λe a1 wA ⟨w1,S1,E1,T1,L1,b1,le1,q1,st1⟩=>?_
 cases e
 case normal =>
  obtain⟨hL1,hAW⟩:=q1;have hc1:=le1.loc _ _ hc;have hB1:=st1.1.blk i _ hL1;obtain⟨c1,D1,tm1,k1,k2,k3,k4,k5⟩:=hB1;rw[hc1]at k1;cases k1;have hlt1:c.blk<wA.heap.size:=(afJ.1 k2).1;refine⟨_,run_beginRound k2 rfl,?_⟩;have st2:St w1 S1 N E1 T1 (L1.set i (.lrec T N fn ps ca cb true)) a1 (wA.putObj c.blk (.loop {state:=.busy,pending:=none,fn:=fn,tmps:=tm1,params:=⟨ps⟩,assign:=ca,body:=cb,defers:=D1})):=by refine⟨st1.1.turn hL1 rfl hc1 ah4 (λb hb=>ahh hb) rfl rfl rfl ⟨c,D1,tm1,hc1,by rw[World.putObj_heap_same hlt1];rfl,k3,k4,k5⟩ (λ_ _ e=>by cases e),st1.2⟩
  refine wpIn_mono (hAW cb hy (some c.blk) (λe=>by rw[hfy]at e;cases e) w1 S1 E1 a1 _ st2) λe a2 w4 ⟨w3,S3,E3,T2,L2,b3,le3,q3,st3⟩=>?_
  obtain⟨rfl,hL2,hK⟩:=q3;have hc3:=le3.loc _ _ hc1;have hB3:=st3.1.blk i _ hL2;obtain⟨c3,D3,tm3,m1,m2,m3,m4,m5⟩:=hB3;rw[hc3]at m1;cases m1;have hlt3:c.blk<w4.heap.size:=(afJ.1 m2).1;refine⟨_,_,run_endRound none m2,E3,_,.bool true,_,rfl,le1.trans le3,hK,rfl,hR.back ((b1.trans b3).rel ?_)⟩;exact st3.1.turn hL2 rfl hc3 ah4 (λb hb=>ahh hb) rfl rfl rfl ⟨c,D3,tm3,hc3,by rw[World.putObj_heap_same hlt3];simp,m3,m4,m5⟩ (λ_ _ e=>by cases e)
 all_goals exact q1
theorem Np{g:Opd}{ps:List Nat}{x y:aT}{f:FuncId}{caps:List AV}(he:∀args w,(callFunc f args).run P w=.ok (.enter f args) w)(hg:evX T g=some (.func f caps))(h:∀fn ca cb,aF P N own ca=some x.raw->aF P N own cb=some y.raw->x.hasRF=false->y.hasRF=false->(∀p∈ps,p<N) ->
   ac P f (.yld L.length::caps) (L++[.lrec T N fn ps ca cb false]) λ_ L'=>L'[L.length]?=some (.lrec T N fn ps ca cb false)/\Q .normal T (L'.set L.length .dead)):
  AW P N own (.rangeF g ps x y) Q T L:=λc hc r hr w0 S0 E a w hst=>by
 obtain⟨g0,ps0,ca,cb,rfl,hg0,hps0,hca,hcb,hfx,hfy,hps⟩:=Vt hc;rw[aT.hasRF_raw]at hfx hfy;have hrn:r=none:=hr rfl;subst hrn;obtain⟨hR,hT,hN,hMk⟩:=hst;have hgv:=ah hg0 hg hT;simp only[VR]at hgv;obtain⟨lb,hgv,hlb⟩:=hgv;refine wpIn_rangeFunc λfn _=>?_
 have ha:∀(v:World) (o:Obj),(v.alloc o)={v with heap:=v.heap.push o}:=λ_ _=>rfl
 have hR0:Rel w0 S0 E L {w with heap:=w.heap.push (.deferred (some []))}:=hR.grown ⟨λb hb=>by show(w.heap.push _)[b]?=_;rw[agd hb,<- afR hb],ah4,rfl,rfl,rfl⟩
 obtain⟨rec,hrec⟩:∃rec:Loop,rec={state:=.ready,pending:=none,fn,tmps:=a.tmps,params:=ps0,assign:=ca,body:=cb,defers:=w.heap.size}:=⟨_,rfl⟩;obtain⟨E1,hE1⟩:∃E1:Env,E1={E with loc:=λi=>if i=L.length then some ⟨w.heap.size+1,0,0⟩else E.loc i}:=⟨_,rfl⟩;have hl1:E1.loc L.length=some ⟨w.heap.size+1,0,0⟩:=by rw[hE1];simp
 have leE:E.le E1:=⟨λ_ _ _ x=>by rw[hE1];exact x,λi c x=>by rw[hE1];show(if i=L.length then _ else E.loc i)=_;rw[if_neg (λe=>by rw[hR.fresh i ah3]at x;cases x)];exact x,λi t x=>⟨t,by rw[hE1];exact x,.inl rfl⟩⟩
 obtain⟨le1,hR1⟩:=hR0.push (.loop rec) (.lrec T N fn ps ca cb false) ⟨w.heap.size+1,0,0⟩ ah4 rfl (by rw[<- hE1];refine⟨⟨w.heap.size+1,0,0⟩,w.heap.size,a.tmps,hl1,?_,rfl,hN,λt v hv=>VR.mono leE _ _ (hT t v hv)⟩;show((w.heap.push _).push _)[w.heap.size+1]?=_;rw[Array.getElem?_push,if_pos ah4,hrec,<- hps0];rfl)
 rw[<- hE1]at le1 hR1;obtain⟨W1,hW1⟩:∃W1:World,W1={({w with heap:=w.heap.push (.deferred (some []))}:World)with heap:=(w.heap.push (.deferred (some []))).push (.loop rec)}:=⟨_,rfl⟩;rw[<- hW1]at hR1;have hWs:W1.heap.size=w.heap.size+2:=by rw[hW1];simp
 have hWl:W1.heap[w.heap.size+1]?=some (.loop rec):=by rw[hW1];show((w.heap.push _).push _)[w.heap.size+1]?=_;rw[Array.getElem?_push,if_pos ah4]
 have hWd:W1.heap[w.heap.size]?=some (.deferred (some [])):=by rw[hW1];show((w.heap.push _).push _)[w.heap.size]?=_;rw[agd ah4];simp
 have hcall:=h fn ca cb hca hcb hfx hfy hps W1 ⟨Mt E1 (L++[.lrec T N fn ps ca cb false]),S0.B⟩ E1 W1 (.func (.yield (w.heap.size+1)) #[] #[]::lb) (hR1.enter _) ⟨_,lb,rfl,⟨_,hl1,rfl⟩,VRL.mono le1 _ _ hlb⟩;have hnoD:¬Mt E1 (L++[.lrec T N fn ps ca cb false]) w.heap.size:=by
  rintro(⟨i,k,c,h1,h2,h3,h4⟩|⟨i,n,sz,t,k,h1,h2,h3,h4⟩);by_cases hi:i=L.length;subst hi;rw[hl1]at h3;cases h3;simp at h4;have hi':i<L.length:=(by have:=(aeY.1 h1).1;simp at this;omega);rw[ae3 hi']at h1;have h3':E.loc i=some c:=(by rw[hE1]at h3;simpa[hi]using h3);obtain⟨c',o,g1,g2⟩:=(hR.blk i k h1).loc h2;rw[h3']at g1;cases g1;rw[h4]at g2;have:=(afJ.1 g2).1;omega;have hi':i<L.length:=by rcases aft i L.length with h5|h5;exact h5;rw[aff h5]at h1;rcases agf (i-L.length)with h6|h6;rw[h6]at h1;cases h1;rw[afV (by simp;omega)]at h1;cases h1
  rw[ae3 hi']at h1;have hb:=hR.blk i _ h1;simp only[bg]at hb;obtain⟨t',g1,_,_,g2⟩:=hb;have h2':E.tok i=some t:=(by rw[hE1]at h2;exact h2);rw[h2']at g1;cases g1;obtain⟨cs,ty,fr,g3,_⟩:=g2 k h3;rw[h4]at g3;have:=(afJ.1 g3).1;omega
 refine⟨w.heap.size+1,[mkD w.heap.size],W1,{target:=.fn (.func f) ⟨lb⟩,args:=#[.func (.yield (w.heap.size+1)) #[] #[]]},W1,f,#[.func (.yield (w.heap.size+1)) #[] #[]]++⟨lb⟩,W1,?_,?_,λ_ _=>trivial,?_,λe=>(by cases e),?_⟩;have:=run_enterLoop_outer (P:=P) (w:=w) fn a.tmps ps0 ca cb;rw[ha,ha]at this;rw[hW1,hrec];exact this;simp only[resolve,hgv];simp[go_sem];simp[invoke,go_sem,he];rcases hcall with⟨_,hcalls⟩|⟨_,_,_,_,_,hv2,_⟩;refine QG none _ ?_;have e:(#[Value.func (.yield (w.heap.size+1)) #[] #[]]++(⟨lb⟩:Array Value))=⟨.func (.yield (w.heap.size+1)) #[] #[]::lb⟩:=by apply Array.ext';simp
 rw[e];refine hcalls.mono λen w3 ⟨E3,v,av,L3,e1,le3,⟨hL3,hQ⟩,_,hR3⟩=>?_
 subst e1;have hl3:=le3.loc _ _ hl1;have hB3:=hR3.blk _ _ hL3;simp only[bg,afm,if_false]at hB3;obtain⟨c3,D3,tm3,m1,m2,m3,m4,m5⟩:=hB3;rw[hl3]at m1;cases m1;have hlt3:w.heap.size+1<w3.heap.size:=(afJ.1 m2).1;have hR4:=hR3.turn hL3 rfl hl3 (k':=.dead) (w':=w3.putObj (w.heap.size+1) (.loop {state:=.exhausted,pending:=none,fn:=fn,tmps:=tm3,params:=⟨ps⟩,assign:=ca,body:=cb,defers:=D3})) ah4 (λb hb=>ahh hb) rfl rfl rfl trivial (λ_ _ e=>by cases e);have hbs:Bs w0 S0 W1 ⟨Mt E1 (L++[.lrec T N fn ps ca cb false]),S0.B⟩:=hR1.bs;refine⟨none,_,run_endLoop m2 ah4,W1,⟨Mt E1 (L++[.lrec T N fn ps ca cb false]),S0.B⟩,E3,T,_,hbs,le1.trans le3,hQ,hR4,(hT.mono le1).mono le3,hN,?_⟩;have hM:=hMk.bs hbs;refine⟨hM.1,afY.2 ⟨λhm=>?_,hM.2.1⟩,λd hd=>?_⟩;obtain⟨D,g1,_,g2,_⟩:=hMk.2.2 _ hm;have:w.heap.size=D:=by injection g1 with g1 _;injection g1
 have:=hR.size;omega;rcases afp.1 hd with rfl|hd;exact⟨_,rfl,by have:=hMk.1;have:=hR.size;show S0.B<=_;omega,ah3,hnoD,hWd⟩;exact hM.2.2 d hd;rw[he]at hv2;cases hv2
end
variable {L:List Blk}{K:aeX}
set_option maxHeartbeats 8000000
set_option maxRecDepth 100000
theorem acl(v:rows.length<=1100000){Inv:Nat->List Blk->Prop}{L:List Blk}{K:aeX}(e:∀k L',Inv k L'->L'[j]?=some (.cells [.sl rows rows.length cap])/\L.length<=L'.length)(g:Inv rows.length L)(l:∀k L' (Q:AV->List Blk->Prop),k<rows.length->Inv (k+1) L'->(∀c,Inv k c->Q (.bool true) c)->Rm Tryz.prog i [.int .i64 (k:Int),rows.getD k .undef] L' Q)(h:∀L',Inv 0 L'->Fin L (.tup []) L' K):
  aeW 160 [.yld i,.ptr j 0] L K:=by
 have y:=(e _ _ g).1;have w:IntKind.i64.wrap ((rows.length:Int)-1)=(rows.length:Int)-1:=ae ah3 ah3;replace e:=hid e;replace l:=hid l;replace h:=hid h;replace g:=hid g;refine aeV iU ?_;refine ao (λn T' L'=>∃(k:Nat) (x:Int),n=k/\k<=rows.length/\Hid (Inv k L')/\x=(k:Int)-1/\T'=[(3,.int .i64 x),(0,.yld i),(1,.ptr j 0)]) (CutS (b:=ae0 _)) ⟨rows.length,_,rfl,ae0 _,g,rfl,rfl⟩ ?_;rintro k _ L' ⟨_,x,rfl,p,f,m,rfl⟩;have q:=(e.o _ _ f.o).1;have r:=(e.o _ _ f.o).2;cases k with
 | zero =>
   have d:x=-1:=ah3;subst d;clear m;refine wk ?_;exact⟨.inl rfl,True,[],rfl,trivial,h.o _ f.o⟩
 | succ k =>
   have d:x=(k:Int):=ah3;subst d;clear m;have g1:(0:Int)<=(k:Int):=ah3;have u:IntKind.i64.wrap ((k:Int)-1)=(k:Int)-1:=ae ah3 ah3;have g3:(k:Int)<(rows.length:Int):=ah3;have g4:k<rows.length:=p;refine wk ?_;rw[Q1];refine l.o k L' _ g4 f.o λc a=>?_
   have s:=(e.o _ _ a).1;have t:=(e.o _ _ a).2;replace a:=hid a;clear f q r;refine aib ?_;exact ah8 ah3 (CutL (b:=ah3)) ⟨k,_,rfl,ah3,hid a.o,rfl,rfl⟩
theorem ack(v:rows.length<=1100000){Inv:Nat->List Blk->Prop}{L:List Blk}{K:aeX}(e:∀k L',Inv k L'->L'[j]?=some (.cells [.sl rows rows.length cap])/\L.length<=L'.length)(g:Inv rows.length L)(l:∀k L' (Q:AV->List Blk->Prop),k<rows.length->Inv (k+1) L'->(∀c,Inv k c->Q (.bool true) c)->Rm Tryz.prog i [.int .i64 (k:Int),rows.getD k .undef] L' Q)(h:∀L',Inv 0 L'->Fin L (.tup []) L' K):
  aeW 161 [.yld i,.ptr j 0] L K:=by
 have y:=(e _ _ g).1;have w:IntKind.i64.wrap ((rows.length:Int)-1)=(rows.length:Int)-1:=ae ah3 ah3;replace e:=hid e;replace l:=hid l;replace h:=hid h;replace g:=hid g;refine aeV jr ?_;refine ao (λn T' L'=>∃(k:Nat) (x:Int),n=k/\k<=rows.length/\Hid (Inv k L')/\x=(k:Int)-1/\T'=[(3,.int .i64 x),(0,.yld i),(1,.ptr j 0)]) (CutS (b:=ae0 _)) ⟨rows.length,_,rfl,ae0 _,g,rfl,rfl⟩ ?_;rintro k _ L' ⟨_,x,rfl,p,f,m,rfl⟩;have q:=(e.o _ _ f.o).1;have r:=(e.o _ _ f.o).2;cases k with
 | zero =>
   have d:x=-1:=ah3;subst d;clear m;refine wk ?_;exact⟨.inl rfl,True,[],rfl,trivial,h.o _ f.o⟩
 | succ k =>
   have d:x=(k:Int):=ah3;subst d;clear m;have g1:(0:Int)<=(k:Int):=ah3;have u:IntKind.i64.wrap ((k:Int)-1)=(k:Int)-1:=ae ah3 ah3;have g3:(k:Int)<(rows.length:Int):=ah3;have g4:k<rows.length:=p;refine wk ?_;rw[Q1];refine l.o k L' _ g4 f.o λc a=>?_
   have s:=(e.o _ _ a).1;have t:=(e.o _ _ a).2;replace a:=hid a;clear f q r;refine aib ?_;exact ah8 ah3 (CutL (b:=ah3)) ⟨k,_,rfl,ah3,hid a.o,rfl,rfl⟩
theorem aev(h:K (.func 160 [.ptr L.length 0]) (L++[.cells [.sl rows n cap]])):
  aeW 128 [.sl rows n cap] L K:=by
 replace h:=hid h;refine aeV jH ?_;exact ag h.o
theorem aeu(h:K (.func 161 [.ptr L.length 0]) (L++[.cells [.sl rows n cap]])):
  aeW 131 [.sl rows n cap] L K:=by
 replace h:=hid h;refine aeV jV ?_;exact ag h.o
theorem OkD.one(h:OkD d){r:Rdn}(hr:r∈d):OkD [r]:=by obtain⟨a,b,rfl⟩:=List.append_of_mem hr;have f:OkD (r::b):=OkD.app h;rw[LT]at f⊢;obtain⟨k,j,c,h4⟩:=f;refine⟨ah4,λx i=>j x (by rw[afl.1 i];simp),?_,afw ?_ h4⟩;unfold LZ at c⊢;rw[List.any_cons,ag3]at c;rw[List.any_cons,c.1];rfl;have e:=nX ([r].map (cM false)) 44;have g:=nX ((r::b).map (cM false)) 44;rw[if_neg ah4]at e g;simp only[afe,afQ,ag8,List.sum_nil,afg,afF]at e g;unfold aP;simp only[afe,afQ];omega
theorem adn(hd:OkD d)(h:K (.sl (ay (NK d).reverse) d.length none) L):
  aeW 94 [.sl (d.map aH) d.length cap] L K:=by
 have H:=hd.len;replace h:=hid h;have kk1:Hid (∀{L:List Blk}{K:aeX},K (.func 160 [.ptr L.length 0]) (L++[.cells [.sl (d.map aH) d.length cap]])->aeW 128 [.sl (d.map aH) d.length cap] L K):=@hid _ (by intro L K q;exact aev q);refine aeV QI ?_;have R:∀(a b c x y:Blk) (Z:List Blk),(L++([a,b,c]++Z))[(L++[x,y]).length]?=some c:=λa b c x y Z=>by rw[aff ah4];simp
 have p:(d.map aH).length=d.length:=ae6 _;refine Np (f:=160) (caps:=[.ptr (L.length+1) 0]) (λargs w=>rfl) rfl (λfn ca cb E z F A B=>?_);refine acl (rows:=d.map aH) (cap:=cap) (Inv:=λk L'=>∃(v:AV) (Z:List Blk),L'=L++([.cells [v],.cells [.sl (d.map aH) d.length cap],.lrec [(9,.func 160 [.ptr (L.length+1) 0]),(3,.ptr L.length 0),(2,.sl [] 0 (some 0)),(0,.sl (d.map aH) d.length cap)] 23 fn [10,11] ca cb false]++Z)/\((k=d.length/\v=.sl [] 0 (some 0))\/∃m,v=.lsl (L.length+3+m) 0 (d.length-k) none 1/\Z[m]?=some (.cells (ay ((NK d).reverse.take (d.length-k)))))) ah3 ?_ ?_ ?_ ?_;rintro k L' ⟨v,Z,rfl,_⟩;refine⟨?_,ah4⟩;rw[p,aff ah3];simp;exact⟨.sl [] 0 (some 0),[],ah4,.inl ⟨p,rfl⟩⟩;rintro k L' Q O ⟨v,Z,rfl,T⟩ P;rw[p]at O;obtain⟨r,hr⟩:=aeS (d.getD k []);have V:(d.map aH).getD k .undef=.sl (bQ r) r.length none:=by rw[yW O,hr]
 have G:r∈d:=by rw[<- hr];simp[O]
 have t:=hd.one G;have n:(NK d).reverse.take (d.length-k)=(NK d).reverse.take (d.length-(k+1))++[cM true r]:=by rw[show d.length-k=d.length-(k+1)+1 by omega,afs (by rw[agc,bA];omega)];congr 2;rw[List.getElem_reverse];simp only[NK,List.getElem_map,ae6];congr 1;rw[<- hr];simp only[afh];rw[afn O];simp only[agj];congr 1;omega
 obtain⟨s,S⟩:=aeS (cM true r);rw[S]at n;have kk2:Hid (∀{c:Option Nat}{L:List Blk}{K:aeX},K (.tup [.str s,.int .i64 0]) L->aeW 61 [.sl [.sl (bQ r) r.length none] 1 c] L K):=@hid _ (by intro c L K q;refine MI (d:=[r]) t.m.b.1 t.m.b.2 ?_;rw[qL t,show aP true [r]=s from by simp[aP,Lib.join,S]];exact q)
 rw[V];refine Td (R _ _ _ _ _ _) E z F A rfl B ?_;simp only[Jk];replace P:=hid P;replace n:=hid n;clear hr G t S V E z F A B kk1 R h;have e:∀(a b c c':Blk) (Z:List Blk),(L++a::b::c::Z).set (L.length+2) c'=L++([a,b,c']++Z):=λa b c c' Z=>by rw[afG _ _ ah3,show L.length+2-L.length=2 by omega];rfl
 have g:∀(a b c:Blk) (Z:List Blk),(L++a::b::c::Z)[L.length+2]?=some c:=λa b c Z=>by rw[aff ah3,show L.length+2-L.length=2 by omega];rfl
 replace e:=hid e;replace g:=hid g;rcases T with⟨Y,rfl⟩|⟨m,rfl,u⟩;refine wk ?_;refine⟨rfl,g.o _ _ _ _,?_⟩;rw[e.o];refine P.o _ ⟨_,Z++[.cells [.str s]],rfl,.inr ⟨Z.length,?_,?_⟩⟩;rw[show d.length-k=1 by omega,show L.length+(Z.length+1+1+1)=L.length+3+Z.length by omega];rw[n.o,show d.length-(k+1)=0 by omega];simp;obtain⟨j,hj⟩:=aeS (d.length-(k+1));obtain⟨C,D⟩:=aeS (ay ((NK d).reverse.take (d.length-(k+1))));have M:C.length=j:=by rw[<- D,ae6,afZ,agc,bA];omega
 have X:List.take j C=C:=afu ah3;rw[D]at u;rw[hj];have hm:m<Z.length:=(aeY.1 u).1;have N:∀(a b c:Blk),(L++a::b::c::Z)[L.length+3+m]?=some (.cells C):=λa b c=>by rw[aff ah3,show L.length+3+m-L.length=m+1+1+1 by omega];simpa using u
 have W:j<=32:=ah3;have ab:∀(a b c:Blk),(L++a::b::c::Z).set (L.length+3+m) .dead=L++a::b::c::Z.set m .dead:=λa b c=>by rw[afG _ _ ah3,show L.length+3+m-L.length=m+1+1+1 by omega];rfl
 refine wk ?_;refine⟨rfl,g.o _ _ _ _,?_⟩;rw[e.o];refine P.o _ ⟨_,Z.set m .dead++[.cells (C++[.str s])],rfl,.inr ⟨Z.length,?_,?_⟩⟩;rw[show d.length-k=j+1 by omega,show L.length+(Z.length+1+1+1)=L.length+3+Z.length by omega];rw[n.o,<- D,aff ah4];simp;have J:∀(a b c c' x y:Blk) (Z:List Blk),(L++([a,b,c]++Z)).set (L++[x,y]).length c'=L++a::b::c'::Z:=λa b c c' x y Z=>by rw[afG _ _ ah4,show(L++[x,y]).length-L.length=2 by simp];rfl
 rintro L' ⟨v,Z,rfl,T⟩;refine ag ⟨R _ _ _ _ _ _,?_⟩;rw[J];clear J R E z F A B kk1;rcases T with⟨U,rfl⟩|⟨m,rfl,u⟩;have I:d=[]:=afK.1 U.symm;subst I;clear U H p hd;refine wk ?_;refine aB ?_;rw[show(AV.sl [] 0 (some 0)).frz=.sl (ay (NK []).reverse) ([]:List Rdn).length none from rfl];exact af rfl h.o;rw[ag2,afu (by rw[agc,bA];omega)]at u;rw[ag2];obtain⟨C,D⟩:=aeS (ay (NK d).reverse);have M:C.length=d.length:=by rw[<- D,ae6,agc,bA]
 rw[D]at u h;have N:∀(a b c:Blk),(L++a::b::c::Z)[L.length+3+m]?=some (.cells C):=λa b c=>by rw[aff ah3,show L.length+3+m-L.length=m+1+1+1 by omega];simpa using u
 refine wk ?_;refine GX (i:=L.length+3+m) (l:=C) (N _ _ _) ?_;rw[show(AV.lsl (L.length+3+m) 0 d.length none 1).snap (L.length+3+m) C=.sl C d.length none from by simp[AV.snap,<- M],afG _ _ ah3];exact af (by rw[<- D];simp only[AV.refs];exact j6 _ _) h.o
theorem aet(O:rows.length<=1100000){Inv:Nat->List Blk->List Blk->Prop}{L:List Blk}{K:aeX}(r:∀k A Z,Inv k A Z->A.length=L.length/\A[j]?=some (.cells [.sl rows rows.length cap]))(B:Inv rows.length L [])(G:∀k A Z X (Q:AV->List Blk->Prop),k<rows.length->X.length=3->Inv (k+1) A Z->(∀v D,Inv k v D->Q (.bool true) (v++(X++D)))->Rm Tryz.prog i [rows.getD k .undef] (A++(X++Z)) Q)(J:∀A Z,Inv 0 A Z->∀X,X.length=3->Fin L (.tup []) (A++(X++Z)) K):
  aeW 130 [.yld i,.ptr j 0] L K:=by
 have E:=(r _ _ _ B).2;have M:j<L.length:=(aeY.1 E).1;have F:∀x:Blk,(L++[x])[j]?=some (.cells [.sl rows rows.length cap]):=λx=>by rw[ae3 M];exact E
 have kk1:Hid (∀{L:List Blk}{K:aeX},K (.func 161 [.ptr L.length 0]) (L++[.cells [.sl rows rows.length cap]])->aeW 131 [.sl rows rows.length cap] L K):=@hid _ (by intro L K q;exact aeu q);replace r:=hid r;replace B:=hid B;replace G:=hid G;replace J:=hid J;refine aeV GF ?_;refine Np (f:=161) (caps:=[.ptr (L.length+1) 0]) (λargs w=>rfl) rfl (λfn ca cb t m u n p=>?_);have C:∀(A:List Blk) (d:A.length=L.length) (a b c x y:Blk) (Z:List Blk),(A++([a,b,c]++Z))[(L++[x,y]).length]?=some c:=λA d a b c x y Z=>by rw[aff (by simp[d])];simp[d]
 have s:∀(A:List Blk) (d:A.length=L.length) (a b c c' x y:Blk) (Z:List Blk),(A++([a,b,c]++Z)).set (L++[x,y]).length c'=A++([a,b,c']++Z):=λA d a b c c' x y Z=>by rw[afG _ _ (by simp[d]),show(L++[x,y]).length-A.length=2 by simp[d]];rfl
 refine ack (rows:=rows) (cap:=cap) O (Inv:=λk L'=>∃A Z,L'=A++([.cells [.yld i],.cells [.sl rows rows.length cap],.lrec [(6,.func 161 [.ptr (L.length+1) 0]),(2,.ptr L.length 0),(0,.yld i),(1,.ptr j 0)] 13 fn [7,8] ca cb false]++Z)/\Inv k A Z) ?_ ?_ ?_ ?_;rintro k L' ⟨A,Z,rfl,h⟩;have d:=(r.o _ _ _ h).1;refine⟨?_,by simp[d]⟩;rw[aff ah3,d];simp;exact⟨L,[],ah4,B.o⟩;rintro k L' Q N ⟨A,Z,rfl,h⟩ I;have d:=(r.o _ _ _ h).1;refine Td (C A d _ _ _ _ _ _) t m u n rfl p ?_;simp only[Jk];replace I:=hid I;replace h:=hid h;have e:∀(A:List Blk) (d:A.length=L.length) (a b c c':Blk) (Z:List Blk),(A++a::b::c::Z).set (L.length+2) c'=A++a::b::c'::Z:=λA d a b c c' Z=>by rw[afG _ _ ah3,show L.length+2-A.length=2 by omega];rfl
 have g:∀(A:List Blk) (d:A.length=L.length) (a b c:Blk) (Z:List Blk),(A++a::b::c::Z)[L.length+2]?=some c:=λA d a b c Z=>by rw[aff ah3,show L.length+2-A.length=2 by omega];rfl
 have H:∀(a:Blk) (Z:List Blk),(A++a::Z)[L.length]?=some a:=λa Z=>by rw[aff ah3,show L.length-A.length=0 by omega];rfl
 replace e:=hid e;replace g:=hid g;clear t m u n p kk1 C s E F;refine wk ?_;refine⟨g.o _ d _ _ _ _,?_⟩;rw[e.o _ d];refine wk ?_;rw[Q1];refine G.o k A Z [.cells [.yld i],.cells [.sl rows rows.length cap],.lrec [(6,.func 161 [.ptr (L.length+1) 0]),(2,.ptr L.length 0),(0,.yld i),(1,.ptr j 0)] 13 fn [7,8] ca cb true] _ N rfl h.o λv D l=>?_
 have z:=(r.o _ _ _ l).1;have P:∀(a:Blk) (Z:List Blk),(v++a::Z)[L.length]?=some a:=λa Z=>by rw[aff ah3,show L.length-v.length=0 by omega];rfl
 replace l:=hid l;clear H h d;refine aib ?_;refine⟨rfl,g.o _ z _ _ _ _,?_⟩;rw[e.o _ z];exact I.o _ ⟨v,D,rfl,l.o⟩;rintro L' ⟨A,Z,rfl,h⟩;have d:=(r.o _ _ _ h).1;refine ag ⟨C A d _ _ _ _ _ _,?_⟩;rw[s A d];clear C s t m u n p kk1;exact⟨.inl rfl,True,[],rfl,trivial,J.o A Z h _ rfl⟩
theorem Tv{k:Nat}(a:k<p.length):p.reverse.take (p.length-k)=p.reverse.take (p.length-(k+1))++[p.getD k []]:=by rw[show p.length-k=p.length-(k+1)+1 by omega,afs (by rw[agc];omega)];congr 2;rw[List.getElem_reverse];simp only[afh];rw[afn a];simp only[agj];congr 1;omega
theorem aey(Y:p.length<=1000){L:List Blk}(N:L[j]?=some (.cells [.sl (ay p) p.length cap])){K:aeX}(h:K (.sl (ay p.reverse) p.length none) L):
  aeW 129 [.sl [] 0 (some 0),.func 130 [.ptr j 0]] L K:=by
 replace h:=hid h;have S:j<L.length:=(aeY.1 N).1;refine aeV jI ?_;refine Np (f:=130) (caps:=[.ptr j 0]) (λargs w=>rfl) rfl (λfn ca cb B t D u y=>?_);have J:∀(a c x:Blk) (Z:List Blk),(L++[a,c]++Z)[(L++[x]).length]?=some c:=λa c x Z=>by rw[afa,aff ah4];simp
 refine aet (rows:=ay p) (cap:=cap) (by simp;omega) (Inv:=λk A Z=>∃v:AV,A=L++[.cells [v],.lrec [(6,.func 130 [.ptr j 0]),(4,.sl [] 0 (some 0)),(2,.ptr L.length 0),(0,.sl [] 0 (some 0)),(1,.func 130 [.ptr j 0])] 13 fn [7] ca cb false]/\((k=p.length/\v=.sl [] 0 (some 0))\/∃m,v=.lsl (L.length+5+m) 0 (p.length-k) none 1/\Z[m]?=some (.cells (ay (p.reverse.take (p.length-k)))))) ?_ ?_ ?_ ?_;rintro k A Z ⟨v,rfl,_⟩;refine⟨ah4,?_⟩;rw[ae3 S];simpa using N;exact⟨_,ah4,.inl ⟨ah4,rfl⟩⟩;rintro k A Z X Q O M ⟨v,rfl,R⟩ I;rw[ae6]at O;obtain⟨x0,x1,x2,rfl⟩:∃a b c,X=[a,b,c]:=by
  match X,M with
  |[a,b,c],_=>exact⟨a,b,c,rfl⟩
 obtain⟨s,P⟩:=aeS (p.getD k []);have U:(ay p).getD k .undef=.str s:=by rw[<- P];simp[O]
 have q:=Tv O;rw[P]at q;rw[U];refine Td (J _ _ _ _) B t D u rfl y ?_;simp only[Jk];replace I:=hid I;replace q:=hid q;clear P U B t D u y J h N;have g:∀(a c c':Blk) (Z:List Blk),(L++a::c::Z).set (L.length+1) c'=L++([a,c']++Z):=λa c c' Z=>by rw[afG _ _ ah3,show L.length+1-L.length=1 by omega];rfl
 have n:∀(a c:Blk) (Z:List Blk),(L++a::c::Z)[L.length+1]?=some c:=λa c Z=>by rw[aff ah3,show L.length+1-L.length=1 by omega];rfl
 replace g:=hid g;replace n:=hid n;rcases R with⟨ad,rfl⟩|⟨m,rfl,r⟩;refine wk ?_;refine⟨rfl,n.o _ _ _,?_⟩;rw[g.o];have:=I.o _ (Z++[.cells [.str s]]) ⟨_,rfl,.inr ⟨Z.length,rfl,by rw[q.o,show p.length-(k+1)=0 by omega];simp⟩⟩;rw[show L.length+(Z.length+1+1+1+1+1)=L.length+5+Z.length by omega];rw[show p.length-k=1 by omega]at this;rw[afa]at this;exact this;obtain⟨d,hd⟩:=aeS (p.length-(k+1));obtain⟨C,z⟩:=aeS (ay (p.reverse.take (p.length-(k+1))));have G:C.length=d:=by rw[<- z,ae6,afZ,agc];omega
 have ab:List.take d C=C:=afu ah3;rw[z]at r;rw[hd];have hm:m<Z.length:=(aeY.1 r).1;have H:∀(a b c e f:Blk),(L++a::b::c::e::f::Z)[L.length+5+m]?=some (.cells C):=λa b c e f=>by rw[aff ah3,show L.length+5+m-L.length=m+1+1+1+1+1 by omega];simpa using r
 have V:d<=1000:=ah3;have W:∀(a b c e f:Blk),(L++a::b::c::e::f::Z).set (L.length+5+m) .dead=L++a::b::c::e::f::Z.set m .dead:=λa b c e f=>by rw[afG _ _ ah3,show L.length+5+m-L.length=m+1+1+1+1+1 by omega];rfl
 refine wk ?_;refine⟨rfl,n.o _ _ _,?_⟩;rw[g.o];have:=I.o _ (Z.set m .dead++[.cells (C++[.str s])]) ⟨_,rfl,.inr ⟨Z.length,rfl,by rw[q.o,<- z,aff ah4];simp⟩⟩;rw[show L.length+(Z.length+1+1+1+1+1)=L.length+5+Z.length by omega];rw[show p.length-k=d+1 by omega]at this;rw[afa]at this;exact this;rintro A Z ⟨v,rfl,R⟩ X M;obtain⟨x0,x1,x2,rfl⟩:∃a b c,X=[a,b,c]:=by
  match X,M with
  |[a,b,c],_=>exact⟨a,b,c,rfl⟩
 have F:∀(a c c' x:Blk) (Z:List Blk),(L++[a,c]++Z).set (L++[x]).length c'=L++a::c'::Z:=λa c c' x Z=>by rw[afa,afG _ _ ah4,show(L++[x]).length-L.length=1 by simp];rfl
 refine ag ⟨J _ _ _ _,?_⟩;rw[F];clear F J B t D u y M N;rcases R with⟨T,rfl⟩|⟨m,rfl,r⟩;have E:p=[]:=afK.1 T.symm;subst E;clear T Y;refine wk ?_;refine aB ?_;rw[show(AV.sl [] 0 (some 0)).frz=.sl (ay ([]:Pth).reverse) ([]:Pth).length none from rfl];exact af rfl h.o;rw[ag2,afu (by rw[agc];omega)]at r;rw[ag2];obtain⟨C,z⟩:=aeS (ay p.reverse);have G:C.length=p.length:=by rw[<- z,ae6,agc]
 rw[z]at r h;have H:∀(a b c e f:Blk),(L++a::b::c::e::f::Z)[L.length+5+m]?=some (.cells C):=λa b c e f=>by rw[aff ah3,show L.length+5+m-L.length=m+1+1+1+1+1 by omega];simpa using r
 refine wk ?_;refine GX (i:=L.length+5+m) (l:=C) (H _ _ _ _ _) ?_;rw[show(AV.lsl (L.length+5+m) 0 p.length none 1).snap (L.length+5+m) C=.sl C p.length none from by simp[AV.snap,<- G],afG _ _ ah3];exact af (by rw[<- z];simp only[AV.refs];exact j6 _ _) h.o
theorem adH(b:p.length<=1000){L:List Blk}(a:L[j]?=some (.cells [.sl (ay p) p.length cap])){K:aeX}(h:K (.sl (ay p.reverse) p.length none) L):
  aeW 96 [.func 130 [.ptr j 0]] L K:=by
 have kk1:Hid (∀{K:aeX},K (.sl (ay p.reverse) p.length none) L->aeW 129 [.sl [] 0 (some 0),.func 130 [.ptr j 0]] L K):=@hid _ (by intro K q;exact aey b a q);replace h:=hid h;refine aeV sR ?_;exact ag h.o
theorem aes(h:K (.func 130 [.ptr L.length 0]) (L++[.cells [.sl rows n cap]])):
  aeW 97 [.sl rows n cap] L K:=by
 replace h:=hid h;refine aeV JK ?_;exact ag h.o
theorem abQ(hd:OkD d)(h:K (.str (aP true d)) L):
  aeW 95 [.sl (ay (NK d)) d.length cap,.str [44]] L K:=by
 obtain⟨i,b⟩:=Sj hd;have f:∀r∈d,(cM true r).length<=200000:=λr hr=>Kf (b r hr).1 (λa c=>((b r hr).2 a c).1) (λa c=>((b r hr).2 a c).2)
 have g:=J8 ah3 f;have e:aP true d=Lib.join (NK d) [44]:=rfl;rw[e]at h g;rw[show d.length=(NK d).length from(bA d).symm];exact L9 (by rw[bA];omega) ah3 h
theorem YS{L:List Blk}{it iv mn mi nb:Nat}{s lst a0 k a3:AV}{es:List (AV×AV×Nat)}{rs:List TKy}{ck ci R:Nat}{l1:List AV}{T:Option Nat}(hd:OkD d)(g:L[it]?=some (.cells [.ptr iv 0]))(i:L[iv]?=some (.cells [s,.lmap mn,.lmap mi,lst]))(l:L[mn]?=some (.map es ck))(N:bH (.int .i64 id) es 0=some (some (j,.ptr nb 0)))(a:L[nb]?=some (.cells [a0,.sl l1 R T,k,a3]))(f:L[mi]?=some (.map (rs.map kyA) ci))(J:bH (.str (aP true d)) (rs.map kyA) 0=some none){K:aeX}(h:K (.tup []) ((L.set nb (.cells [dnA d,.sl (ay (NK d).reverse) d.length none,k,a3])).set mi (.map ((rs++[(aP true d,id,ci)]).map kyA) (ci+1))++[.cells [.sl (ay (NK d).reverse) d.length none]])):
  aeW 69 [.ptr it 0,.int .i64 id,.sl (d.map aH) d.length cap] L K:=by
 have P:aU .int (.int .i64 id)=true:=rfl;have F:=hd.len;have D:nb≠iv:=λe=>by rw[e,i]at a;simp at a
 have y:nb≠it:=λe=>by rw[e,g]at a;simp at a
 have V:nb≠mn:=λe=>by rw[e,l]at a;simp at a
 have A:nb≠mi:=λe=>by rw[e,f]at a;simp at a
 have C:nb<L.length:=(aeY.1 a).1;have B:∀b,(L.set nb b)[it]?=some (.cells [.ptr iv 0]):=λb=>by rw[ae4 y];exact g
 have w:∀b,(L.set nb b)[iv]?=some (.cells [s,.lmap mn,.lmap mi,lst]):=λb=>by rw[ae4 D];exact i
 have x:∀b,(L.set nb b)[mi]?=some (.map (rs.map kyA) ci):=λb=>by rw[ae4 A];exact f
 have I:∀b,(L.set nb b)[nb]?=some b:=λb=>by simp[C]
 have S:∀b c,(L.set nb b).set nb c=L.set nb c:=λb c=>ahc ..
 have kk1:Hid (∀{L:List Blk}{c:Option Nat}{K:aeX},K (dnA d) L->aeW 50 [.sl (d.map aH) d.length cap,.sl [] 0 c] L K):=@hid _ (by intro L c K q;exact MP hd.m.b.1 hd.m.b.2 q);have kk2:Hid (Ctr Tryz.prog 94 [.sl (d.map aH) d.length cap] (.sl (ay (NK d).reverse) d.length none)):=@hid _ (by intro L K q;exact adn hd q);replace h:=hid h;refine aeV JM ?_;have z:iv<L.length:=(aeY.1 i).1;have E:it<L.length:=(aeY.1 g).1;have t:mi<L.length:=(aeY.1 f).1;have W:∀b X,(L.set nb b++[X])[it]?=some (.cells [.ptr iv 0]):=λb X=>by rw[ae3 (by simpa using E)];exact B b
 have Q:∀b X,(L.set nb b++[X])[iv]?=some (.cells [s,.lmap mn,.lmap mi,lst]):=λb X=>by rw[ae3 (by simpa using z)];exact w b
 have O:∀b X,(L.set nb b++[X])[mi]?=some (.map (rs.map kyA) ci):=λb X=>by rw[ae3 (by simpa using t)];exact x b
 have M:∀b X Y,(L.set nb b++[X]).set mi Y=(L.set nb b).set mi Y++[X]:=λb X Y=>by rw[agP _ _ (by simpa using t)]
 have kk3:Hid (∀{K:aeX},K (.sl (ay (NK d)) d.length none) ((L.set nb (.cells [dnA d,.sl (ay (NK d).reverse) d.length none,k,a3]))++[.cells [.sl (ay (NK d).reverse) d.length none]])->aeW 96 [.func 130 [.ptr (L.set nb (.cells [dnA d,.sl (ay (NK d).reverse) d.length none,k,a3])).length 0]] ((L.set nb (.cells [dnA d,.sl (ay (NK d).reverse) d.length none,k,a3]))++[.cells [.sl (ay (NK d).reverse) d.length none]]) K):=@hid _ (by intro K q;have H:(NK d).reverse.length=d.length:=(by rw[agc,bA]);have:=adH (p:=(NK d).reverse) (cap:=none) (j:=(L.set nb (.cells [dnA d,.sl (ay (NK d).reverse) d.length none,k,a3])).length) (L:=(L.set nb (.cells [dnA d,.sl (ay (NK d).reverse) d.length none,k,a3]))++[.cells [.sl (ay (NK d).reverse) d.length none]]) ah3 (by rw[aff (ae0 _),H];simp) (K:=K);rw[List.reverse_reverse,H]at this;exact this q)
 have kk4:Hid (Ctr Tryz.prog 95 [.sl (ay (NK d)) d.length none,.str [44]] (.str (aP true d))):=@hid _ (by intro L K q;exact abQ hd q);have v:aU .str (.str (aP true d))=true:=rfl;obtain⟨G,u⟩:=aeS (aP true d);rw[u]at kk4 J v h;obtain⟨U,r⟩:=aeS (ay (NK d).reverse);rw[r]at kk3 h⊢;have n:(rs++[(G,id,ci)]).map kyA=rs.map kyA++[(.str G,.int .i64 id,ci)]:=by rw[afk];rfl
 rw[n]at h;clear kk1 kk2 g i l N a f u r n;refine⟨_,_,(show aeW 97 [.sl U d.length none] _ _ from aes ⟨rfl,rfl⟩),?_⟩;refine aib ?_;exact⟨.inl rfl,True,[],rfl,trivial,ag h.o⟩
end Go.Proofs.YtajkbcmleihaoaaGreatDoor.Av
