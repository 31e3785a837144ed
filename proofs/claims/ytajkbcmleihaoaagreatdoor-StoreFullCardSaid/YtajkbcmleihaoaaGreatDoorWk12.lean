/- Joined texts of the walk, made small by a program. -/
import Derived.Test.YtajkbcmleihaoaaGreatDoorWk11
import Derived.Test.YtajkbcmleihaoaaGreatDoorWk4
import Derived.Test.YtajkbcmleihaoaaGreatDoorRows
import Derived.KernelRfl
import Derived.Test.YtajkbcmleihaoaaGreatDoorWk10
import Derived.Test.YtajkbcmleihaoaaGreatDoorWk8
import Derived.Test.YtajkbcmleihaoaaGreatDoorWk5
import Derived.Sort.Walk0
import Derived.Test.YtajkbcmleihaoaaGreatDoorWk9
import Derived.Test.YtajkbcmleihaoaaGreatDoorWk7
import Derived.Shelf.Strings.Builder1
import Derived.Shelf.Strings.Builder2
import Derived.Shelf.Strings.OnBuilder
import Derived.Shelf.Strings.Trim
import Derived.Shelf.Small.Utf8
import Derived.Shelf.Small.Bits
import Derived.Shelf.Small.Strs
import Derived.Shelf.Strings.BuilderF
import Derived.Shelf.Strings.BuilderK
import Derived.Shelf.Strings.Builder2Cap
import Derived.Shelf.Strconv.Itoa0
import Derived.Shelf.Strings.Search1
import Derived.Shelf.Strings.Search2
import Derived.Shelf.Strings.Cut
import Derived.Shelf.LaysM
import Derived.Shelf.Strings.Shaped
import Derived.Shelf.Sort.Plain
import Derived.Shelf.Strings.Prefix
import Derived.Shelf.Strings.Runes
import Derived.Shelf.Strings.AsciiSet
import Derived.Shelf.Bits.Mul64
import Derived.Shelf.Strings.Repeat
import Derived.Shelf.Unicode.DecodeSlow
import Derived.Shelf.Unicode.DecodeAny
import Derived.Shelf.Unicode.DecodeLast
import Derived.Shelf.Strings.BuilderCap
import Derived.Shelf.Slices.Equal
import Derived.Ground.Names2Prog
import Derived.Shelf.Slices.Clone
import Derived.Shelf.Slices.In.SortNone
import Derived.Shelf.Slices.Empties2
import Derived.Ground.SlsfProg
import Derived.Shelf.SlSortCmp.Insertion
import Derived.Shelf.SlSortCmp.SiftDown1
import Derived.Shelf.SlSortCmp.HeapSort1
import Derived.Shelf.SlSortCmp.Insertion1
import Derived.Shelf.SlSortCmp.Median1
import Derived.Shelf.SlSortCmp.Pivot1
import Derived.Shelf.SlSortCmp.ReverseRange1
import Derived.Shelf.SlSortCmp.PartialInsertion1
import Derived.Shelf.SlSortCmp.PartitionEqual1
import Derived.Shelf.SlSortCmp.Partition1
import Derived.Shelf.SlSortCmp.Pdq1
import Derived.Shelf.SlSortCmp.Whole1
import Derived.Shelf.SlSortCmp.NoneTotal
import Derived.Test.YtajkbcmleihaoaaGreatDoorProg
import Derived.WalkKit
import Derived.WalkLawsBesides
import Derived.Deep.QuietTactic
import Derived.Deep.LoopGhost
import Derived.BigQuiet
import Derived.Lib.Walk
set_option linter.unusedSimpArgs false
set_option linter.unusedVariables false
namespace Go.Proofs.YtajkbcmleihaoaaGreatDoor.Av
open Go
set_option maxHeartbeats 8000000
set_option maxRecDepth 100000
theorem TK{α:Type}{l:List α}{i:Nat}{d:α}(h:i<l.length):l.getD i d∈l:=by simp[h]
theorem acF{s:Sec}{g h:Nat}(e:rdH aA s=some (g,h)):g<2^32:=by unfold rdH at e;split at e;cases e;split at e;cases e;cases e;exact kJ s 5 4
def hdK(S:List Sec):Nat->Nat×Nat×Nat×Int
 |0=>(0,0,1,-1)
 |1=>Gc aA (0,0,1,-1) 0 (S.getD 0 [])
 |_=>vL aA S
theorem Zo(S:List Sec){k:Nat}(a:k<2):hdK S (k+1)=Gc aA (hdK S k) k (S.getD k []):=by rcases(by omega:k=0\/k=1)with rfl|rfl<;>rfl
theorem Md{σ:Type}(f:σ->Option Cel)(gen:Nat):∀(n:Nat) (R:List σ) (a:List (List UInt8)),(gg f gen n R a).length<=a.length+n
 |0,R,a=>by simp[gg]
 |n+1,[],a=>by simp[gg]
 | n+1,s::r,a=>by
   rw[gg];cases jJ f gen a.length (s::r) 0 1 []with
   |none=>simp only;omega
   | some p =>
     obtain⟨b,c⟩:=p;have:=Md f gen n c (a++[b]);simp only[aez,aeB,aeY]at this⊢;omega
theorem UO{m k:Nat}{R:List Sec}(a:k<R.length):qp aA m (R.take (k+1))=(match rdC aA (R.getD k [])with|none=>qp aA m (R.take k)|some c=>max (qp aA m (R.take k)) c.gen):=by unfold qp;rw[aeM a,List.foldl_append];simp only[aft,agD];rw[show R.getD k []=R[k]by simp[a]];cases rdC aA R[k]<;>rfl
section
variable {L:List Blk}{dp lp wp ck:Nat}{cp:Option Nat}{lim:Int}{x y z:AV}{S:List Sec}
theorem abf(hd:L[dp]?=some (.cells (fy lp wp S.length cp lim false 0 x y z)))(hl:L[lp]?=some (.cells (S.map AV.str)))(hw:L[wp]?=some (.map [] ck))(n1:dp≠lp)(n2:dp≠wp)(n3:lp≠wp)(a9:S.length<=8192)(h4:4<=S.length)(H:∀s∈S,s.length=128)(cx:lim<=9000)(ch:(aX aA S (if(S.length:Int)<lim then(S.length:Int)else lim) (bB aA S).1 (bB aA S).2).1=0){K:aeh}(h:∀M jp E c,M[jp]?=some (.cells (j8 dp (aX aA S (if(S.length:Int)<lim then(S.length:Int)else lim) (bB aA S).1 (bB aA S).2).2.1 false))->M[lp]?=some (.cells ((aX aA S (if(S.length:Int)<lim then(S.length:Int)else lim) (bB aA S).1 (bB aA S).2).2.2.map AV.str))->M[wp]?=some (.map [] E)->(∀i,i≠lp->i≠wp->i<L.length->M[i]?=L[i]?)->L.length<=M.length->L.length<=jp ->
   K (.tup [.ptr jp 0,.sl ((bB aA S).2.map AV.str) (bB aA S).2.length c,.int .i64 0]) M):
  aeg 22 [.ptr dp 0] L K:=by
 obtain⟨RR,A⟩:=aec (aX aA S (if(S.length:Int)<lim then(S.length:Int)else lim) (bB aA S).1 (bB aA S).2);rw[A]at ch h;obtain⟨N,hN⟩:=aec (S.length);have kk1:Hid (∀{K:aeh},K (.int .i64 (N:Int)) L->aeg 51 [.ptr dp 0] L K):=@hid _ (λ{K} q=>Wi hd (by rw[hN];exact q));have ap:∀X:List Blk,(L++X)[dp]?=some (.cells (fy lp wp S.length cp lim false 0 x y z)):=λX=>aed hd
 have a0:∀X:List Blk,(L++X)[lp]?=some (.cells (S.map AV.str)):=λX=>aed hl
 have a4:∀X:List Blk,(L++X)[wp]?=some (.map [] ck):=λX=>aed hw
 have kR:Hid (∀(k:Nat) (X:List Blk),k<N->∀{K:aeh},K (.tup [.str (S.getD k []),.int .i64 0]) (L++X)->aeg 52 [.ptr dp 0,.int .i64 (k:Int)] (L++X) K):=hid (λk X hk K q=>abu (ws:=[]) (ap X) (a0 X) (a4 X) ahd q);have g1:¬(N:Int)<4:=ahd;replace h:=hid h;have b':=hid hd;have cy:=hid hl;have cb:=hid hw;replace ap:=hid ap;replace a0:=hid a0;replace a4:=hid a4;replace A:=hid A;replace H:=hid H;clear hd hl hw;refine aef LS ?_;refine cB (l:=[]) (n:=0) 5 1 rfl (aeW 1).symm ?_;refine ao (λm T' L'=>∃(k:Nat) (C:List AV) (X:List Blk),m=N-k/\k<=N/\Hid (C=(S.take k).map AV.str)/\T'=[(31,.int .i64 (k:Int)),(30,.int .i64 (N:Int)),(5,.gsl C k L.length 1),(2,.nilptr),(3,.sl [] 0 (some 0)),(4,.int .i64 0),(0,.ptr dp 0)]/\L'=L++(.spare k 1::X)) ahh ⟨0,[],[],rfl,aep _,hid rfl,rfl,ahe⟩ ?_;rintro m _ _ ⟨k,C,X,hm,hk,hC,rfl,rfl⟩;subst m;by_cases r:k<N;have g2:(k:Int)<(N:Int):=ahd;have g3:IntKind.i64.wrap ((k:Int)+1)=((k+1:Nat):Int):=by rw[ac ahd ahd];omega
 obtain⟨s,hs⟩:=aec (S.getD k []);have kk2:Hid (∀{X:List Blk}{K:aeh},K (.tup [.str s,.int .i64 0]) (L++X)->aeg 52 [.ptr dp 0,.int .i64 (k:Int)] (L++X) K):=@hid _ (λ{X K} q=>kR.o k X r (by rw[hs];exact q));have c5:Hid (C++[.str s]=(S.take (k+1)).map AV.str):=hid (by rw[aeM ahd,aeD,<- hC.o,<- hs];simp[hN,r])
 clear h hC hs kR kk1;refine wk ?_;exact ahi ahd ahg ⟨k+1,_,_,rfl,r,c5,rfl,rfl⟩;have c1:k=N:=ahd;subst c1;have g2:¬(k:Int)<(k:Int):=ahd;obtain⟨AL,W⟩:=aec (S.map AV.str);have c6:C=AL:=by have:=hC.o;rw[<- hN,aeI,W]at this;exact this
 subst c6;clear hC r hk kR kk1;refine wk ?_;obtain⟨w,G⟩:=aec (L ++ .spare k 1::X);obtain⟨jp,b5⟩:=aec (L.length+(X.length+1));have F:w.length=jp:=by rw[<- G,<- b5];simp
 rw[show ∀b:Blk,L++Blk.spare k 1::(X++[b])=w++[b]from λb=>by rw[<- G];simp,b5];have u:Hid (∀Y:List Blk,(w++Y)[dp]?=some (.cells (fy lp wp S.length cp lim false 0 x y z))):=hid (λY=>by rw[<- G,aew];exact ap.o _);have I:Hid (∀Y:List Blk,(w++Y)[lp]?=some (.cells (S.map AV.str))):=hid (λY=>by rw[<- G,aew];exact a0.o _);have O:Hid (∀Y:List Blk,(w++Y)[wp]?=some (.map [] ck)):=hid (λY=>by rw[<- G,aew];exact a4.o _);have T:Hid (∀(i:Nat) (Y:List Blk),i<L.length->(w++Y)[i]?=L[i]?):=hid (λi Y hi=>by rw[<- G,aew,aem hi]);have c_:L.length<jp:=ahd;have bo:∀b:Blk,(w++[b])[jp]?=some b:=λb=>by rw[<- F];simp
 have cl:∀b c:Blk,(w++[b]).set jp c=w++[c]:=λb c=>by rw[<- F,aeZ _ _ (aek _)];simp
 replace G:=hid G;replace F:=hid F;have c2:=hid (And.intro (aei.1 b'.o).1 (And.intro (aei.1 cy.o).1 (aei.1 cb.o).1));clear ap a0 a4 b' cy cb b5;obtain⟨A2,a8⟩:=aec (C.take 2);have c':A2.length=2:=by rw[<- a8,<- W];simp;omega
 have al:Hid (∀i,i<2->A2.getD i .undef=.str (S.getD i [])):=hid (λi hi=>by rw[<- a8,<- W,aeA,aeA,aeS hi];have:i<S.length:=ahd;simp[this])
 rw[a8];replace W:=hid W;clear a8;refine ao (λmm T' L'=>∃(i m c h:Nat) (sl:Int),mm=2-i/\i<=2/\Hid (hdK S i=(m,c,h,sl))/\m<2^32/\c<2^32/\h<=1/\(-1<=sl/\sl<=1)/\T'=[(54,.int .i64 (i:Int)),(53,.int .i64 2),(52,.sl A2 2 none),(11,.int .i64 (c:Int)),(10,.int .i64 (m:Int)),(9,.ptr jp 0),(5,.gsl C k L.length 1),(2,.nilptr),(3,.sl [] 0 (some 0)),(4,.int .i64 0),(0,.ptr dp 0)]/\L'=w++[.cells (j8 dp ⟨0,h,sl,0,0⟩ false)]) ahh ⟨0,0,0,1,-1,rfl,by decide,hid rfl,by decide,by decide,by decide,by decide,rfl,rfl⟩ ?_;rintro mm _ _ ⟨i,m,c,t,sl,hm,hi,hK,an,a5,bb,b_,rfl,rfl⟩;subst mm;by_cases r:i<2;have g5:(i:Int)<2:=ahd;have g6:IntKind.i64.wrap ((i:Int)+1)=((i+1:Nat):Int):=by rw[ac ahd ahd];omega
 obtain⟨a,ha⟩:=aec (S.getD i []);have e1:=al.o i r;rw[ha]at e1;have bx:i<A2.length:=ahd;have f:a.length=128:=H.o a (by rw[<- ha];exact TK ahd);have d:=Zo S r;rw[hK.o,ha]at d;unfold Gc at d;cases hr:rdH aA a with
 | none =>
   rw[hr]at d;have kk1:Hid (Ctr Tryz.prog 53 [.str a] (.tup [.int .i64 0,.int .i64 0,.bool false])):=@hid _ (λ{L K} q=>Zn f (by rw[hr];exact q));replace d:=hid d;clear h hK ha hr u I O T al f A;refine wk ?_;exact ahi ahd ahg ⟨i+1,m,c,t,sl,rfl,r,d,an,a5,bb,b_,rfl,rfl⟩
 | some p =>
   obtain⟨g,hh⟩:=p;rw[hr]at d;dsimp only at d;have b1:=acF hr;have b2:=(Pf hr).1;have kk1:Hid (Ctr Tryz.prog 53 [.str a] (.tup [.int .i64 (g:Int),.int .i64 (hh:Int),.bool true])):=@hid _ (λ{L K} q=>Zn f (by rw[hr];exact q));obtain⟨m2,P⟩:=aec (max m g);have g7:(if(g:Int)>(m:Int)then(g:Int)else(m:Int))=(m2:Int):=(by rw[<- P];split<;>omega);rw[P]at d;have ai:m2<2^32:=ahd;by_cases cg:c<g
   .have g8:(c:Int)<(g:Int):=ahd;rw[if_pos cg]at d;replace d:=hid d;clear h hK ha hr u I O T al f A P;refine wk ?_;exact ahi ahd ahg ⟨i+1,m2,g,hh,(i:Int),rfl,r,d,ai,b1,b2,ahd,rfl,rfl⟩
   .have g8:¬(c:Int)<(g:Int):=ahd;rw[if_neg cg]at d;replace d:=hid d;clear h hK ha hr u I O T al f A P;refine wk ?_;exact ahi ahd ahg ⟨i+1,m2,c,t,sl,rfl,r,d,ai,a5,bb,b_,rfl,rfl⟩
 have bx:i=2:=ahd;subst bx;have bd:vL aA S=(m,c,t,sl):=hK.o;obtain⟨sz,v⟩:=aec (aQ S.length);have kk1:Hid (∀{K:aeh},K (.int .i64 (sz:Int)) (w++[.cells (j8 dp ⟨0,t,sl,0,0⟩ false)])->aeg 54 [.ptr jp 0] (w++[.cells (j8 dp ⟨0,t,sl,0,0⟩ false)]) K):=@hid _ (λ{K} q=>LI (j:=⟨0,t,sl,0,0⟩) (bo _) (u.o _) ahd a9 (by rw[v];exact q));have cm:2+2*sz<=k:=by rw[<- v,<- hN];unfold aQ;omega
 have c9:1<=sz:=by rw[<- v];unfold aQ;omega
 obtain⟨U,bk⟩:=aec (2*sz);have g5:IntKind.i64.wrap (2*(sz:Int))=(U:Int):=by rw[ac ahd ahd];omega
 obtain⟨e2,dn⟩:=aec (2+U);have g6:IntKind.i64.wrap (2+(U:Int))=(e2:Int):=by rw[ac ahd ahd];omega
 have g7:e2<=k:=ahd;have g8:e2-2=U:=ahd;have g9:2<=e2:=ahd;obtain⟨BL,ab⟩:=aec ((S.drop 2).take U);obtain⟨B,hB⟩:=aec ((C.drop 2).take U);have bn:BL.length=U:=by rw[<- ab];simp;omega
 have b6:B=BL.map AV.str:=by rw[<- hB,<- ab,<- W.o,ago,agC]
 have c3:B.length=U:=by rw[b6,aeu,bn]
 have a':Hid (∀i,i<U->B.getD i .undef=.str (BL.getD i [])):=hid (λi hi=>by rw[b6,aeA,aeA];simp[show i<BL.length by omega])
 have D:Hid (∀s∈BL,s.length=128):=hid (λs hs=>H.o s (by rw[<- ab]at hs;exact afM (agp hs)));replace ab:=hid ab;replace bd:=hid bd;replace v:=hid v;replace bk:=hid bk;clear hK r hi b6;refine wk ?_;refine ao (λmm T' L'=>∃(i m':Nat) (Y:List Blk),mm=U-i/\i<=U/\Hid (qp aA m (BL.take i)=m')/\m'<2^32/\T'=[(89,.int .i64 (i:Int)),(88,.int .i64 (U:Int)),(87,.sl B U none),(11,.int .i64 (c:Int)),(10,.int .i64 (m':Int)),(9,.ptr jp 0),(5,.gsl C k L.length 1),(2,.nilptr),(3,.sl [] 0 (some 0)),(4,.int .i64 0),(0,.ptr dp 0)]/\L'=w++(.cells (j8 dp ⟨0,t,sl,0,0⟩ false)::Y)) ahh ⟨0,m,[],rfl,aep _,hid rfl,an,rfl,rfl⟩ ?_;rintro mm _ _ ⟨i,m',Y,dk,hi,av,b0,rfl,rfl⟩;subst mm;by_cases r:i<U;have p1:(i:Int)<(U:Int):=ahd;have p2:IntKind.i64.wrap ((i:Int)+1)=((i+1:Nat):Int):=by rw[ac ahd ahd];omega
 obtain⟨a,ha⟩:=aec (BL.getD i []);have e1:=a'.o i r;rw[ha]at e1;have bx:i<B.length:=ahd;have f:a.length=128:=D.o a (by rw[<- ha];exact TK ahd);have d:=UO (m:=m) (R:=BL) (k:=i) ahd;rw[av.o,ha]at d;cases hr:rdC aA a with
 | none =>
   rw[hr]at d;have kk1:Hid (Ctr Tryz.prog 55 [.str a] (.tup [.agg (Gj TZ),.bool false])):=@hid _ (λ{L K} q=>OV f (by rw[hr];exact q));replace d:=hid d;clear h av ha hr u I O T f A a' D bo cl;refine wk ?_;exact ahi ahd ahg ⟨i+1,m',_,rfl,r,d,b0,rfl,rfl⟩
 | some p =>
   have l1:=(YP hr).1;obtain⟨cg,cs,cn,cq,cd⟩:=p;rw[hr]at d;dsimp only at d l1;have kk1:Hid (Ctr Tryz.prog 55 [.str a] (.tup [.agg (Gj ⟨cg,cs,cn,cq,cd⟩),.bool true])):=@hid _ (λ{L K} q=>OV f (by rw[hr];exact q));obtain⟨m2,P⟩:=aec (max m' cg);have p3:(if(cg:Int)>(m':Int)then(cg:Int)else(m':Int))=(m2:Int):=(by rw[<- P];split<;>omega);have w2:=We (n:=cg) ahd;rw[P]at d;have ai:m2<2^32:=ahd;replace d:=hid d;clear h av ha hr u I O T f A a' D bo cl P;refine wk ?_;exact ahi ahd ahg ⟨i+1,m2,_,rfl,r,d,ai,rfl,rfl⟩
 have c7:i=U:=ahd;subst c7;have d:bB aA S=(⟨m',t,sl,0,0⟩,if 0<=sl then gg (rdC aA) c sz ((S.drop (aJ S.length t)).take sz) []else[]):=by unfold bB;rw[bd.o,v.o,bk.o,ab.o];have:=av.o;rw[aeO ahd]at this;rw[this]
 have p1:¬(i:Int)<(i:Int):=ahd;have a6:∀(b:Blk) (Z:List Blk),(w++b::Z)[jp]?=some b:=λb Z=>by rw[<- F.o];simp
 have ca:∀(b c:Blk) (Z:List Blk),(w++b::Z).set jp c=w++c::Z:=λb c Z=>by rw[<- F.o,aeZ _ _ (aek _)];simp
 have a_:Hid (∀(rc:List (List UInt8)) (co:Option Nat),(bB aA S).2=rc->∀{K2:AV->List Blk->Prop},(∀M E,M[jp]?=some (.cells (j8 dp RR.2.1 false))->M[lp]?=some (.cells (RR.2.2.map AV.str))->M[wp]?=some (.map [] E)->(∀i,i≠lp->i≠wp->i<L.length->M[i]?=L[i]?)->L.length<=M.length->K2 (.int .i64 0) M)->aeg 29 [.ptr jp 0,.sl (rc.map AV.str) rc.length co] (w ++ .cells (j8 dp ⟨m',t,sl,0,0⟩ false)::Y) K2):=hid (λrc co q K2 e=>by
  obtain⟨a1,a2,a3⟩:=c2.o;have c4:aX aA S (if(S.length:Int)<lim then(S.length:Int)else lim) ⟨m',t,sl,0,0⟩ rc=RR:=(by rw[<- A.o,q,d]);have c8:rc.length<=1000000:=by rw[<- q,d];have cm:sz<=8192:=(by rw[<- v.o];unfold aQ;omega);dsimp only;split;have:=Md (rdC aA) c sz ((S.drop (aJ S.length t)).take sz) [];simp only[aeY]at this;omega;simp
  refine Tw (j:=⟨m',t,sl,0,0⟩) (a6 _ _) (u.o _) (I.o _) (O.o _) n1 n2 n3 ahd ahd ahd a9 h4 bb cx c8 (λM E r1 r2 r3 r4 r5=>?_);rw[c4]at r1 r2⊢;rw[ch];exact e M E r1 r2 r3 (λi b1 b2 b3=>by rw[r4 i ahd b1 b2 (by simp;have:=F.o;omega)];exact T.o i _ b3) (by have:=F.o;simp at r5;omega))
 have V:Hid ((bB aA S).2=if 0<=sl then gg (rdC aA) c sz ((S.drop (aJ S.length t)).take sz) []else[]):=hid (by rw[d]);clear av an bd bk ab a' D hB c3 bn hi d;by_cases ad:0<=sl;have p2:decide (0<=sl)=true:=decide_eq_true ad;have Q:=V.o;rw[if_pos ad]at Q;obtain⟨rc,J⟩:=aec (gg (rdC aA) c sz ((S.drop (aJ S.length t)).take sz) []);rw[J]at Q;have cf:aJ S.length t+sz<=k:=by rw[<- v.o,<- hN];unfold aJ aQ;rcases(by omega:t=0\/t=1)with rfl|rfl<;>omega
 obtain⟨fs,bs⟩:=aec (aJ S.length t);have kk1:Hid (∀{Z:List Blk}{K:aeh},K (.int .i64 (fs:Int)) (w ++ .cells (j8 dp ⟨0,t,sl,0,0⟩ false)::Z)->aeg 56 [.ptr jp 0,.int .i64 (t:Int)] (w ++ .cells (j8 dp ⟨0,t,sl,0,0⟩ false)::Z) K):=@hid _ (λ{Z K} q=>LK (j:=⟨0,t,sl,0,0⟩) (a6 _ _) (u.o _) ahd a9 bb (by rw[bs];exact q));have kk2:Hid (∀{Z:List Blk}{K:aeh},K (.int .i64 (sz:Int)) (w ++ .cells (j8 dp ⟨0,t,sl,0,0⟩ false)::Z)->aeg 54 [.ptr jp 0] (w ++ .cells (j8 dp ⟨0,t,sl,0,0⟩ false)::Z) K):=@hid _ (λ{Z K} q=>LI (j:=⟨0,t,sl,0,0⟩) (a6 _ _) (u.o _) ahd a9 (by rw[v.o];exact q));obtain⟨e3,ct⟩:=aec (fs+sz);rw[bs]at J cf;have p3:IntKind.i64.wrap ((fs:Int)+(sz:Int))=(e3:Int):=by rw[ac ahd ahd];omega
 have p4:e3-fs=sz:=ahd;have p5:fs<=e3:=ahd;have p6:e3<=k:=ahd;obtain⟨B2,c0⟩:=aec ((C.drop fs).take sz);obtain⟨RL,a7⟩:=aec ((S.drop fs).take sz);have bl:RL.length=sz:=by rw[<- a7];simp;omega
 have ci:B2=RL.map AV.str:=by rw[<- c0,<- a7,<- W.o,ago,agC]
 rw[a7]at J;have kk3:Hid (Ctr Tryz.prog 57 [.sl B2 sz none,.int .i64 (c:Int)] (.sl (rc.map AV.str) rc.length none)):=@hid _ (λ{L K} q=>by have:=UE (R:=RL) (gen:=c) (n:=sz) (L:=L) (K:=K) (λs hs=>H.o s (by rw[<- a7]at hs;exact afM (agp hs))) a5 ahd ahd (by rw[J];exact q);rw[<- ci,bl]at this;exact this)
 obtain⟨RA,b7⟩:=aec (rc.map AV.str);obtain⟨rn,b4⟩:=aec (rc.length);rw[b7,b4]at kk3;replace ct:=hid ct;clear ci a7 bl J bs v V;refine wk ?_;rw[<- b7,<- b4];refine a_.o rc none Q (λM E r1 r2 r3 r4 r5=>?_);have hK:=hid (h.o M jp E none r1 r2 r3 r4 r5 ahd);rw[Q]at hK;rw[b7,b4]at hK⊢;clear r1 r2 r3 r4 r5 a_ h kk1 kk2 kk3 a6 ca u I O T;refine wk ?_;exact ag hK.o;have p2:decide (0<=sl)=false:=decide_eq_false ad;have Q:=V.o;rw[if_neg ad]at Q;refine wk ?_;refine a_.o [] (some 0) Q (λM E r1 r2 r3 r4 r5=>?_);have hK:=hid (h.o M jp E (some 0) r1 r2 r3 r4 r5 ahd);rw[Q]at hK;clear r1 r2 r3 r4 r5 a_ h a6 ca u I O T;refine wk ?_;exact ag hK.o
end
end Go.Proofs.YtajkbcmleihaoaaGreatDoor.Av
set_option maxRecDepth 100000
namespace Go.Proofs.YtajkbcmleihaoaaGreatDoor.Av
open Go
def CT:LSO:=[Aq 2]
def CS:LSO:=[Aq 3]
def CR:LSO:=[Aa 10 0,Aa 11 0,Aa 12 0,Ag 13 33 12,Ax 14 26 11 13,Ba 15 32 10 14 2,Af 16 15,Ab 17 0]
def CQ:LSO:=[Ap 18 17 16]
def CP:LSO:=[Ak 19 1 15 17,Ac 20 1 19,Aa 5 20]
def CO:LSO:=[Aa 22 0,Aa 23 5,Ax 24 34 22 23,Aa 21 24,Am 25 21,An 26 21,Aa 6 25,Aa 7 26]
def CN:LSO:=[Aa 28 6,Aa 29 7,
 o1 30 (.build [(.int .i64 0),(.sl [] 0 (some 0)),(.sl [] 0 (some 0)),(.sl [] 0 (some 0))] [(0,(1,(iv 1))),(1,(1,(tm 28))),(3,(1,(tm 29)))]),Ag 31 14 30,Aa 27 31,Am 32 27,
 An 33 27,Aa 8 32,Aa 9 33]
def CM:LSO:=[Aa 34 3,Aa 35 8,AK 36 35,Be 37 34 36,Aa 3 37]
def CL:LSO:=[Aj 38 17 1,Aa 17 38]
def At:LSO:=[Aa 39 3,Aa 2 39]
def vO:aI:=⟨40,(ag6 CT [] (ag6 CS [] (.seq (ag6 CR C6 (ag9 0 (ag6 CQ [] (.seq (aha 18 0) (.seq (.block 1 (ag6 CP Cd (ag6 CO Cq (ag6 CN [false,true,false,false,false,false,false,false,false] (.sreg CM Cf))))) (.sreg CL Cc)))))) (ag6 At Cc .ret)))),[(.tmp 2)]⟩
attribute [push_cast] CT CS CR CQ CP CO CN CM CL At
theorem My:ahb 30=ahc vO:=ahf
attribute [push_cast] vO
end Go.Proofs.YtajkbcmleihaoaaGreatDoor.Av
set_option maxRecDepth 100000
namespace Go.Proofs.YtajkbcmleihaoaaGreatDoor.Av
open Go
def Fu:LSO:=[Al 4]
def Ft:LSO:=[Aa 7 0,Af 8 7,Aa 9 1,Af 10 9,AT 11 8 10]
def Fs:LSO:=[Al 4]
def Fq:LSO:=[Aa 12 0,Af 13 12,Ab 14 0]
def Fp:LSO:=[Ap 15 14 13]
def Fo:LSO:=[Aa 16 14,Aa 5 16]
def Fn:LSO:=[Aa 17 0,Aa 18 5,Ak 19 1 17 18,Ac 20 1 19,Af 21 20,Aa 22 1,Aa 23 5,Ak 24 1 22 23,Ac 25 1 24,Af 26 25,AT 27 21 26]
def Fm:LSO:=[Al 4]
def Fl:LSO:=[Aa 28 0,Aa 29 5,Ak 30 1 28 29,Ac 31 1 30,Af 32 31,Ab 33 0]
def Fk:LSO:=[Ap 34 33 32]
def zG:LSO:=[Aa 35 33,Aa 6 35]
def zF:LSO:=[Aa 36 0,Aa 37 5,Ak 38 1 36 37,Ac 39 1 38,Aa 40 6,Ak 41 2 39 40,Ay 42 2 41,Aa 43 1,Aa 44 5,Ak 45 1 43 44,Ac 46 1 45,Aa 47 6,Ak 48 2 46 47,Ay 49 2 48,
 o1 50 (.eq2 true (tm 42) (tm 49))]
def zE:LSO:=[Al 4]
def zD:LSO:=[Aj 51 33 1,Aa 33 51]
def zC:LSO:=[Aj 52 14 1,Aa 14 52]
def zB:LSO:=[AA 4]
def yZ:aI:=⟨53,(ag6 Fu [] (.seq (ag6 Ft Cf (ag8 11 (.sreg Fs []))) (.seq (ag6 Fq Ci (ag9 0 (ag6 Fp [] (.seq (aha 15 0) (.seq (.block 1 (ag6 Fo Cc (.seq (.seq (.sdreg Fn [.pure,.pure,(.read 0 0),(.read 0 0),(.read 0 0),.pure,.pure,(.read 0 0),(.read 0 0),(.read 0 0)] Cu) (ag8 27 (.sreg Fm []))) (ag6 Fl Cx (ag9 2 (ag6 Fk [] (.seq (aha 34 2) (.seq (.block 3 (ag6 zG Cc (.seq (.sdreg zF [.pure,.pure,(.read 0 0),(.read 0 0),.pure,(.read 0 0),(.read 0 0),.pure,.pure,(.read 0 0),(.read 0 0),.pure,(.read 0 0),(.read 0 0)] CE) (ag8 50 (.sreg zE []))))) (.sreg zD Cc))))))))) (.sreg zC Cc)))))) (ag6 zB [] .ret)))),[(.tmp 4)]⟩
attribute [push_cast] Fu Ft Fs Fq Fp Fo Fn Fm Fl Fk zG zF zE zD zC zB
theorem Oz:ahb 46=ahc yZ:=ahf
attribute [push_cast] yZ
variable {L:List Blk}{K:aeh}
set_option maxHeartbeats 8000000
set_option maxRecDepth 100000
def dnM(d:List Rdn):Prop:=d.length<=1100000/\∀r∈d,r.length<=1100000/\∀a∈r,(a.1.length:Int)<=140737488351232
theorem dnM.b{d:List Rdn}(h:dnM d):dnB d:=⟨h.1,λr hr=>(h.2 r hr).1⟩
theorem Tg{d:List Rdn}(h:OkD d):d.length<=1000/\∀r∈d,r.length<=1000/\∀a∈r,a.1.length<=10000/\a.2.length<=10000:=by obtain⟨e,b⟩:=RO h;exact⟨ahd,λr hr=>⟨by have:=(b r hr).1;omega,λa c=>⟨by have:=((b r hr).2 a c).1;omega,by have:=((b r hr).2 a c).2;omega⟩⟩⟩
theorem OkD.m{d:List Rdn}(h:OkD d):dnM d:=⟨by have:=(Tg h).1;omega,λr hr=>⟨by have:=((Tg h).2 r hr).1;omega,λa b=>by have:=(((Tg h).2 r hr).2 a b).1;omega⟩⟩
theorem aaG{d:List Rdn}{cap:Option Nat}(hd:OkD d)(h:K (.str (aN true d)) L):
  aeg 76 [.sl (d.map aH) d.length cap,.bool true] L K:=by
 obtain⟨g,e⟩:=RO hd;have b:∀r∈d,(cE true r).length<=200000:=λr hr=>JS (e r hr).1 (λa c=>((e r hr).2 a c).1) (λa c=>((e r hr).2 a c).2)
 have f:=JL ahd b;exact VK (Tg hd).1 (Tg hd).2 (λr hr=>by have:=b r hr;omega) ahd h
theorem VG{d b:List Rdn}{cap g:Option Nat}(hd:dnB d)(m:dnB b)(h:K (.bool (gp d b)) L):
  aeg 77 [.sl (d.map aH) d.length cap,.sl (b.map aH) b.length g] L K:=by
 have e:gp d b=(decide (OkD d)&&decide (OkD b)&&decide (b.length<=d.length)&&decide (aN true (d.drop (d.length-b.length))=aN true b)):=rfl;obtain⟨⟨ps,u⟩,n⟩:∃q,prS d=q:=⟨_,rfl⟩;obtain⟨⟨w,ne⟩,i⟩:∃q,RW b=q:=⟨_,rfl⟩;have kk1:Hid (Ctr Tryz.prog 35 [.sl (d.map aH) d.length cap] (.tup [.str ps,.int .i64 u])):=@hid _ (by intro L K q;exact yE hd.1 hd.2 (by rw[n];exact q));have kk2:Hid (Ctr Tryz.prog 61 [.sl (b.map aH) b.length g] (.tup [.str w,.int .i64 ne])):=@hid _ (by intro L K q;exact Mh m.1 m.2 (by rw[i];exact q));have l:OkD d↔u=0:=by unfold OkD;rw[n]
 by_cases r:u=0;rotate_left;rw[e,decide_eq_false (λc=>r (l.1 c))]at h;simp only[afX]at h;replace h:=hid h;clear n i e l hd m;refine aef mf ?_;exact ag h.o;have a:OkD d:=l.2 r;by_cases s:ne=0;rotate_left;rw[e,decide_eq_false (p:=OkD b) (λc=>s (by have:=qv c;rw[i]at this;injection this))]at h;simp only[afX,agO]at h;replace h:=hid h;subst r;clear n i e l hd m a;refine aef mf ?_;exact ag h.o;have f:OkD b:=by by_cases c:OkD b;exact c;exact absurd (by rw[i];exact s) (RV c)
 have j:w=aN true b:=by have:=qv f;rw[i]at this;injection this
 rw[decide_eq_true a,decide_eq_true f]at e;simp only[ae9]at e;subst r s;by_cases t:b.length<=d.length;rotate_left;rw[e,decide_eq_false t]at h;simp only[afX]at h;replace h:=hid h;have g1:(d.length:Int)<(b.length:Int):=ahd;clear n i e l hd m a f j;refine aef mf ?_;exact ag h.o;rw[e,decide_eq_true t,<- j]at h;simp only[ae9]at h;obtain⟨k,v⟩:=aec (d.length-b.length);rw[v]at h;have kk3:Hid (∀{c:Option Nat}{L:List Blk}{K:aeh},K (.str (aN true (d.drop k))) L->aeg 76 [.sl (List.take (d.length-k) (List.drop k (d.map aH))) (d.length-k) c,.bool true] L K):=@hid _ (by intro c L K q;have:=aaG (cap:=c) (a.drop k) q;rw[afu]at this;rw[<- agC,aeO ahe];exact this)
 have g1:¬(d.length:Int)<(b.length:Int):=ahd;have x:d.length<=32:=a.len;have y:IntKind.i64.wrap ((d.length:Int)-(b.length:Int))=(k:Int):=by rw[ac ahd ahd];omega
 have g3:(k:Int)<=(d.length:Int):=ahd;replace h:=hid h;clear n i e l hd m a f j v t x;refine aef mf ?_;exact ag h.o
abbrev aw:=Ent (List Atr)
instance:Inhabited aw:=⟨⟨0,[],[]⟩⟩
def atR(v:List Atr):AV:=.sl (bh v) v.length none
def R9(x:aw):List AV:=[.int .i64 x.id,dnA x.nm,atR x.av]
def dN(l:List aw):List AV:=l.flatMap R9
theorem XC(l:List aw):(dN l).length=l.length*3:=by
 induction l with
 |nil=>rfl
 | cons x l ih =>
   unfold dN at ih⊢;rw[afe,aez,ih,aeB];simp only[R9,aeB,aeY];omega
theorem XE(l m:List aw):dN (l++m)=dN l++dN m:=by simp[dN]
theorem Vm(l:List aw)(k:Nat):(dN l).drop (k*3)=dN (l.drop k):=by
 induction l generalizing k with
 |nil=>simp[dN]
 | cons x l ih =>
   cases k with
   |zero=>simp
   | succ k =>
     rw[agx,<- ih k,show(k+1)*3=k*3+1+1+1 by omega];simp[dN,R9]
theorem ZD{l:List aw}{k:Nat}(h:k<l.length):((dN l).drop (k*3)).take 3=R9 (l.getD k default):=by rw[Vm,ae3 h,show l.getD k default=l[k]by simp[h]];unfold dN;rw[afe];rfl
theorem XD{l:List aw}{k:Nat}(h:k<l.length):(dN l).getD (k*3) .undef=.int .i64 (l.getD k default).id/\(dN l).getD (k*3+1) .undef=dnA (l.getD k default).nm/\(dN l).getD (k*3+2) .undef=atR (l.getD k default).av:=by
 have a:∀j,j<3->(dN l).getD (k*3+j) .undef=(R9 (l.getD k default)).getD j .undef:=λj c=>by have b:=congrArg (λl=>l[j]?) (ZD h);simp only[aeS c,aeX]at b;rw[aeA,b];exact(aeA ..).symm
 exact⟨by have:=a 0 ahd;simpa[R9]using this,by have:=a 1 ahd;simpa[R9]using this,by have:=a 2 ahd;simpa[R9]using this⟩
theorem aaV{d:List Rdn}{cap c:Option Nat}(y:d.length<=1100000)(hr:∀r∈d,r.length<=1100000)(h:K (.bool true) L):
  aeg 46 [.sl (d.map aH) d.length cap,.sl (d.map aH) d.length c] L K:=by
 replace h:=hid h;have l:=hid (λk=>@yD d k);replace hr:=hid hr;refine aef Oz ?_;refine ao (λm T' L'=>∃k:Nat,m=d.length-k/\k<=d.length/\T'=[(14,.int .i64 (k:Int)),(13,.int .i64 d.length),(0,.sl (d.map aH) d.length cap),(1,.sl (d.map aH) d.length c)]/\L=L') (CutS (b:=aek _)) ⟨0,rfl,aep _,rfl,rfl⟩ ?_;rintro _ _ L' ⟨k,rfl,u,rfl,e⟩;subst e;by_cases f:k<d.length;have g1:(k:Int)<(d.length:Int):=ahd;have A:=aee k ahd;have q:=l.o k f;have B:k<(d.map aH).length:=by simpa using f
 obtain⟨r,g⟩:=aec (d.getD k []);have s:=hr.o r (by rw[<- g];simp[f]);rw[g]at q;clear g;refine wk ?_;refine ao (λm T' L'=>∃j:Nat,m=r.length-j/\j<=r.length/\T'=[(33,.int .i64 (j:Int)),(32,.int .i64 r.length),(5,.int .i64 (k:Int)),(14,.int .i64 (k:Int)),(13,.int .i64 d.length),(0,.sl (d.map aH) d.length cap),(1,.sl (d.map aH) d.length c)]/\L=L') (CutS (b:=aek _)) ⟨0,rfl,aep _,rfl,rfl⟩ ?_;rintro _ _ L' ⟨j,rfl,z,rfl,e⟩;subst e;by_cases i:j<r.length;have t:(j:Int)<(r.length:Int):=ahd;have v:=aee j ahd;have p:=nA i;have x:j*2+2<=(bN r).length:=by rw[iE];omega
 obtain⟨⟨ty,w⟩,n⟩:∃a,r.getD j ([],[])=a:=⟨_,rfl⟩;rw[n]at p;simp only[Gx]at p;clear n;refine wk ?_;exact ahi ahd ahg ⟨j+1,rfl,i,rfl,rfl⟩;have t:¬(j:Int)<(r.length:Int):=ahd;refine wk ?_;exact ahi ahd ahg ⟨k+1,rfl,f,rfl,rfl⟩;have g1:¬(k:Int)<(d.length:Int):=ahd;refine wk ?_;exact ag h.o
def plI(o:Option Nat):Int:=match o with|some i=>(i:Int)|none=>-1
def byI(l:List aw)(id:Int):Int:=plI (l.findIdx? λx=>decide (x.id=id))
abbrev TKy:=List UInt8×Int×Nat
def kyA(r:TKy):AV×AV×Nat:=(.str r.1,.int .i64 r.2.1,r.2.2)
def eP(nb bn:Int->Nat)(x:aw):AV×AV×Nat:=(.int .i64 x.id,.ptr (nb x.id) 0,bn x.id)
def kN(l:List aw)(x:aw):List AV:=[dnA x.nm,.sl (ay (pth x)) x.nm.length none,atR x.av,.int .i64 (aP (cV l) (NK x.nm):Nat)]
structure aU(L:List Blk)(iv mn mi:Nat)(nb bn:Int->Nat)(ck ci:Nat)(rs:List TKy)(suf:List Rdn)(last:Int)(l:List aw):Prop where
 v:L[iv]?=some (.cells [dnA suf,.lmap mn,.lmap mi,.int .i64 last])
 n:L[mn]?=some (.map (l.map (eP nb bn)) ck)
 i:L[mi]?=some (.map (rs.map kyA) ci)
 nd:∀x∈l,L[nb x.id]?=some (.cells (kN l x))
 keys:(rs.map (·.1)).Nodup
 mem:∀k id,(∃b,(k,id,b)∈rs)↔∃x∈l,aN true x.nm=k/\x.id=id
 bnd:(l.map λx=>bn x.id).Nodup
 blt:∀x∈l,bn x.id<ck
theorem aU.app{L:List Blk}{iv mn mi:Nat}{nb bn:Int->Nat}{ck ci:Nat}{rs:List TKy}{suf:List Rdn}{last:Int}{l:List aw}(h:aU L iv mn mi nb bn ck ci rs suf last l)(X:List Blk):aU (L++X) iv mn mi nb bn ck ci rs suf last l:=by
 have key:∀{i:Nat}{b:Blk},L[i]?=some b->(L++X)[i]?=some b:=λ{i b} e=>by rw[aem (aei.1 e).1];exact e
 exact⟨key h.v,key h.n,key h.i,λx a=>key (h.nd x a),h.keys,h.mem,h.bnd,h.blt⟩
theorem yk:∀(rs:List TKy) (k:List UInt8) (j:Nat),bF (.str k) (rs.map kyA) j=some ((rs.findIdx? λr=>decide (r.1=k)).map λn=>(j+n,.int .i64 (rs.getD n default).2.1))
 |[],k,j=>rfl
 | r::rs,k,j=>by
   by_cases h:k=r.1
   .subst h;simp[bF,kyA,yj,afJ]
   .have h':¬r.1=k:=λe=>h e.symm
    simp only[aex,kyA,bF,yj,decide_eq_false h,afJ,decide_eq_false h',aeE,if_false];have a:=yk rs k (j+1);rw[a];cases rs.findIdx? (λr=>decide (r.1=k))with
    |none=>rfl
    |some n=>simp only[aeC];rw[show j+1+n=j+(n+1)by omega];rfl
theorem yh(nb bn:Int->Nat):∀(l:List aw) (id:Int) (j:Nat),bF (.int .i64 id) (l.map (eP nb bn)) j=some ((l.findIdx? λx=>decide (x.id=id)).map λn=>(j+n,.ptr (nb id) 0))
 |[],id,j=>rfl
 | x::l,id,j=>by
   by_cases h:id=x.id
   .subst h;simp[bF,eP,yj,afJ]
   .have h':¬x.id=id:=λe=>h e.symm
    simp only[aex,eP,bF,yj,if_true,decide_eq_false h,afJ,decide_eq_false h',aeE,if_false];have a:=yh nb bn l id (j+1);rw[a];cases l.findIdx? (λx=>decide (x.id=id))with
    |none=>rfl
    |some n=>simp only[aeC];rw[show j+1+n=j+(n+1)by omega]
theorem iy{β:Type}{f:β->Bool}{l:List β}[Inhabited β]:(l.findIdx? f=none/\l.find? f=none)\/∃n,l.findIdx? f=some n/\n<l.length/\l.find? f=some (l.getD n default):=by
 induction l with
 |nil=>exact .inl ⟨rfl,rfl⟩
 | cons x l ih =>
   by_cases h:f x=true
   .exact .inr ⟨0,by simp[afJ,h],ahe,by simp[afo,h]⟩
   .rcases ih with⟨a,b⟩|⟨n,a,b,c⟩
    .exact .inl ⟨by simp[afJ,h,a],by simp[afo,h,b]⟩
    .exact .inr ⟨n+1,by simp[afJ,h,a],by simpa using b,by simp[afo,h,c]⟩
theorem aU.look{L:List Blk}{iv mn mi:Nat}{nb bn:Int->Nat}{ck ci:Nat}{rs:List TKy}{suf:List Rdn}{last:Int}{l:List aw}(h:aU L iv mn mi nb bn ck ci rs suf last l)(i:TOk suf last l){d:List Rdn}(hd:OkD d):
  (aO l d=0/\atE l d=none/\bF (.str (aN true d)) (rs.map kyA) 0=some none)\/∃j,bF (.str (aN true d)) (rs.map kyA) 0=some (some (j,.int .i64 (aO l d))):=by
 rw[yk];rcases iy (f:=λr:TKy=>decide (r.1=aN true d)) (l:=rs)with⟨m,g⟩|⟨n,m,u,g⟩;left;have c:atE l d=none:=yy.2 λ_ x a e=>by obtain⟨b,t⟩:=(h.mem (aN true x.nm) x.id).2 ⟨x,a,rfl,rfl⟩;have:=afr.1 g _ t;simp only[decide_eq_true_eq]at this;exact this ((l9 (i.ok x a) hd).2 e)
 exact⟨i.find0.2 c,c,by rw[m];rfl⟩;right;refine⟨n,?_⟩;obtain⟨⟨k,id,b⟩,hr⟩:∃r,rs.getD n default=r:=⟨_,rfl⟩;have o:=afK g;have q:k=aN true d:=by have:=afL g;rw[hr]at this;simpa using this
 rw[hr]at o;obtain⟨x,a,p,s⟩:=(h.mem k id).1 ⟨b,o⟩;have:atE l d=some x:=i.at a hd ((l9 hd (i.ok x a)).1 (by rw[<- q,p]));rw[m];simp only[aeC,hr,afE,aO,this,s]
theorem l8{d:List Rdn}{cap:Option Nat}(hd:dnB d){L:List Blk}{iv mn mi:Nat}{nb bn:Int->Nat}{ck ci:Nat}{rs:List TKy}{suf:List Rdn}{last:Int}{l:List aw}(r:TOk suf last l)(b:aU L iv mn mi nb bn ck ci rs suf last l){K:aeh}(h:K (.int .i64 (aO l d)) L):
  aeg 26 [.ptr iv 0,.sl (d.map aH) d.length cap] L K:=by
 replace h:=hid h;obtain⟨⟨s,e⟩,a⟩:∃q,RW d=q:=⟨_,rfl⟩;have kk1:Hid (Ctr Tryz.prog 61 [.sl (d.map aH) d.length cap] (.tup [.str s,.int .i64 e])):=@hid _ (by intro L K q;exact Mh hd.1 hd.2 (by rw[a];exact q));have u:=b.v;have w:=b.i;by_cases p:e=0;subst p;have f:OkD d:=by by_cases c:OkD d;exact c;exact absurd (by rw[a]) (RV c)
 have g:s=aN true d:=by have:=qv f;rw[a]at this;injection this
 rcases b.look r f with⟨m,_,k⟩|⟨j,k⟩;rw[<- g]at k;rw[m]at h;have n:aT .str (.str s)=true:=rfl;clear a b g;refine aef bU ?_;exact ag h.o;rw[<- g]at k;have n:aT .str (.str s)=true:=rfl;obtain⟨z,t⟩:=aec (aO l d);rw[t]at h k;clear a b g t;refine aef bU ?_;exact ag h.o;have m:aO l d=0:=by refine r.find0.2 (yy.2 λc=>?_);have:=qv c;rw[a]at this;exact absurd (by injection this) p
 rw[m]at h;clear a b;refine aef bU ?_;exact ag h.o
theorem aU.node{L:List Blk}{iv mn mi:Nat}{nb bn:Int->Nat}{ck ci:Nat}{rs:List TKy}{suf:List Rdn}{last:Int}{l:List aw}(h:aU L iv mn mi nb bn ck ci rs suf last l)(id:Int):
  (DU l id=none/\bF (.int .i64 id) (l.map (eP nb bn)) 0=some none)\/∃x n,DU l id=some x/\x∈l/\x.id=id/\bF (.int .i64 id) (l.map (eP nb bn)) 0=some (some (n,.ptr (nb id) 0))/\L[nb id]?=some (.cells (kN l x)):=by
 rw[yh];unfold DU;rcases iy (f:=λx:aw=>decide (x.id=id)) (l:=l)with⟨a,d⟩|⟨n,a,d,b⟩;exact .inl ⟨d,by rw[a];rfl⟩;right;have c:=afK b;have e:(l.getD n default).id=id:=by have:=afL b;simpa using this
 refine⟨_,n,b,c,e,by rw[a];simp,?_⟩;have:=h.nd _ c;rwa[e]at this
theorem acu{L:List Blk}{iv mn mi:Nat}{nb bn:Int->Nat}{ck ci:Nat}{rs:List TKy}{suf:List Rdn}{last:Int}{l:List aw}(a:aU L iv mn mi nb bn ck ci rs suf last l){K:aeh}(h:K (.int .i64 (l.length:Nat)) L):
  aeg 25 [.ptr iv 0] L K:=by
 have d:=a.v;have b:=a.n;have c:(l.map (eP nb bn)).length=l.length:=aeu _;replace h:=hid h;clear a;refine aef Jo ?_;exact ag h.o
theorem Yb{L:List Blk}{iv mn mi:Nat}{nb bn:Int->Nat}{ck ci:Nat}{rs:List TKy}{suf:List Rdn}{last:Int}{l:List aw}(hd:dnB suf)(a:aU L iv mn mi nb bn ck ci rs suf last l){K:aeh}(h:K (dnA suf) L):
  aeg 33 [.ptr iv 0] L K:=by
 have b:=a.v;have kk2:Hid (∀{c:Option Nat}{L:List Blk}{K:aeh},K (dnA suf) L->aeg 50 [.sl (suf.map aH) suf.length none,.sl [] 0 c] L K):=@hid _ (by intro c L K q;exact Mp hd.1 hd.2 q);replace h:=hid h;clear a hd;refine aef DV ?_;exact ag h.o
theorem VE{d b:List Rdn}{cap a:Option Nat}(hd:dnB d)(f:dnB b){v:Nat}(h:K (.bool (Mb d b)) L):
  aeg 36 [.ptr v 0,.sl (d.map aH) d.length cap,.sl (b.map aH) b.length a] L K:=by
 have kk1:Hid (Ctr Tryz.prog 77 [.sl (d.map aH) d.length cap,.sl (b.map aH) b.length a] (.bool (gp d b))):=@hid _ (by intro L K q;exact VG hd f q);unfold Mb at h;obtain⟨u,e⟩:=aec (gp d b);rw[e]at h kk1;by_cases c:d.length=b.length;have g:(d.length:Int)=(b.length:Int):=ahd;rw[decide_eq_true c,ae9]at h;replace h:=hid h;clear e hd f c;refine aef qr ?_;exact ag h.o;have g:¬(d.length:Int)=(b.length:Int):=ahd;rw[decide_eq_false c,afX]at h;replace h:=hid h;clear e hd f c;refine aef qr ?_;exact ag h.o
theorem aaF{d:List Rdn}{cap:Option Nat}(hd:dnB d){L:List Blk}{K:aeh}(h:¬OkD d->K (.tup [.nilptr,.int .i64 (prS d).2]) L)(i:d=[]->K (.tup [.nilptr,.int .i64 2]) L)(j:OkD d->d≠[]->K (.tup [.ptr (L.length+3) 0,.int .i64 0]) (L++[.map [] 0,.map [] 0,.cells [dnA d,.lmap L.length,.lmap (L.length+1),.int .i64 0],.cells [.ptr (L.length+2) 0]])):
  aeg 21 [.sl (d.map aH) d.length cap] L K:=by
 obtain⟨⟨s,e⟩,a⟩:∃q,prS d=q:=⟨_,rfl⟩;have kk1:Hid (Ctr Tryz.prog 35 [.sl (d.map aH) d.length cap] (.tup [.str s,.int .i64 e])):=@hid _ (by intro L K q;exact yE hd.1 hd.2 (by rw[a];exact q));have kk2:Hid (∀{c:Option Nat}{L:List Blk}{K:aeh},K (dnA d) L->aeg 50 [.sl (d.map aH) d.length cap,.sl [] 0 c] L K):=@hid _ (by intro c L K q;exact Mp hd.1 hd.2 q);have f:OkD d↔e=0:=by unfold OkD;rw[a]
 rw[a]at h;by_cases l:e=0;rotate_left;replace h:=hid (h λc=>l (f.1 c));clear a f i j hd;refine aef vM ?_;exact ag h.o;subst l;by_cases k:d.length=0;have b:=ae2.1 k;replace h:=hid (i b);subst b;clear a f i j hd k;refine aef vM ?_;exact ag h.o;have g:¬(d.length:Int)=0:=ahd;replace h:=hid (j (f.2 rfl) λc=>k (by rw[c];rfl));clear a f i j hd;refine aef vM ?_;exact ag h.o
end Go.Proofs.YtajkbcmleihaoaaGreatDoor.Av
namespace Go.Proofs
open Go.Shelf
def Tryz.srtF_ren:Go.Shelf.Ren:=⟨λ|6=>72|15=>99|14=>98|28=>140|29=>141|20=>132|21=>133|22=>134|23=>135|24=>136|25=>137|26=>138|27=>139|46=>162|47=>163|48=>164|49=>165|50=>166|57=>186|n=>n,λ|22=>82|24=>3|25=>137|3=>3|39=>162|0=>0|53=>160|55=>58|4=>4|46=>211|45=>210|50=>215|5=>5|9=>9|66=>239|70=>243|76=>257|77=>258|n=>n,λ|n=>n⟩
theorem Tryz.srtF:Go.Proofs.SlLaysF.n6 Tryz.prog Tryz.srtF_ren:={
 mixed:=by kernel_rfl
 f6:=⟨Tryz.f72.name,by decide,Tryz.func72.trans (congrArg some (by kernel_rfl))⟩
 f14:=⟨Tryz.f98.name,by decide,Tryz.func98.trans (congrArg some (by kernel_rfl))⟩
 f15:=Tryz.func99.trans (congrArg some (by kernel_rfl))
 f20:=⟨Tryz.f132.name,by decide,Tryz.func132.trans (congrArg some (by kernel_rfl))⟩
 f21:=⟨Tryz.f133.name,by decide,Tryz.func133.trans (congrArg some (by kernel_rfl))⟩
 f22:=⟨Tryz.f134.name,by decide,Tryz.func134.trans (congrArg some (by kernel_rfl))⟩
 f23:=⟨Tryz.f135.name,by decide,Tryz.func135.trans (congrArg some (by kernel_rfl))⟩
 f24:=⟨Tryz.f136.name,by decide,Tryz.func136.trans (congrArg some (by kernel_rfl))⟩
 f25:=⟨Tryz.f137.name,by decide,Tryz.func137.trans (congrArg some (by kernel_rfl))⟩
 f26:=⟨Tryz.f138.name,by decide,Tryz.func138.trans (congrArg some (by kernel_rfl))⟩
 f27:=⟨Tryz.f139.name,by decide,Tryz.func139.trans (congrArg some (by kernel_rfl))⟩
 f28:=Tryz.func140.trans (congrArg some (by kernel_rfl))
 f29:=Tryz.func141.trans (congrArg some (by kernel_rfl))
 f46:=⟨Tryz.f162.name,by decide,Tryz.func162.trans (congrArg some (by kernel_rfl))⟩
 f47:=Tryz.func163.trans (congrArg some (by kernel_rfl))
 f48:=Tryz.func164.trans (congrArg some (by kernel_rfl))
 f49:=⟨Tryz.f165.name,by decide,Tryz.func165.trans (congrArg some (by kernel_rfl))⟩
 f50:=⟨Tryz.f166.name,by decide,Tryz.func166.trans (congrArg some (by kernel_rfl))⟩
 f57:=⟨Tryz.f186.name,by decide,Tryz.func186.trans (congrArg some (by kernel_rfl))⟩
 t0:=Tryz.underlying0
 a0:=Tryz.isAgg0
 z0:=Tryz.sizeOf0
 v0:=Tryz.zeroValue0
 t3:=Tryz.underlying3
 a3:=Tryz.isAgg3
 z3:=Tryz.sizeOf3
 v3:=Tryz.zeroValue3
 t4:=Tryz.underlying4
 a4:=Tryz.isAgg4
 z4:=Tryz.sizeOf4
 v4:=Tryz.zeroValue4
 t5:=Tryz.underlying5
 a5:=Tryz.isAgg5
 z5:=Tryz.sizeOf5
 v5:=Tryz.zeroValue5
 t9:=Tryz.underlying9
 a9:=Tryz.isAgg9
 z9:=Tryz.sizeOf9
 v9:=Tryz.zeroValue9
 t22:=Tryz.underlying82
 a22:=Tryz.isAgg82
 z22:=Tryz.sizeOf82
 v22:=Tryz.zeroValue82
 a24:=Tryz.isAgg3
 z24:=Tryz.sizeOf3
 t25:=Tryz.underlying137
 a25:=Tryz.isAgg137
 z25:=Tryz.sizeOf137
 v25:=Tryz.zeroValue137
 t39:=Tryz.underlying162
 a39:=Tryz.isAgg162
 z39:=Tryz.sizeOf162
 v39:=Tryz.zeroValue162
 t45:=Tryz.underlying210
 a45:=Tryz.isAgg210
 z45:=Tryz.sizeOf210
 v45:=Tryz.zeroValue210
 t46:=Tryz.underlying211
 a46:=Tryz.isAgg211
 z46:=Tryz.sizeOf211
 v46:=Tryz.zeroValue211
 t50:=Tryz.underlying215
 a50:=Tryz.isAgg215
 z50:=Tryz.sizeOf215
 v50:=Tryz.zeroValue215
 t53:=Tryz.underlying160
 a53:=Tryz.isAgg160
 z53:=Tryz.sizeOf160
 v53:=Tryz.zeroValue160
 t55:=Tryz.underlying58
 a55:=Tryz.isAgg58
 z55:=Tryz.sizeOf58
 v55:=Tryz.zeroValue58
 t66:=Tryz.underlying239
 a66:=Tryz.isAgg239
 z66:=Tryz.sizeOf239
 v66:=Tryz.zeroValue239
 t70:=Tryz.underlying243
 a70:=Tryz.isAgg243
 z70:=Tryz.sizeOf243
 v70:=Tryz.zeroValue243
 t76:=Tryz.underlying257
 a76:=Tryz.isAgg257
 z76:=Tryz.sizeOf257
 v76:=Tryz.zeroValue257
 t77:=Tryz.underlying258
 a77:=Tryz.isAgg258
 z77:=Tryz.sizeOf258
 v77:=Tryz.zeroValue258}
end Go.Proofs
namespace Go.Proofs
open Go Go.Lib Go.RowKit Go.Proofs.YtajkbcmleihaoaaGreatDoor.Av
set_option maxHeartbeats 2000000
set_option maxRecDepth 100000
theorem Tryz.isnan_c(a:ByteArray)(w:World):Calls Tryz.prog 142 #[.string a] w λe w'=>e=.returned (.bool false)/\w'=w:=by
 go_enter Tryz.func142,Tryz.ntmps142
 go_wp2
 go_ret
 exact⟨ahe,rfl⟩
theorem Tryz.cmps_c(a b:ByteArray)(w:World):Calls Tryz.prog 100 #[.string a,.string b] w λe w'=>e=.returned (.int .i64 (if Op.bytesLess a.toList b.toList then -1 else if Op.bytesLess b.toList a.toList then 1 else 0))/\w'=w:=by
 have h1:=λs W=>Tryz.isnan_c s W
 obtain⟨p,hp⟩:=aec (Op.bytesLess a.toList b.toList);obtain⟨q,hq⟩:=aec (Op.bytesLess b.toList a.toList);rw[hp,hq];have ht:p=false->q=false->a.toList=b.toList:=λe1 e2=>by rw[e1,bytesLess_eq,decide_eq_false_iff_not]at hp;rw[e2,bytesLess_eq,decide_eq_false_iff_not]at hq;exact ac2 hp hq
 cases p<;>cases q
 all_goals
  go_enter Tryz.func100,Tryz.ntmps100
  go_wp2_with (go_at_call 142;refine(h1 _ _).mono ?_;rintro e w' ⟨rfl,rfl⟩)
 all_goals (go_ret;first|exact⟨rfl,rfl⟩|(exfalso;simp_all;done))
theorem Tryz.cmpn_c(x:List (List UInt8))(y:List (List UInt8))(b1 o1 c b2 o2 d:Nat)(w:World)(hb1:x.length<=1100000)(hb2:y.length<=1100000)(hc1:∀j,j<x.length->w.cell? ⟨b1,o1+j,none⟩=some (.string ⟨⟨x.getD j []⟩⟩))(hc2:∀j,j<y.length->w.cell? ⟨b2,o2+j,none⟩=some (.string ⟨⟨y.getD j []⟩⟩)):
  Calls Tryz.prog 74 #[.slice (some ⟨b1,o1,none⟩) x.length c,.slice (some ⟨b2,o2,none⟩) y.length d] w λe w'=>e=.returned (.int .i64 (cpP x y))/\w'=w:=by
 have h1:=λa b W=>Tryz.cmps_c a b W
 go_enter Tryz.func74,Tryz.ntmps74
 go_wp2
 go_loopg [11] x.length (λg s11 wr=>∃k:Nat,k<=x.length/\k<=y.length/\x.length-k<=g/\s11=.int .i64 k/\wr=w/\cpP (x.drop k) (y.drop k)=cpP x y)
 case atStart=>exact⟨0,aep _,aep _,ahd,rfl,rfl,rfl⟩
 case round =>
  obtain⟨k,hk,hky,hg,rfl,rfl,heq⟩:=hrel;by_cases hlt:k<x.length
  .have d1:x.drop k=x.getD k []::x.drop (k+1):=(by rw[ae3 hlt];simp[hlt]);have g1:=hc1 k hlt;rw[d1]at heq;obtain⟨s,hs⟩:=aec (x.getD k []);rw[hs]at g1 heq;by_cases hly:k<y.length
   .have d2:y.drop k=y.getD k []::y.drop (k+1):=(by rw[ae3 hly];simp[hly]);have g2:=hc2 k hly;rw[d2]at heq;obtain⟨t,ht⟩:=aec (y.getD k []);rw[ht]at g2 heq;have hcon:=h1 ⟨⟨s⟩⟩ ⟨⟨t⟩⟩ wr;rw[cpP]at heq;obtain⟨z,hz⟩:=aec (cpS s t);rw[show(if Op.bytesLess (ByteArray.mk ⟨s⟩).toList (ByteArray.mk ⟨t⟩).toList then(-1:Int)else if Op.bytesLess (ByteArray.mk ⟨t⟩).toList (ByteArray.mk ⟨s⟩).toList then 1 else 0)=z from by rw[agH,agH,<- hz,bytesLess_eq,bytesLess_eq];simp[cpS]]at hcon;rw[hz]at heq;have A:Aside (cpP x y=if z≠0 then z else cpP (x.drop (k+1)) (y.drop (k+1))):=heq.symm;clear heq hc1 hc2 d1 d2 hs ht hz h1;by_cases hz0:z=0
    .subst hz0
     go_wp2_with (go_at_call 100;refine hcon.mono ?_;rintro e w' ⟨rfl,rfl⟩)
     go_roundg (x.length-(k+1))
     case measure=>omega
     case rel=>exact⟨k+1,ahd,ahd,ahd,by go_num,rfl,by have:=A.out;simp only[ne_eq,not_true_eq_false,if_false]at this;exact this.symm⟩
    .go_wp2_with (go_at_call 100;refine hcon.mono ?_;rintro e w' ⟨rfl,rfl⟩)
     all_goals go_ret
     have:=A.out;rw[if_pos hz0]at this;exact⟨by rw[this];rfl,rfl⟩
   .have A:Aside (cpP x y=1):=by show cpP x y=1;rw[afI (l:=y) ahd,cpP]at heq;exact heq.symm
    clear heq hc1 hc2 d1 hs h1
    go_wp2
    go_ret
    exact⟨by rw[A.out];rfl,rfl⟩
  .have hkx:k=x.length:=ahd;have A:Aside (cpP x y=if x.length<y.length then -1 else 0):=by
    show cpP x y=if x.length<y.length then -1 else 0
    rw[afI (l:=x) ahd]at heq;by_cases hly:k<y.length;rw[ae3 hly,cpP]at heq;rw[if_pos ahd];exact heq.symm;rw[afI (l:=y) ahd,cpP]at heq;rw[if_neg ahd];exact heq.symm
   subst hkx;clear heq hc1 hc2 h1;by_cases hl:x.length<y.length
   .go_wp2
    all_goals (go_ret;first|exact⟨by rw[A.out,if_pos hl];rfl,rfl⟩|(exfalso;omega))
   .go_wp2
    all_goals (go_ret;first|exact⟨by rw[A.out,if_neg hl];rfl,rfl⟩|(exfalso;omega))
theorem Tryz.scp_c(x y:List (List UInt8))(a b:Int)(bb bo vb vo mb na oa pa qa ca nb ob pb qb cb:Nat)(W:World)(hb1:x.length<=1100000)(hb2:y.length<=1100000)(e1:W.cell? ⟨bb,bo,none⟩=some (.pointer (some ⟨vb,vo,none⟩)))(e2:W.cell? ⟨vb,vo+1,none⟩=some (.map (some mb)))(e3:∀n,(Instr.lookup 90 (.map (some mb)) (.int .i64 a) false).run Tryz.prog (W.drewN n)=.ok (.pointer (some ⟨na,oa,none⟩)) (W.drewN n))(e4:∀n,(Instr.lookup 90 (.map (some mb)) (.int .i64 b) false).run Tryz.prog (W.drewN n)=.ok (.pointer (some ⟨nb,ob,none⟩)) (W.drewN n))(e5:W.cell? ⟨na,oa+1,none⟩=some (.slice (some ⟨pa,qa,none⟩) x.length ca))(e6:W.cell? ⟨nb,ob+1,none⟩=some (.slice (some ⟨pb,qb,none⟩) y.length cb))(hc1:∀j,j<x.length->W.cell? ⟨pa,qa+j,none⟩=some (.string ⟨⟨x.getD j []⟩⟩))(hc2:∀j,j<y.length->W.cell? ⟨pb,qb+j,none⟩=some (.string ⟨⟨y.getD j []⟩⟩)):
  Calls Tryz.prog 73 #[.int .i64 a,.int .i64 b,.pointer (some ⟨bb,bo,none⟩)] W λe w'=>e=.returned (.int .i64 (cpP x y))/\∃q,w'=W.drewN q:=by
 have hcon:=λn=>Tryz.cmpn_c x y pa qa ca pb qb cb (W.drewN n) hb1 hb2 hc1 hc2
 generalize cpP x y=r at hcon⊢;clear hc1 hc2
 go_enter Tryz.func73,Tryz.ntmps73
 go_wp2
 go_quiet (exact Calls.quiet_of_same (hcon _))
 go_wp2
 go_ret
 exact⟨rfl,_,rfl⟩
end Go.Proofs
namespace Go.Proofs
open Go.Shelf Go.Sort Go.RowKit
theorem Tryz.sortF{α:Type}[Inhabited α](enc:α->Value)(i:OneCell enc)(a:α->α->Int)(j:SWO (ltOf a))(g:Nat)(cb:Array Value)(blk off cap:Nat)(d:Array α)(w:World)(k:∀args w,(callFunc g args).run Tryz.prog w=.ok (.enter g args) w)(c:CmpLays1 Tryz.prog g cb enc a blk off d.size w)(h:Holds enc w blk off d)(b:blk<w.heap.size)(f:d.size<4611686018427387904)(l:∀x y,(ltOf a) x y=false->(ltOf a) y x=false->x=y):
  Calls Tryz.prog 72 #[.slice (some ⟨blk,off,none⟩) d.size cap,.func (.func g) #[] cb] w λe w' =>
   e=.returned (.tuple #[])/\∃n os,w'=sortWorld enc w blk off n (d.toList.mergeSort λx y => !(ltOf a) y x).toArray os :=
 Any.slices_SortFunc_total Tryz.srtF enc i a j g cb blk off cap d w k c h b f l
theorem Tryz.sortF0(p:Option Addr)(cap:Nat)(a:Value)(w:World):
  Calls Tryz.prog 72 #[.slice p 0 cap,a] w λe w'=>e=.returned (.tuple #[])/\w'=w :=
 AnyF.slices_SortFunc_none {Tryz.srtF with} p cap a w
end Go.Proofs
namespace Go.Proofs.YtajkbcmleihaoaaGreatDoor.Av
open Go Go.Sort Go.RowKit
variable {L:List Blk}{K:aeh}
set_option maxHeartbeats 8000000
set_option maxRecDepth 100000
theorem Rel.putG{α:Type}[Inhabited α]{enc:α->Value}{f:α->AV}{w0:World}{S0:SB}{E:Env}{L:List Blk}{w:World}(h:Rel w0 S0 E L w)(u:∀x,VR E (f x) (enc x)){i:Nat}{n:List AV}{d:List α}{c:Loc}(m:L[i]?=some (.cells n))(k:E.loc i=some c)(hd:d.length=n.length)(q:Nat):
  Rel w0 S0 E (L.set i (.cells (d.map f))) (putRow enc (Sort.ahead w q) c.blk c.off d.toArray):=by
 obtain⟨c',cs,ty,fr,l,s,t,h4,z,r⟩:=h.blk i _ m;rw[k]at l;cases l;have o:(putRow enc (Sort.ahead w q) c.blk c.off d.toArray).heap[c.blk]?=some (.cells (putCells enc c.off d.toArray cs) ty fr):=by simp[putRow,mapBlock,Sort.ahead,af0,s,onCells]
 refine h.turn (k':=.cells (d.map f)) m rfl k ahe (λb p=>?_) rfl rfl rfl ⟨c,_,ty,fr,k,o,by simp[putCells,t],?_,λj a y=>?_,r⟩ (λ_ _ e=>by cases e);have:c.blk≠b:=λe=>p e.symm
 simp[putRow,mapBlock,Sort.ahead,af0,this];simp[*];have A:j<d.length:=by grind
 have g:c.off+j<cs.size:=ahd;have v:(putCells enc c.off d.toArray cs)[c.off+j]?=some (if c.off<=c.off+j/\c.off+j<c.off+d.length then enc (d.toArray[c.off+j-c.off]!)else cs[c.off+j]):=by simp[putCells,g]
 grind
theorem UD{α:Type}[Inhabited α]{enc:α->Value}{f:α->AV}{w0:World}{S0:SB}{E:Env}{L:List Blk}{w:World}(h:Rel w0 S0 E L w)(l:∀x v,VR E (f x) v->v=enc x){i:Nat}{d:List α}{c:Loc}(m:L[i]?=some (.cells (d.map f)))(p:E.loc i=some c):
  Holds enc w c.blk c.off d.toArray/\c.blk<w.heap.size:=by
 obtain⟨c',cs,ty,fr,g,b,q,h4,n,k⟩:=h.blk i _ m;rw[p]at g;cases g;refine⟨λj o=>?_,(ae1.1 b).1⟩;have a:j<d.length:=by simpa using o
 obtain⟨v,g1,e⟩:=n j (f d[j]) (by simp[a]);have e:=l _ _ e;subst e;refine⟨by simp[World.cell?,b,g1,a],?_⟩;have r:=k (c.off+j) ahd (by simp only[aeu]at h4;omega);simp only[World.frozen?,b];simp_all
theorem aaI{α:Type}[Inhabited α]{enc:α->Value}{w:World}{blk off n:Nat}{d:Array α}{os:Array Obj}{b:Nat}(c:b≠blk)(a:b<w.heap.size):(sortWorld enc w blk off n d os).heap[b]?=w.heap[b]?:=by
 have:blk≠b:=λe=>c e.symm
 unfold sortWorld grow;rw[agL (by simpa[putRow,mapBlock,Sort.ahead]using a)];simp[putRow,mapBlock,Sort.ahead,af0,this]
theorem iA{w w':World}{b o:Nat}(h:w'.heap[b]?=w.heap[b]?):w'.cell? ⟨b,o,none⟩=w.cell? ⟨b,o,none⟩:=by simp only[World.cell?,h]
theorem Rel.at{w0:World}{S0:SB}{E:Env}{L:List Blk}{w:World}(h:Rel w0 S0 E L w){i j:Nat}{l:List AV}{a:AV}(e:L[i]?=some (.cells l))(k:l[j]?=some a):∃c v,E.loc i=some c/\w.cell? ⟨c.blk,c.off+j,none⟩=some v/\VR E a v/\c.blk<w.heap.size:=by obtain⟨c,cs,ty,fr,d,b,n,h4,f,m⟩:=h.blk i _ e;obtain⟨v,g1,g⟩:=f j a k;exact⟨c,v,d,by simp[World.cell?,b,g1],g,(ae1.1 b).1⟩
theorem Sz{E:Env}:∀(p:Pth) (b o:Nat),VRC E (ay p) b o->∀j,j<p.length->E.mem b (o+j)=some (.string ⟨⟨p.getD j []⟩⟩)
 |[],_,_,_,j,hj=>absurd hj (Nat.not_lt_zero _)
 | s::p,b,o,h,j,hj=>by
   obtain⟨⟨x,a,rfl⟩,c⟩:=h;cases j with
   |zero=>simpa using a
   | succ j =>
     have:=Sz p b (o+1) c j (by simpa using hj)
     grind
section
variable {suf:List Rdn}{last:Int}{l:List aw}{w0:World}{S0:SB}{E:Env}{L:List Blk}{w:World}{iv mn mi:Nat}{nb bn:Int->Nat}{ck ci:Nat}{rs:List TKy}
theorem aU.path(n:Rel w0 S0 E L w)(r:aU L iv mn mi nb bn ck ci rs suf last l){x:aw}(e:x∈l)(m:x.nm≠[]):
  ∃c a d ca,E.loc (nb x.id)=some c/\c.blk<w.heap.size/\w.cell? ⟨c.blk,c.off+1,none⟩=some (.slice (some ⟨a,d,none⟩) (pth x).length ca)/\∀j,j<(pth x).length->E.mem a (d+j)=some (.string ⟨⟨(pth x).getD j []⟩⟩):=by
 obtain⟨c,v,g,h,i,h4⟩:=n.at (r.nd x e) (j:=1) rfl;obtain⟨p,c',rfl,_,_,k⟩:=i;have q:(pth x).length=x.nm.length:=by simp[pth,bv]
 rcases k with⟨s,_⟩|⟨b,o,rfl,f⟩;simp_all;exact⟨c,b,o,c',g,h4,by rw[q];exact h,Sz _ _ _ f⟩
theorem aU.lookup(B:Rel w0 S0 E L w)(s:aU L iv mn mi nb bn ck ci rs suf last l){a:Loc}(h:E.loc mn=some a){x:aw}(G:TOk suf last l)(u:x∈l){c:Loc}(k:E.loc (nb x.id)=some c)(W:World)(C:W.heap[a.blk]?=w.heap[a.blk]?):
  (Instr.lookup 90 (.map (some a.blk)) (.int .i64 x.id) false).run Tryz.prog W=.ok (.pointer (some ⟨c.blk,c.off,none⟩)) W:=by
 obtain⟨c',i,m,D,F⟩:=B.blk mn _ s.n;rw[h]at m;cases m;have hd:Tryz.prog.underlying 90=some (.map 3 96):=ahf;have d:fx Tryz.prog 3=some .int:=ahf;have o:aT .int (.int .i64 x.id)=true:=rfl;have r:VR E (.int .i64 x.id) (.int .i64 x.id):=by simp[VR]
 have g:∀e,(Instr.checkKey e 10000 3 (.int .i64 x.id)).run Tryz.prog W=.ok () W:=λe=>lR d o r e
 have t:(getObj a.blk).run Tryz.prog W=.ok (.map i ck) W:=by simp[getObj,Sem.run,C,D]
 rcases s.node x.id with⟨f,_⟩|⟨y,n,f,H,A,z,_⟩;rw[G.ent u]at f;cases f;obtain⟨e,q,b,j,I,g3,g4,_⟩:=yo d o r F z W;obtain⟨J,p,v⟩:=g4;rw[k]at p;cases p;simp[Instr.lookup,run_underlying hd,t,g,j,v]
end
abbrev nE(m:List aw):List AV:=m.map λx=>.int .i64 x.id
abbrev InL(l:List aw):={x:aw // x∈l}
theorem aaL{suf:List Rdn}{last:Int}{l:List aw}(I:TOk suf last l){m:List aw}(hm:∀x∈m,x∈l)(P:m≠[])(hn:m.length<=1100000){L:List Blk}{iv mn mi:Nat}{nb bn:Int->Nat}{ck ci:Nat}{rs:List TKy}(B:aU L iv mn mi nb bn ck ci rs suf last l){i bx:Nat}{cp:Option Nat}(F:L[i]?=some (.cells (nE m)))(V:L[bx]?=some (.cells [.ptr iv 0])){K:aeh}(h:K (.tup []) (L.set i (.cells (nE (m.mergeSort leE))))):
  aeg 72 [.lsl i 0 m.length cp 1,.func 73 [.ptr bx 0]] L K:=λw0 S0 E w vs p J=>by
 simp only[VRL,VR]at J;obtain⟨_,_,rfl,⟨c,rc,d,u,rfl,hd,a9,_,_⟩,_,_,rfl,⟨_,rfl,_,_,rfl,⟨cb,W,rfl⟩,rfl⟩,rfl⟩:=J;have U:0<m.length:=afa.2 P;have ad:d=c.off:=by have:=hd ahd;omega
 subst ad;obtain⟨x0,av⟩:=List.exists_mem_of_ne_nil _ P;have O:∀x∈l,x.nm≠[]:=λx H e=>I.inv.ne (fK H) (by rw[e];rfl)
 haveI:Inhabited (InL l):=⟨⟨x0,hm x0 av⟩⟩
 obtain⟨o,rfl⟩:∃o:List (InL l),m=o.map (·.1):=⟨m.attach.map λx=>⟨x.1,hm x.1 x.2⟩,ahe⟩;obtain⟨f,X⟩:∃f:(InL l)->AV,f=λx=>.int .i64 x.1.id:=⟨_,rfl⟩
 obtain⟨enc,g⟩:∃enc:(InL l)->Value,enc=λx=>.int .i64 x.1.id:=⟨_,rfl⟩
 have e1:∀s:List (InL l),nE (s.map (·.1))=s.map f:=λs=>by rw[X];exact aeH
 rw[e1]at F;have a6:∀x v,VR E (f x) v->v=enc x:=λx v J=>by rw[X]at J;rw[g];simpa[VR]using J
 have an:∀x,VR E (f x) (enc x):=λx=>by rw[X,g];simp[VR]
 obtain⟨hH,ab⟩:=UD p a6 F u;obtain⟨c1,v1,h1,b1,b2,b3⟩:=p.at V (j:=0) rfl;rw[W]at h1;cases h1;simp only[VR]at b2;obtain⟨c2,T,rfl⟩:=b2;obtain⟨a8,v2,Y,d1,d2,d3⟩:=p.at B.v (j:=1) rfl;rw[T]at Y;cases Y;simp only[VR]at d2;obtain⟨c3,t,rfl⟩:=d2;have Q:c3.blk<w.heap.size:=by obtain⟨c',a7,g1,g2,_⟩:=p.blk mn _ B.n;rw[t]at g1;cases g1;exact(ae1.1 g2).1
 obtain⟨y0,ys,a5⟩:∃y ys,o=y::ys:=by
  cases o with
  |nil=>simp at U
  |cons y ys=>exact⟨y,ys,rfl⟩
 have Z:∀(j:Nat) (k:Blk) (c':Loc),L[j]?=some k->k.live=true->E.loc j=some c'->k≠.cells (o.map f)->c'.blk≠c.blk:=λj k c' C hl a0 hk e=>by have:=p.inj j i k _ c' c C hl F rfl a0 u e;subst this;rw[C]at F;exact hk (Option.some.inj F)
 have D:∀a N,(∀n,a≠.int .i64 n)->Blk.cells (a::N)≠.cells (o.map f):=λa N ha e=>by rw[a5,X]at e;simp only[aex,Blk.cells.injEq,agP]at e;exact ha _ e.1
 have a1:=Z bx _ cb V rfl W (D _ _ ahe);have a2:=Z iv _ c2 B.v rfl T (D _ _ (by intro n;simp[dnA]));have a3:=Z mn _ c3 B.n rfl t ahe;have S:=(p.own i _ c F rfl u).1;have r:∀x∈l,∃A G po ca,E.loc (nb x.id)=some A/\A.blk<w.heap.size/\A.blk≠c.blk/\G<w.heap.size/\G≠c.blk/\w.cell? ⟨A.blk,A.off+1,none⟩=some (.slice (some ⟨G,po,none⟩) (pth x).length ca)/\∀j,j<(pth x).length->w.cell? ⟨G,po+j,none⟩=some (.string ⟨⟨(pth x).getD j []⟩⟩):=λx H=>by
  obtain⟨A,G,po,ca,g1,g2,g3,g4⟩:=B.path p H (O x H);have al:0<(pth x).length:=by have:=afa.2 (O x H);simp only[pth,afv,bv];exact this
  have g5:=g4 0 al;exact⟨A,G,po,ca,g1,g2,Z (nb x.id) _ A (B.nd x H) rfl g1 (D _ _ (by intro n;simp[dnA])),p.mem_lt g5,(λe=>by rw[e,S]at g5;cases g5),g3,λj C=>p.mem _ _ _ (g4 j C)⟩
 have R:CmpLays1 Tryz.prog 73 #[.pointer (some ⟨cb.blk,cb.off+0,none⟩)] enc (λx y=>cpP (pth x.1) (pth y.1)) c.blk c.off o.toArray.size w:=λn os dk hs x y=>by
  obtain⟨cx,px,qx,kx,x1,x2,x3,x4,x5,x6,x7⟩:=r x.1 x.2;obtain⟨cy,py,qy,ky,y1,y2,y3,y4,y5,y6,y7⟩:=r y.1 y.2;have a4:(pth x.1).length<=1100000:=(by have:=(I.ok x.1 x.2).len;simp only[pth,afv,bv];omega);have ai:(pth y.1).length<=1100000:=(by have:=(I.ok y.1 y.2).len;simp only[pth,afv,bv];omega);have z:∀b,b≠c.blk->b<w.heap.size->(sortWorld enc w c.blk c.off n dk os).heap[b]?=w.heap[b]?:=λb hb hl=>aaI hb hl
  have:=Tryz.scp_c (pth x.1) (pth y.1) x.1.id y.1.id cb.blk (cb.off+0) c2.blk (c2.off+0) c3.blk cx.blk cx.off px qx kx cy.blk cy.off py qy ky (sortWorld enc w c.blk c.off n dk os) a4 ai
   (by rw[iA (z _ a1 b3)];exact b1) (by rw[iA (z _ a2 d3)];exact d1)
   (λq=>B.lookup p t I x.2 x1 _ (z _ a3 Q)) (λq=>B.lookup p t I y.2 y1 _ (z _ a3 Q))
   (by rw[iA (z _ x3 x2)];exact x6) (by rw[iA (z _ y3 y2)];exact y6)
   (λj C=>by rw[iA (z _ x5 x4)];exact x7 j C) (λj C=>by rw[iA (z _ y5 y4)];exact y7 j C)
  rw[g]at this⊢;exact this.mono λe w' ⟨k1,q,k2⟩=>⟨k1,q,#[],by rw[k2,grow_empty]⟩
 have hO:SWO (ltOf (λx y:(InL l)=>cpP (pth x.1) (pth y.1))):=aa3 (λx:(InL l)=>pth x.1);have M:=Tryz.sortF enc (λx=>by rw[g];rfl) (λx y=>cpP (pth x.1) (pth y.1)) hO 73 #[.pointer (some ⟨cb.blk,cb.off+0,none⟩)] c.blk c.off rc o.toArray w (enters_of Tryz.func73 ahf rfl) R hH ab (by simp only[aeu]at hn;simp only[List.size_toArray];omega) (λx y h1 Y=>by have:=RT (a:=pth x.1) (b:=pth y.1) h1 Y;exact Subtype.ext (I.byN x.2 y.2 (RM this)))
 rw[aeu]at *;refine .inl ⟨jm Tryz.func72 rfl ahf _ _,M.mono ?_⟩;rintro e w' ⟨rfl,q,os,rfl⟩;have hp:(o.mergeSort λx y => !(ltOf (λx y:(InL l)=>cpP (pth x.1) (pth y.1))) y x).length=(o.map f).length:=by rw[ag4,aeu]
 have r1:=p.putG an F u hp q;have e3:nE ((o.map (·.1)).mergeSort leE)=(o.mergeSort λx y => !(ltOf (λx y:(InL l)=>cpP (pth x.1) (pth y.1))) y x).map f:=by rw[<- e1];congr 1;refine(List.map_mergeSort λa _ b _=>?_).symm;rfl
 rw[e3]at h;refine⟨E,_,_,_,rfl,.refl E,h,by simp[VR,VRL],r1.grown ?_⟩;exact⟨λb hb=>agL hb,by simp[sortWorld,grow,putRow,mapBlock,Sort.ahead],rfl,rfl,rfl⟩
theorem Yq{cap:Option Nat}{a:AV}(h:K (.tup []) L):aeg 72 [.sl [] 0 cap,a] L K :=
 iu Tryz.func72 rfl ahf (λw0 S0 E w vs g d=>by obtain⟨_,_,rfl,⟨p,c,rfl,_⟩,x,_,rfl,_,rfl⟩:=d;exact(Tryz.sortF0 p c x w).mono λe w' ⟨b,f⟩=>⟨_,b,by simp[VR,VRL],by subst f;exact Qy.refl _⟩) h
end Go.Proofs.YtajkbcmleihaoaaGreatDoor.Av
set_option maxRecDepth 100000
namespace Go.Proofs.YtajkbcmleihaoaaGreatDoor.Av
open Go
variable {d:List Rdn}{cap:Option Nat}{id:Int}{seen:List Nat}{ps:List aw}{rows:List AV}{i j n:Nat}{p:Pth}
def eE:LSO:=[Aq 2]
def eD:LSO:=[Aa 3 0,o1 4 (.slnil false (tm 3))]
def eC:LSO:=[Aq 2]
def eB:LSO:=[o1 5 (.bslice false 1 0 [] []),Aa 6 0,BZ 7 5 6,Aa 2 7]
def ba:aI:=⟨8,(ag6 eE [] (.seq (ag6 eD Cc (ag8 4 (.sreg eC []))) (ag6 eB Ce .ret))),[(.tmp 2)]⟩
attribute [push_cast] eE eD eC eB
theorem eo:aL Tryz.prog (λr i=>if r=3/\i=2 then 2 else 1) 93=some ba.raw:=ahf
attribute [push_cast] ba
variable {L:List Blk}{K:aeh}
set_option maxHeartbeats 8000000
set_option maxRecDepth 100000
theorem Wb{e z:List Rdn}{f:Option Nat}{ne nd:Nat}(v:e++d=z)(D:ne=e.length)(s:nd=d.length)(A:z.length<=1100000)(hr:∀r∈z,r.length<=1100000)(h:K (dnA z) L):
  aeg 50 [.sl (d.map aH) nd cap,.sl (e.map aH) ne f] L K:=by
 subst D s;replace h:=hid h;have u:=hid (λk=>@yD z k);replace hr:=hid hr;have kk1:Hid (Ctr Tryz.prog 80 [.sl [.sl (e.map aH) e.length f,.sl (d.map aH) d.length cap] 2 (some 2)] (.sl (z.map aH) z.length none)):=@hid _ (by
  intro L K q;refine dT ?_;simp only[AV.frzL,AV.frz,b9];have:=@Rx [e.map aH,d.map aH] none ahe (by simp only[agR,agS,aeL,<- aeD,v,aeu];exact A) (λl w=>by rw[aev];intro a B;simp only[aeJ,afq,or_false]at w;rcases w with rfl|rfl<;>(obtain⟨r,_,rfl⟩:=ael.1 B;rfl)) (λp=>by simp only[agR,agS,aeL,<- aeD];exact eS p _) L K
  simp only[agR,agS,aeL,<- aeD,v,aex,afh,aeu,aeY,aeB,QD]at this;exact this q)
 clear v;refine aef LV ?_;refine cB (l:=[]) (n:=0) 5 1 rfl (aeW 1).symm ?_;refine ao (λm T' L'=>∃(k:Nat) (C:List AV) (X:List Blk),m=z.length-k/\k<=z.length/\Hid (C=(z.take k).map aH)/\T'=[(13,.int .i64 (k:Int)),(12,.int .i64 z.length),(11,.sl (z.map aH) z.length none),(5,.gsl C k L.length 1)]/\L'=L++(.spare k 1::X)) ahh ⟨0,[],[],rfl,aep _,hid rfl,rfl,ahe⟩ ?_;rintro _ _ _ ⟨k,C,X,rfl,G,j,rfl,rfl⟩;by_cases b:k<z.length;have g1:(k:Int)<(z.length:Int):=ahd;have F:=aee k ahd;have x:=u.o k b;have E:k<(z.map aH).length:=by simpa using b
 obtain⟨r,c⟩:=aec (z.getD k []);have y:=hr.o r (by rw[<- c];simp[b]);have g:(z.take (k+1)).map aH=C++[.sl (bN r) r.length none]:=by rw[j.o,aeM b,aeD,show z[k]=r by rw[<- c];simp[b]];rfl
 rw[c]at x;have H:=yw r;have I:=iE r;replace g:=hid g;clear c j;refine wk ?_;exact ahi ahd ahg ⟨k+1,_,_,rfl,b,hid g.o.symm,rfl,rfl⟩;have t:k=z.length:=ahd;subst t;have g1:¬(z.length:Int)<(z.length:Int):=ahd;have i:=j.o;rw[aeI]at i;subst i;clear j;refine wk ?_;refine aB ?_;simp only[AV.frz,b9];exact af (by simp only[AV.refs,eS]) h.o
theorem ZT{xs:List (List UInt8)}(e:xs.length<=1100000)(h:K (.sl (xs.map AV.str) xs.length none) L):
  aeg 93 [.sl (xs.map AV.str) xs.length cap] L K:=by
 replace h:=hid h;by_cases b:xs=[]
 .subst b;refine aa eo (by simp[ba]) ?_;simp only[ba,am]
  repeat' first
   |refine kX ?_
   | (first|refine ju ahf ?_|refine fO ahf ?_|refine fR ?_|refine DR ?_|refine nQ (fun _=>?_)|refine dS ?_|refine jw ?_)
     refine sm ?_
   | (first|refine jo ahf ?_|refine iF ?_|refine fQ ?_|refine jv ?_|refine nW (dR ?_))
     refine sl ?_
   |exact nR
   |first|apply nS|apply jq|apply nT|apply jr|apply nV|apply jt
   |refine fU ?_
   |refine fP ?_
   |first|refine fS rfl ?_|refine fT rfl ?_|refine cG rfl ?_ ?_|refine ir rfl (λ_=>?_) (λ_=>?_)|refine iq rfl (λ_=>?_) (λ_=>?_)
   |((first|refine cF (λ_=>?_) (λ_=>?_)|refine dQ (λ_=>?_) (λ_=>?_))<;>try refine sm ?_)
   |refine And.intro trivial ?_
   |refine And.intro ahd ?_
   |refine eQ rfl (λ_=>?_) (λ_=>?_)
   |refine And.intro ?_ ?_
  all_goals
   refine aB ?_;rw[show(AV.sl [] 0 (some 0)).frz=.sl (([]:List (List UInt8)).map AV.str) ([]:List (List UInt8)).length none from rfl];exact ag h.o
 have f:¬xs.length=0:=λc=>b (ae2.1 c)
 have g:(xs.map AV.str).all AV.one=true:=by rw[aev];intro a d;obtain⟨r,_,rfl⟩:=ael.1 d;rfl
 refine aef eo ?_;refine GC (i:=L.length) (l:=xs.map AV.str) ahe ?_;rw[show(AV.lsl L.length 0 xs.length none 1).snap L.length (xs.map AV.str)=.sl (xs.map AV.str) xs.length none from by simp[AV.snap,aeO],show(L++[Blk.cells (xs.map AV.str)]).set L.length .dead=L++[.dead]by simp];exact af (by simp only[AV.refs];exact jI _ _) h.o
theorem OK{l:List Atr}(x:l.length<=1100000)(p:∀a∈l,a.2.length<=1100000)(h:K (.sl (bh l) l.length none) L):
  aeg 68 [.sl (bh l) l.length cap] L K:=by
 replace h:=hid h;have j:Hid (∀{xs:List (List UInt8)}{c:Option Nat}(t:xs.length<=1100000){L:List Blk}{K:aeh},K (.sl (xs.map AV.str) xs.length none) L->aeg 93 [.sl (xs.map AV.str) xs.length c] L K):=@hid _ (by intro xs c t L K q;exact ZT t q);refine aef Qf ?_;refine cB (l:=[]) (n:=0) 3 2 rfl (aeW 2).symm ?_;refine ao (λm T' L'=>∃(k:Nat) (C:List AV) (X:List Blk),m=l.length-k/\k<=l.length/\C=bh (l.take k)/\T'=[(8,.int .i64 (k:Int)),(7,.int .i64 l.length),(6,.sl (bh l) l.length cap),(3,.gsl C k L.length 2)]/\L'=L++(.spare k 2::X)) ahh ⟨0,[],[],rfl,aep _,rfl,rfl,rfl⟩ ?_;rintro _ _ _ ⟨k,C,X,rfl,u,f,rfl,rfl⟩;by_cases b:k<l.length;have g1:(k:Int)<(l.length:Int):=ahd;have w:=aee k ahd;have r:=zd b;have v:k*2+2<=(bh l).length:=by rw[Gy];omega
 obtain⟨⟨nm,vs⟩,g⟩:∃a,l.getD k ([],[])=a:=⟨_,rfl⟩;have d:bh (l.take (k+1))=bh (l.take k)++[.str nm,.sl (vs.map AV.str) vs.length none]:=by rw[aeM b,Qp,show l[k]=(nm,vs)by rw[<- g];simp[b]];rfl
 have e:=p (nm,vs) (by rw[<- g];simp[b]);simp only at e;rw[g]at r;simp only[atA]at r;have s:AV.frzL (vs.map AV.str)=vs.map AV.str:=ji vs;replace d:=hid d;replace f:=hid f;have kk1:Hid (∀{c:Option Nat}{L:List Blk}{K:aeh},K (.sl (vs.map AV.str) vs.length none) L->aeg 93 [.sl (vs.map AV.str) vs.length c] L K):=@hid _ (by intro c L K q;exact j.o e q);clear g p j;refine wk ?_;exact ahi ahd ahg ⟨k+1,_,_,rfl,b,by rw[d.o,f.o],rfl,rfl⟩;have i:k=l.length:=ahd;subst i;have g1:¬(l.length:Int)<(l.length:Int):=ahd;rw[aeI]at f;subst f;have s:=nB l;refine wk ?_;refine aB ?_;simp only[AV.frz,s];exact af (by simp only[AV.refs,qD]) h.o
theorem SC{L:List Blk}{iv mn mi:Nat}{nb bn:Int->Nat}{ck ci:Nat}{rs:List TKy}{suf:List Rdn}{last:Int}{l:List aw}(u:TOk suf last l)(s:∀x∈l,x.av.length<=1100000/\∀a∈x.av,a.2.length<=1100000)(g:aU L iv mn mi nb bn ck ci rs suf last l){K:aeh}(r:DU l id=none->K (.tup [dnA [],atR []]) L)(h:∀x,DU l id=some x->K (.tup [dnA x.nm,atR x.av]) L):
  aeg 34 [.ptr iv 0,.int .i64 id] L K:=by
 have B:=g.v;have A:=g.n;have z:aT .int (.int .i64 id)=true:=rfl;rcases g.node id with⟨f,y⟩|⟨x,n,f,p,t,y,i⟩;replace h:=hid (r f);clear g f r s u;refine aef nv ?_;refine aB ?_;rw[show(AV.tup [.sl [] 0 (some 0),.sl [] 0 (some 0)]).frz=.tup [dnA [],atR []]from rfl];exact ag h.o;replace h:=hid (h x f);unfold kN at i;have d:=(u.ok x p).m.b;have e:=s x p;obtain⟨C,j,k⟩:=x;simp only at i d e h;have kk1:Hid (∀{c:Option Nat}{L:List Blk}{K:aeh},K (dnA j) L->aeg 50 [.sl (j.map aH) j.length none,.sl [] 0 c] L K):=@hid _ (by intro c L K q;exact Mp d.1 d.2 q);have kk2:Hid (Ctr Tryz.prog 68 [.sl (bh k) k.length none] (atR k)):=@hid _ (by intro L K q;exact OK e.1 e.2 q);obtain⟨q,w⟩:=aec (aP (cV l) (NK j));rw[w]at i;unfold atR at i kk2 h;clear g f r s u p t w d e;refine aef nv ?_;exact ag h.o
theorem V7{nb bn:Int->Nat}:∀{l:List aw}{x:aw},(l.map λx=>bn x.id).Nodup->x∈l->(l.map (eP nb bn)).find? (λe=>Nat.beq e.2.2 (bn x.id))=some (eP nb bn x)
 |[],x,_,h=>by cases h
 | y::l,x,hn,h=>by
   rw[aex,aff]at hn;rcases aeJ.1 h with h|h
   .subst h;simp[eP]
   .have hne:bn y.id≠bn x.id:=λe=>hn.1 (ael.2 ⟨x,h,e.symm⟩)
    have a:Nat.beq (bn y.id) (bn x.id)=false:=by
     cases hh:Nat.beq (bn y.id) (bn x.id)with
     |false=>rfl
     |true=>exact absurd (agV hh) hne
    simp only[aex,afo];rw[show Nat.beq (eP nb bn y).2.2 (bn x.id)=false from a];exact V7 hn.2 h
theorem ad5{nb bn:Int->Nat}{l:List aw}{x:aw}{ck:Nat}(a:(l.map λx=>bn x.id).Nodup)(b:x∈l):mat (l.map (eP nb bn)) ck (seen++[bn x.id]) ck=some (eP nb bn x):=by simp only[mat,List.getLast?_append,List.getLast?_singleton,Option.some_or,if_true];exact V7 a b
theorem Y4{β:Type}:∀(ps l:List β),ps.Nodup->(∀x∈ps,x∈l)->ps.length<=l.length
 |[],l,_,_=>aep _
 | x::ps,l,hn,hs=>by
   obtain⟨e,d⟩:=aff.1 hn;obtain⟨a,b,rfl⟩:=List.append_of_mem (hs x ahe);have:=Y4 ps (a++b) d λy c=>by
    have:=hs y (by simp[c]);rcases aen.1 this with h|h
    .exact afp _ h
    .rcases aeJ.1 h with h|h
     .rw[h]at c;exact absurd c e
     .exact afG _ h
   simp only[aez,aeB]at this⊢;omega
structure Qz(bn:Int->Nat)(l:List aw)(ps:List aw)(seen:List Nat):Prop where
 sub:∀x∈ps,x∈l
 nd:ps.Nodup
 eq:seen=ps.map λx=>bn x.id
theorem Qz.nil{bn:Int->Nat}{l:List aw}:Qz bn l [] []:=⟨λ_ h=>absurd h afq,agd,rfl⟩
theorem Qz.next{bn:Int->Nat}{l:List aw}(h:Qz bn l ps seen){x:aw}(i:x∈l)(d:seen.contains (bn x.id)=false):Qz bn l (ps++[x]) (seen++[bn x.id]):=by
 refine⟨λy c=>?_,?_,by rw[h.eq];simp⟩;rcases aen.1 c with c|c;exact h.sub y c;rw[aeG.1 c];exact i;rw[afQ];refine⟨h.nd,ahe,λa f b g e=>?_⟩;rw[aeG.1 g]at e;have:bn x.id∈seen:=by rw[h.eq,<- e];exact ael.2 ⟨a,f,rfl⟩
 rw[afd]at d;simp[this]at d
theorem Qz.all{bn:Int->Nat}{l:List aw}(h:Qz bn l ps seen)(c:l.Nodup)(f:(l.map λx=>bn x.id).Nodup)(d:∀x∈l,seen.contains (bn x.id)=true):ps.Perm l:=by
 refine(List.perm_ext_iff_of_nodup h.nd c).2 λx=>⟨h.sub x,λb=>?_⟩
 have:=d x b;rw[afd,decide_eq_true_eq,h.eq]at this;obtain⟨y,a,e⟩:=ael.1 this;rw[<- bO f (h.sub y a) b e];exact a
theorem Qz.len{bn:Int->Nat}{l:List aw}(h:Qz bn l ps seen):ps.length<=l.length:=Y4 ps l h.nd h.sub
theorem ad3{bn:Int->Nat}{l:List aw}{x:aw}(a:x∈l)(b:seen.contains (bn x.id)=false):(l.filter λr => !(seen++[bn x.id]).contains (bn r.id)).length<(l.filter λr => !seen.contains (bn r.id)).length:=by
 have e:(l.filter λr => !(seen++[bn x.id]).contains (bn r.id))=(l.filter λr => !seen.contains (bn r.id)).filter (λr=>decide (bn r.id≠bn x.id)):=by
  rw[List.filter_filter];refine List.filter_congr λr _=>?_
  by_cases h:bn r.id=bn x.id<;>simp[h]
 rw[e];refine List.length_filter_lt_length_iff_exists.2 ⟨x,ae0.2 ⟨a,by rw[b];rfl⟩,ahe⟩
theorem TOk.nodup{suf:List Rdn}{last:Int}{l:List aw}(h:TOk suf last l):l.Nodup:=by have a:=h.inv.ids;unfold cV at a;rw[aeH]at a;exact yG a
theorem SW(q:Nat->Bool):∀l:List aw,AV.refsL q (nE l)=true
 |[]=>rfl
 |x::l=>by show(AV.refs q _&&AV.refsL q _)=true;rw[SW q l];rfl
theorem JJ{suf:List Rdn}{last:Int}{l:List aw}(ht:TOk suf last l)(bo:l.length<=1100000){L:List Blk}{iv mn mi:Nat}{nb bn:Int->Nat}{ck ci:Nat}{rs:List TKy}(I:aU L iv mn mi nb bn ck ci rs suf last l){s:Int}{K:aeh}(h:K (.sl ((scT l id s).map (AV.int .i64)) (scT l id s).length none) L):
  aeg 32 [.ptr iv 0,.int .i64 id,.int .i64 s] L K:=by
 have w:=I.v;have hn:=I.n;have a9:iv<L.length:=(aei.1 w).1;have a7:mn<L.length:=(aei.1 hn).1;have av:∀X:List Blk,(L++X)[iv]?=some (.cells [dnA suf,.lmap mn,.lmap mi,.int .i64 last]):=λX=>by rw[aem a9];exact w
 have an:∀X:List Blk,(L++X)[mn]?=some (.map (l.map (eP nb bn)) ck):=λX=>by rw[aem a7];exact hn
 have b6:aT .int (.int .i64 id)=true:=rfl;unfold scT at h;rcases I.node id with⟨e1,e2⟩|⟨a,j,e1,ha,bk,e2,e3⟩;rw[e1]at h;replace h:=hid h;clear I e1 w hn;refine aef ek ?_;refine aB ?_;rw[show(AV.sl [] 0 (some 0)).frz=.sl (([]:List Int).map (AV.int .i64)) ([]:List Int).length none from rfl];exact af rfl h.o
 .rw[e1]at h;simp only at h;have bs:nb id<L.length:=(aei.1 e3).1;unfold kN at e3;have ad:∀X:List Blk,(L++X)[nb id]?=some (.cells [dnA a.nm,.sl (ay (pth a)) a.nm.length none,atR a.av,.int .i64 (aP (cV l) (NK a.nm):Nat)]):=λX=>by rw[aem bs];exact e3
  by_cases hs:s<0\/2<s;rw[if_pos hs]at h;replace h:=hid h;clear I e1 w hn e3;by_cases c1:s<0;refine aef ek ?_;refine aB ?_;rw[show(AV.sl [] 0 (some 0)).frz=.sl (([]:List Int).map (AV.int .i64)) ([]:List Int).length none from rfl];exact af rfl h.o;have c2:2<s:=ahd;have c3:s>2:=c2;refine aef ek ?_;refine aB ?_;rw[show(AV.sl [] 0 (some 0)).frz=.sl (([]:List Int).map (AV.int .i64)) ([]:List Int).length none from rfl];exact af rfl h.o
  .rw[if_neg hs]at h;have c1:¬s<0:=ahd;have c2:¬2<s:=ahd;have c3:¬s>2:=c2;replace h:=hid h;replace I:=hid I;replace ht:=hid ht;clear w hn e3 hs;refine aef ek ?_;refine ao (λn T' L'=>∃(seen:List Nat) (ps:List aw) (v:AV) (Z:List Blk),n=(l.filter λr => !seen.contains (bn r.id)).length/\Hid (Qz bn l ps seen)/\Hid ((ps.filter (ig a s)=[]/\v=.sl [] 0 (some 0))\/∃m,ps.filter (ig a s)≠[]/\v=.lsl (L.length+2+m) 0 (ps.filter (ig a s)).length none 1/\Z[m]?=some (.cells (nE (ps.filter (ig a s)))))/\T'=[(44,.ptr (L.length+1) 0),(8,v),(7,.sl (ay (pth a)) a.nm.length none),(3,.ptr L.length 0),(0,.ptr iv 0),(1,.int .i64 id),(2,.int .i64 s)]/\L'=L++([.cells [.ptr iv 0],.miter (some mn) ck seen ck]++Z)) ahh ⟨[],[],_,[],rfl,hid Qz.nil,hid (.inl ⟨rfl,rfl⟩),rfl,rfl⟩ ?_;rintro _ _ _ ⟨seen,ps,v,Z,rfl,F,w,rfl,rfl⟩;have i1:∀(a b:Blk) (Z:List Blk),(L++([a,b]++Z))[L.length+1]?=some b:=λa b Z=>by rw[aey ahd];simp
   have i3:∀(a b c:Blk) (Z:List Blk),(L++([a,b]++Z)).set (L.length+1) c=L++([a,c]++Z):=λa b c Z=>by rw[aeZ _ _ ahd,show L.length+1-L.length=1 by omega];rfl
   refine kX ?_;refine Wx (i:=L.length+1) (j:=mn) (es:=l.map (eP nb bn)) ahf rfl (i1 _ _ _) (an _) (λe he=>?_) (aek _) (λal=>?_) (λe he hs=>?_);obtain⟨p,hp,rfl⟩:=ael.1 he;exact I.o.blt p hp;have J:=F.o.all ht.o.nodup I.o.bnd λx M=>al (eP nb bn x) (ael.2 ⟨x,M,rfl⟩)
   have P:=ht.o.srt a s (J.filter (ig a s));have y:=aeR (agr (ig a s) ps) F.o.len;have H:∀x∈ps.filter (ig a s),x∈l:=λx M=>F.o.sub x (ae0.1 M).1
   obtain⟨z,A⟩:=aec (ps.filter (ig a s));have bd:=w.o;rw[A]at bd P y H;rw[<- P]at h;replace H:=hid H;replace y:=hid y;clear al J P F w A;refine sk ?_;rcases bd with⟨rfl,rfl⟩|⟨m,Y,rfl,N⟩;have kk1:Hid (∀{cap:Option Nat}{fv:AV}{L:List Blk}{K:aeh},K (.tup []) L->aeg 72 [.sl [] 0 cap,fv] L K):=@hid _ (by intro cap fv L K q;exact Yq q);clear H y;refine wk ?_;refine aB ?_;have h':=h.o;rw[List.mergeSort_nil]at h';exact af rfl h';have ai:∀(b c:Blk),(L++b::c::Z)[L.length+2+m]?=some (.cells (nE z)):=λb c=>by rw[aey ahd,show L.length+2+m-L.length=m+1+1 by omega];simpa using N
   have a':∀(b c d:Blk),(L++b::c::Z).set (L.length+2+m) d=L++b::c::Z.set m d:=λb c d=>by rw[aeZ _ _ ahd,show L.length+2+m-L.length=m+1+1 by omega];rfl
   have hm:m<Z.length:=(aei.1 N).1;obtain⟨V,T⟩:=aec (z.mergeSort leE);have bx:V.length=z.length:=(by rw[<- T,ag4]);have kk1:Hid (∀{K:aeh},K (.tup []) (L ++ .cells [.ptr iv 0] :: .miter (some mn) ck seen ck::Z.set m (.cells (nE V)))->aeg 72 [.lsl (L.length+2+m) 0 z.length none 1,.func 73 [.ptr L.length 0]] (L ++ .cells [.ptr iv 0] :: .miter (some mn) ck seen ck::Z) K):=@hid _ (by intro K q;refine aaL ht.o H.o Y (aeR y.o bo) (I.o.app _) (ai _ _) (by rw[aey (aek _)];simp) ?_;rw[a',T];exact q)
   rw[T]at h;have e4:(V.map λx=>x.id).map (AV.int .i64)=nE V:=(by rw[aeH];rfl);rw[e4,aeu]at h;clear H y Y T a' ai N;refine wk ?_;refine GC (i:=L.length+2+m) (l:=nE V) ?_ ?_;rw[aey ahd,show L.length+2+m-L.length=m+1+1 by omega];simp[hm];rw[show(AV.lsl (L.length+2+m) 0 z.length none 1).snap (L.length+2+m) (nE V)=.sl (nE V) V.length none from by simp[AV.snap,<- bx,aeO],aeZ _ _ ahd];refine af ?_ h.o;simp only[AV.refs];exact SW _ V
   .obtain⟨x,M,rfl⟩:=ael.1 he;clear he;have a4:seen.contains (bn x.id)=false:=hs;have D:=hid (ad3 M a4);have t:=hid (F.o.next M a4);have bb:=ad5 (nb:=nb) (ck:=ck) (seen:=seen) I.o.bnd M;have ab:=I.o.nd x M;have b1:nb x.id<L.length:=(aei.1 ab).1;unfold kN at ab;have a1:∀X:List Blk,(L++X)[nb x.id]?=some (.cells [dnA x.nm,.sl (ay (pth x)) x.nm.length none,atR x.av,.int .i64 (aP (cV l) (NK x.nm):Nat)]):=λX=>by rw[aem b1];exact ab
    have f:=Zm ht.o ha M s;have R:(pth x).length=x.nm.length:=(by simp[pth,bv]);have a0:(pth a).length=a.nm.length:=(by simp[pth,bv]);have Q:(ps++[x]).filter (ig a s)=ps.filter (ig a s)++(if ig a s x=true then[x]else[]):=by rw[List.filter_append];congr 1;by_cases c:ig a s x=true<;>simp[c]
    have a8:=(ht.o.ok x M).len;have a_:=(ht.o.ok a ha).len;have y:=aeR (agr (ig a s) ps) F.o.len;rw[R,a0]at f;simp only[eP]at *;clear hs a4 F;simp only[i3];have w1:IntKind.i64.wrap ((x.nm.length:Int)-(a.nm.length:Int))=(x.nm.length:Int)-(a.nm.length:Int):=ac ahd ahd;have kE:Hid (∀{ca cb:Option Nat}{L:List Blk}{K:aeh},a.nm.length<=x.nm.length->K (.bool (decide (List.take a.nm.length (pth x)=pth a))) L->aeg 71 [.sl (List.take a.nm.length (ay (pth x))) a.nm.length ca,.sl (ay (pth a)) a.nm.length cb] L K):=@hid _ (by intro ca cb L K b5 q;rw[<- ago];exact adD (a:=(pth x).take a.nm.length) (b:=pth a) (by rw[afg,R];omega) a0.symm (by rw[afg,R];omega) q)
    obtain⟨u,hu⟩:=aec (decide (List.take a.nm.length (pth x)=pth a));rw[hu]at kE f;obtain⟨xi,O⟩:=aec (x.id);have E:ig a s x=true->(ps++[x]).filter (ig a s)=ps.filter (ig a s)++[x]:=λe=>by rw[Q,if_pos e]
    have a6:ig a s x=false->(ps++[x]).filter (ig a s)=ps.filter (ig a s):=λe=>by rw[Q,if_neg (by rw[e];decide)];simp
    obtain⟨z,A⟩:=aec (ps.filter (ig a s));rw[A]at w E a6 y;obtain⟨nx,S⟩:=aec (x.nm.length);obtain⟨na,W⟩:=aec (a.nm.length);rw[O]at bb a1;rw[S,W]at kE f w1;rw[S]at a1 a8;rw[W]at ad a_;obtain⟨xp,a2⟩:=aec (ay (pth x));rw[a2]at kE a1;have b4:xp.length=nx:=(by rw[<- a2,aeu,R,S]);have B:ig a s x=false->Hid ((z=[]/\v=.sl [] 0 (some 0))\/∃m,z≠[]/\v=.lsl (L.length+2+m) 0 z.length none 1/\Z[m]?=some (.cells (nE z)))->Hid (((ps++[x]).filter (ig a s)=[]/\v=.sl [] 0 (some 0))\/∃m,(ps++[x]).filter (ig a s)≠[]/\v=.lsl (L.length+2+m) 0 ((ps++[x]).filter (ig a s)).length none 1/\Z[m]?=some (.cells (nE ((ps++[x]).filter (ig a s))))):=λe w=>by rw[a6 e];exact w
    rw[W,O];rw[O]at D t;have g:=λ(e:ig a s x=false)=>B e w
    clear B;replace g:=hid g;replace f:=hid f;have G:=hid (show nE [x]=[.int .i64 xi]from by rw[<- O];rfl);clear Q ab M a6 R a0 O S W hu a2 A ha bk e1;by_cases d1:na<=nx;rotate_left;have g1:¬(0:Int)<=(nx:Int)-(na:Int):=ahd;have g2:¬(nx:Int)-(na:Int)≥0:=g1;have B:=g.o (by rw[f.o,decide_eq_false g1];rfl);clear kE f g w E;refine ahl ?_;refine ahi D.o ahh ⟨_,ps++[x],_,_,rfl,hid t.o,B.o,rfl,rfl⟩;have kk1:=@hid _ (λ{ca cb:Option Nat}{L:List Blk}{K:aeh}=>kE.o (ca:=ca) (cb:=cb) (L:=L) (K:=K) d1);have g1:(0:Int)<=(nx:Int)-(na:Int):=ahd;have g2:(nx:Int)-(na:Int)≥0:=g1;have g3:(na:Int)<=(nx:Int):=ahd;have f:=f.o;rw[decide_eq_true g1,ae9]at f;replace f:=hid f;clear kE;cases u with
    | false =>
      have B:=g.o (by rw[f.o];rfl);clear f g w E;refine ahl ?_;refine ahi D.o ahh ⟨_,ps++[x],_,_,rfl,hid t.o,B.o,rfl,rfl⟩
    | true =>
      have f:=f.o;rw[ae9]at f;replace f:=hid f;by_cases d2:s=2
      .subst d2;have k:=hid (E (by rw[f.o];rfl));clear f g E;rcases w.o with⟨A,rfl⟩|⟨m,Y,rfl,N⟩
       .subst A;clear w;refine ahl ?_;refine ahi D.o ahh ⟨_,ps++[x],_,Z++[.cells [.int .i64 xi]],rfl,hid t.o,hid (.inr ⟨Z.length,by rw[k.o];simp,?_,by rw[k.o,ae5,G.o];simp⟩),rfl,ahe⟩;rw[k.o,show L.length+(Z.length+1+1)=L.length+2+Z.length by omega];rfl
       .have hm:m<Z.length:=(aei.1 N).1;have ap:∀(a b:Blk),(L++a::b::Z)[L.length+2+m]?=some (.cells (nE z)):=λa b=>by rw[aey ahd,show L.length+2+m-L.length=m+1+1 by omega];simpa using N
        have b0:∀(a b:Blk),(L++a::b::Z).set (L.length+2+m) .dead=L++a::b::Z.set m .dead:=λa b=>by rw[aeZ _ _ ahd,show L.length+2+m-L.length=m+1+1 by omega];rfl
        obtain⟨C,U⟩:=aec (nE z);obtain⟨d,hd⟩:=aec (z.length);have b2:C.length=d:=(by rw[<- U,aeu,hd]);have bl:List.take d C=C:=aeO ahd;have b3:d<=1100000:=ahd;rw[U]at ap;rw[hd];have a3:=hid U;have a5:=hid hd;clear w N U hd y;refine ahl ?_;refine ahi D.o ahh ⟨_,ps++[x],_,Z.set m .dead++[.cells (C++[.int .i64 xi])],rfl,hid t.o,hid (.inr ⟨Z.length,by rw[k.o];simp,?_,by rw[k.o,show nE (z++[x])=nE z++nE [x]from aeD,a3.o,G.o,aey ahe];simp⟩),rfl,ahe⟩;rw[k.o,show L.length+(Z.length+1+1)=L.length+2+Z.length by omega,aez,a5.o];rfl
      .by_cases d3:(nx:Int)-(na:Int)=s
       .have k:=hid (E (by rw[f.o];rw[decide_eq_true d3,Bool.or_true]));subst d3;clear f g E;rcases w.o with⟨A,rfl⟩|⟨m,Y,rfl,N⟩
        .subst A;clear w;refine ahl ?_;refine ahi D.o ahh ⟨_,ps++[x],_,Z++[.cells [.int .i64 xi]],rfl,hid t.o,hid (.inr ⟨Z.length,by rw[k.o];simp,?_,by rw[k.o,ae5,G.o];simp⟩),rfl,ahe⟩;rw[k.o,show L.length+(Z.length+1+1)=L.length+2+Z.length by omega];rfl
        .have hm:m<Z.length:=(aei.1 N).1;have ap:∀(a b:Blk),(L++a::b::Z)[L.length+2+m]?=some (.cells (nE z)):=λa b=>by rw[aey ahd,show L.length+2+m-L.length=m+1+1 by omega];simpa using N
         have b0:∀(a b:Blk),(L++a::b::Z).set (L.length+2+m) .dead=L++a::b::Z.set m .dead:=λa b=>by rw[aeZ _ _ ahd,show L.length+2+m-L.length=m+1+1 by omega];rfl
         obtain⟨C,U⟩:=aec (nE z);obtain⟨d,hd⟩:=aec (z.length);have b2:C.length=d:=(by rw[<- U,aeu,hd]);have bl:List.take d C=C:=aeO ahd;have b3:d<=1100000:=ahd;rw[U]at ap;rw[hd];have a3:=hid U;have a5:=hid hd;clear w N U hd y;refine ahl ?_;refine ahi D.o ahh ⟨_,ps++[x],_,Z.set m .dead++[.cells (C++[.int .i64 xi])],rfl,hid t.o,hid (.inr ⟨Z.length,by rw[k.o];simp,?_,by rw[k.o,show nE (z++[x])=nE z++nE [x]from aeD,a3.o,G.o,aey ahe];simp⟩),rfl,ahe⟩;rw[k.o,show L.length+(Z.length+1+1)=L.length+2+Z.length by omega,aez,a5.o];rfl
       .have B:=g.o (by rw[f.o,decide_eq_false d2,decide_eq_false d3];rfl);clear f g w E;refine ahl ?_;refine ahi D.o ahh ⟨_,ps++[x],_,_,rfl,hid t.o,B.o,rfl,rfl⟩
section
variable {P:Program}{w0:World}{S0:SB}{N:Nat}{own:Nat->Nat->Nat}{Q:Exit->Tm->List Blk->Prop}{T:Tm}{L:List Blk}
theorem UX{c:Code}{g:Opd}{ps:List Nat}{x y:aS}(hc:aF P N own c=some (.rangeF g ps x y)):
  ∃g0 ps0 ca cb,c=.rangeFunc g0 ps0 ca cb/\aY g0=some g/\ps0.toList=ps/\aF P N own ca=some x/\aF P N own cb=some y/\x.hasRF=false/\y.hasRF=false/\∀p∈ps,p<N:=by
 cases c
 case rangeFunc g0 ps0 ca cb =>
  simp only[aF]at hc;split at hc<;>try cases hc
  rename_i g1 x1 y1 h1 h2 h3;split at hc<;>cases hc;rename_i hb;simp only[aeq,aeU,Array.all_eq_true_iff_forall_mem,decide_eq_true_eq]at hb
  grind
 case region id ops draw =>
  cases draw<;>simp only[aF]at hc
  all_goals
   (repeat' split at hc)
   all_goals (first|(cases hc;done)|(simp only[aeK]at hc;obtain⟨_,_,hc⟩:=hc;cases hc;done)|(simp only[af2]at hc;obtain⟨_,_,hc⟩:=hc;split at hc<;>cases hc;done))
 all_goals
  simp only[aF]at hc
  (repeat' split at hc)
  all_goals (first|(cases hc;done)|(simp only[aeK]at hc;obtain⟨_,_,hc⟩:=hc;cases hc;done))
def I3:List Nat->List AV->Tm->Tm
 |p::ps,a::as',T=>I3 ps as' ((p,a)::T)
 |_,_,T=>T
theorem Qo{E:Env}:∀(ps:List Nat) (b:List AV) (vs:List Value) (T:Tm) (tm:Array Value),ps.length=b.length->VRL E b vs->(∀p∈ps,p<tm.size)->(∀t v,ar T t=some v->VR E v (tm.getD t undef)) ->
  ∀t v,ar (I3 ps b T) t=some v->VR E v (((ps.zip vs).foldl (λtm (p:Nat×Value)=>tm.setIfInBounds p.1 p.2) tm).getD t undef)
 |[],[],vs,T,tm,_,_,_,h,t,v,ht=>by simpa[I3]using h t v (by simpa[I3]using ht)
 |[],_::_,_,_,_,hl,_,_,_,_,_,_=>by simp at hl
 |_::_,[],_,_,_,hl,_,_,_,_,_,_=>by simp at hl
 | p::ps,a::b,vs,T,tm,hl,hv,hp,h,t,v,ht=>by
   obtain⟨x,xs,rfl,f,d⟩:=hv;refine Qo ps b xs ((p,a)::T) (tm.setIfInBounds p x) (by simpa using hl) d (λq e=>by simpa using hp q (by simp[e])) (λt' g c=>?_) t v (by simpa[I3]using ht);simp only[ar]at c;split at c
   .simp_all
   simp_all
theorem Vj(l:List (Nat×Value)):∀tm:Array Value,(l.foldl (λtm (p:Nat×Value)=>tm.setIfInBounds p.1 p.2) tm).size=tm.size:=by
 induction l with
 |nil=>intro tm;rfl
 |cons a l ih=>intro tm;rw[aft,ih];simp
def ad9(i:Nat)(b0 b1:Blk)(K:AV->List Blk->Prop)(e:Exit)(T:Tm)(L:List Blk):Prop:=e=.normal/\L[i]?=some b0/\K (.bool true) (L.set i b1)
theorem Sv{i:Nat}{fn:FuncId}{ps:List Nat}{ca cb:Code}{args:List AV}{K:AV->List Blk->Prop}{x y:aS}(hL:L[i]?=some (.lrec T N fn ps ca cb false))(hx:aF P N own ca=some x.raw)(hy:aF P N own cb=some y.raw)(hfx:x.hasRF=false)(hfy:y.hasRF=false)(hlen:ps.length=args.length)(hps:∀p∈ps,p<N)(h:AW P N own x (Uf (λT1 L1=>L1[i]?=some (.lrec T N fn ps ca cb false)/\AW P N own y (ad9 i (.lrec T N fn ps ca cb true) (.lrec T N fn ps ca cb false) K) T1 (L1.set i (.lrec T N fn ps ca cb true))) (λ_ _ _=>False)) (I3 ps args T) L):QU P i args L K:=by
 intro w0 S0 E w vs hR hv c hc;have hB:=hR.blk i _ hL;obtain⟨c',D,tm,h1,h2,h3,h4,h5⟩:=hB;rw[hc]at h1;cases h1;have hvl:=hv.length;have hyd:=run_yield (P:=P) (args:=⟨vs⟩) h2 (by simp[hvl,hlen]);refine⟨fn,_,ca,cb,hyd,roundIn_of_wpIn (F:=fo none) (n:=0) trivial ?_⟩;have hst:St w ⟨LZ E L,w.heap.size⟩ N E (I3 ps args T) L {tmps:=((⟨ps⟩:Array Tmp).zip ⟨vs⟩).foldl (λtmps (t,a)=>tmps.setIfInBounds t a) tm,defers:=[]} w:=by
  have e:((⟨ps⟩:Array Tmp).zip ⟨vs⟩).foldl (λtmps (t,a)=>tmps.setIfInBounds t a) tm=(ps.zip vs).foldl (λtm (p:Nat×Value)=>tm.setIfInBounds p.1 p.2) tm:=by simp
  refine⟨hR.enter _,λt v ht=>?_,?_,Uh.nil (aek _)⟩;simp only[e];exact Qo ps args vs T tm hlen hv (λp hp=>by rw[h4];exact hps p hp) h5 t v ht;simp only[e];rw[Vj];exact h4
 refine wpIn_mono (h ca hx (some c.blk) (λe=>by rw[hfx]at e;cases e) w _ E _ w hst) λe a1 wA ⟨w1,S1,E1,T1,L1,b1,le1,q1,st1⟩=>?_
 cases e
 case normal =>
  obtain⟨hL1,hAW⟩:=q1;have hc1:=le1.loc _ _ hc;have hB1:=st1.1.blk i _ hL1;obtain⟨c1,D1,tm1,k1,k2,k3,k4,k5⟩:=hB1;rw[hc1]at k1;cases k1;have hlt1:c.blk<wA.heap.size:=(ae1.1 k2).1;refine⟨_,run_beginRound k2 rfl,?_⟩;have st2:St w1 S1 N E1 T1 (L1.set i (.lrec T N fn ps ca cb true)) a1 (wA.putObj c.blk (.loop {state:=.busy,pending:=none,fn:=fn,tmps:=tm1,params:=⟨ps⟩,assign:=ca,body:=cb,defers:=D1})):=by refine⟨st1.1.turn hL1 rfl hc1 ahe (λb hb=>agv hb) rfl rfl rfl ⟨c,D1,tm1,hc1,by rw[World.putObj_heap_same hlt1];rfl,k3,k4,k5⟩ (λ_ _ e=>by cases e),st1.2⟩
  refine wpIn_mono (hAW cb hy (some c.blk) (λe=>by rw[hfy]at e;cases e) w1 S1 E1 a1 _ st2) λe a2 w4 ⟨w3,S3,E3,T2,L2,b3,le3,q3,st3⟩=>?_
  obtain⟨rfl,hL2,hK⟩:=q3;have hc3:=le3.loc _ _ hc1;have hB3:=st3.1.blk i _ hL2;obtain⟨c3,D3,tm3,m1,m2,m3,m4,m5⟩:=hB3;rw[hc3]at m1;cases m1;have hlt3:c.blk<w4.heap.size:=(ae1.1 m2).1;refine⟨_,_,run_endRound none m2,E3,_,.bool true,_,rfl,le1.trans le3,hK,rfl,hR.back ((b1.trans b3).rel ?_)⟩;exact st3.1.turn hL2 rfl hc3 ahe (λb hb=>agv hb) rfl rfl rfl ⟨c,D3,tm3,hc3,by rw[World.putObj_heap_same hlt3];simp,m3,m4,m5⟩ (λ_ _ e=>by cases e)
 all_goals exact q1
theorem MK{g:Opd}{ps:List Nat}{x y:aS}{f:FuncId}{caps:List AV}(he:∀args w,(callFunc f args).run P w=.ok (.enter f args) w)(hg:evX T g=some (.func f caps))(h:∀fn ca cb,aF P N own ca=some x.raw->aF P N own cb=some y.raw->x.hasRF=false->y.hasRF=false->(∀p∈ps,p<N) ->
   ae P f (.yld L.length::caps) (L++[.lrec T N fn ps ca cb false]) λ_ L'=>L'[L.length]?=some (.lrec T N fn ps ca cb false)/\Q .normal T (L'.set L.length .dead)):
  AW P N own (.rangeF g ps x y) Q T L:=λc hc r hr w0 S0 E a w hst=>by
 obtain⟨g0,ps0,ca,cb,rfl,hg0,hps0,hca,hcb,hfx,hfy,hps⟩:=UX hc;rw[aS.hasRF_raw]at hfx hfy;have hrn:r=none:=hr rfl;subst hrn;obtain⟨hR,hT,hN,hMk⟩:=hst;have hgv:=ah hg0 hg hT;simp only[VR]at hgv;obtain⟨lb,hgv,hlb⟩:=hgv;refine wpIn_rangeFunc λfn _=>?_
 have ha:∀(v:World) (o:Obj),(v.alloc o)={v with heap:=v.heap.push o}:=λ_ _=>rfl
 have hR0:Rel w0 S0 E L {w with heap:=w.heap.push (.deferred (some []))}:=hR.grown ⟨λb hb=>by show(w.heap.push _)[b]?=_;rw[afw hb,<- ae7 hb],ahe,rfl,rfl,rfl⟩
 obtain⟨rec,hrec⟩:∃rec:Loop,rec={state:=.ready,pending:=none,fn,tmps:=a.tmps,params:=ps0,assign:=ca,body:=cb,defers:=w.heap.size}:=⟨_,rfl⟩;obtain⟨E1,hE1⟩:∃E1:Env,E1={E with loc:=λi=>if i=L.length then some ⟨w.heap.size+1,0,0⟩else E.loc i}:=⟨_,rfl⟩;have hl1:E1.loc L.length=some ⟨w.heap.size+1,0,0⟩:=by rw[hE1];simp
 have leE:E.le E1:=⟨λ_ _ _ x=>by rw[hE1];exact x,λi c x=>by rw[hE1];show(if i=L.length then _ else E.loc i)=_;rw[if_neg (λe=>by rw[hR.fresh i ahd]at x;cases x)];exact x,λi t x=>⟨t,by rw[hE1];exact x,.inl rfl⟩⟩
 obtain⟨le1,hR1⟩:=hR0.push (.loop rec) (.lrec T N fn ps ca cb false) ⟨w.heap.size+1,0,0⟩ ahe rfl (by rw[<- hE1];refine⟨⟨w.heap.size+1,0,0⟩,w.heap.size,a.tmps,hl1,?_,rfl,hN,λt v hv=>VR.mono leE _ _ (hT t v hv)⟩;show((w.heap.push _).push _)[w.heap.size+1]?=_;rw[Array.getElem?_push,if_pos ahe,hrec,<- hps0];rfl)
 rw[<- hE1]at le1 hR1;obtain⟨W1,hW1⟩:∃W1:World,W1={({w with heap:=w.heap.push (.deferred (some []))}:World)with heap:=(w.heap.push (.deferred (some []))).push (.loop rec)}:=⟨_,rfl⟩;rw[<- hW1]at hR1;have hWs:W1.heap.size=w.heap.size+2:=by rw[hW1];simp
 have hWl:W1.heap[w.heap.size+1]?=some (.loop rec):=by rw[hW1];show((w.heap.push _).push _)[w.heap.size+1]?=_;rw[Array.getElem?_push,if_pos ahe]
 have hWd:W1.heap[w.heap.size]?=some (.deferred (some [])):=by rw[hW1];show((w.heap.push _).push _)[w.heap.size]?=_;rw[afw ahe];simp
 have hcall:=h fn ca cb hca hcb hfx hfy hps W1 ⟨LZ E1 (L++[.lrec T N fn ps ca cb false]),S0.B⟩ E1 W1 (.func (.yield (w.heap.size+1)) #[] #[]::lb) (hR1.enter _) ⟨_,lb,rfl,⟨_,hl1,rfl⟩,VRL.mono le1 _ _ hlb⟩;have hnoD:¬LZ E1 (L++[.lrec T N fn ps ca cb false]) w.heap.size:=by
  rintro(⟨i,k,c,h1,h2,h3,h4⟩|⟨i,n,sz,t,k,h1,h2,h3,h4⟩);by_cases hi:i=L.length;subst hi;rw[hl1]at h3;cases h3;simp at h4;have hi':i<L.length:=(by have:=(aei.1 h1).1;simp at this;omega);rw[aem hi']at h1;have h3':E.loc i=some c:=(by rw[hE1]at h3;simpa[hi]using h3);obtain⟨c',o,g1,g2⟩:=(hR.blk i k h1).loc h2;rw[h3']at g1;cases g1;rw[h4]at g2;have:=(ae1.1 g2).1;omega;have hi':i<L.length:=by rcases aeN i L.length with h5|h5;exact h5;rw[aey h5]at h1;rcases afy (i-L.length)with h6|h6;rw[h6]at h1;cases h1;rw[afb (by simp;omega)]at h1;cases h1
  rw[aem hi']at h1;have hb:=hR.blk i _ h1;simp only[bf]at hb;obtain⟨t',g1,_,_,g2⟩:=hb;have h2':E.tok i=some t:=(by rw[hE1]at h2;exact h2);rw[h2']at g1;cases g1;obtain⟨cs,ty,fr,g3,_⟩:=g2 k h3;rw[h4]at g3;have:=(ae1.1 g3).1;omega
 refine⟨w.heap.size+1,[mkD w.heap.size],W1,{target:=.fn (.func f) ⟨lb⟩,args:=#[.func (.yield (w.heap.size+1)) #[] #[]]},W1,f,#[.func (.yield (w.heap.size+1)) #[] #[]]++⟨lb⟩,W1,?_,?_,λ_ _=>trivial,?_,λe=>(by cases e),?_⟩;have:=run_enterLoop_outer (P:=P) (w:=w) fn a.tmps ps0 ca cb;rw[ha,ha]at this;rw[hW1,hrec];exact this;simp only[resolve,hgv];simp[go_sem];simp[invoke,go_sem,he];rcases hcall with⟨_,hcalls⟩|⟨_,_,_,_,_,hv2,_⟩;refine Qe none _ ?_;have e:(#[Value.func (.yield (w.heap.size+1)) #[] #[]]++(⟨lb⟩:Array Value))=⟨.func (.yield (w.heap.size+1)) #[] #[]::lb⟩:=by apply Array.ext';simp
 rw[e];refine hcalls.mono λen w3 ⟨E3,v,av,L3,e1,le3,⟨hL3,hQ⟩,_,hR3⟩=>?_
 subst e1;have hl3:=le3.loc _ _ hl1;have hB3:=hR3.blk _ _ hL3;simp only[bf,aeE,if_false]at hB3;obtain⟨c3,D3,tm3,m1,m2,m3,m4,m5⟩:=hB3;rw[hl3]at m1;cases m1;have hlt3:w.heap.size+1<w3.heap.size:=(ae1.1 m2).1;have hR4:=hR3.turn hL3 rfl hl3 (k':=.dead) (w':=w3.putObj (w.heap.size+1) (.loop {state:=.exhausted,pending:=none,fn:=fn,tmps:=tm3,params:=⟨ps⟩,assign:=ca,body:=cb,defers:=D3})) ahe (λb hb=>agv hb) rfl rfl rfl trivial (λ_ _ e=>by cases e);have hbs:Bs w0 S0 W1 ⟨LZ E1 (L++[.lrec T N fn ps ca cb false]),S0.B⟩:=hR1.bs;refine⟨none,_,run_endLoop m2 ahe,W1,⟨LZ E1 (L++[.lrec T N fn ps ca cb false]),S0.B⟩,E3,T,_,hbs,le1.trans le3,hQ,hR4,(hT.mono le1).mono le3,hN,?_⟩;have hM:=hMk.bs hbs;refine⟨hM.1,aff.2 ⟨λhm=>?_,hM.2.1⟩,λd hd=>?_⟩;obtain⟨D,g1,_,g2,_⟩:=hMk.2.2 _ hm;have:w.heap.size=D:=by injection g1 with g1 _;injection g1
 have:=hR.size;omega;rcases aeJ.1 hd with rfl|hd;exact⟨_,rfl,by have:=hMk.1;have:=hR.size;show S0.B<=_;omega,ahd,hnoD,hWd⟩;exact hM.2.2 d hd;rw[he]at hv2;cases hv2
end
variable {L:List Blk}{K:aeh}
set_option maxHeartbeats 8000000
set_option maxRecDepth 100000
theorem abG(u:rows.length<=1100000){Inv:Nat->List Blk->Prop}{L:List Blk}{K:aeh}(e:∀k L',Inv k L'->L'[j]?=some (.cells [.sl rows rows.length cap])/\L.length<=L'.length)(g:Inv rows.length L)(h:∀k L' (Q:AV->List Blk->Prop),k<rows.length->Inv (k+1) L'->(∀d,Inv k d->Q (.bool true) d)->QU Tryz.prog i [.int .i64 (k:Int),rows.getD k .undef] L' Q)(l:∀L',Inv 0 L'->Fin L (.tup []) L' K):
  aeg 160 [.yld i,.ptr j 0] L K:=by
 have w:=(e _ _ g).1;have v:IntKind.i64.wrap ((rows.length:Int)-1)=(rows.length:Int)-1:=ac ahd ahd;replace e:=hid e;replace h:=hid h;replace l:=hid l;replace g:=hid g;refine aef iC ?_;refine ao (λn T' L'=>∃(k:Nat) (x:Int),n=k/\k<=rows.length/\Hid (Inv k L')/\x=(k:Int)-1/\T'=[(3,.int .i64 x),(0,.yld i),(1,.ptr j 0)]) (CutS (b:=aek _)) ⟨rows.length,_,rfl,aek _,g,rfl,rfl⟩ ?_;rintro k _ L' ⟨_,x,rfl,p,f,m,rfl⟩;have q:=(e.o _ _ f.o).1;have r:=(e.o _ _ f.o).2;cases k with
 | zero =>
   have c:x=-1:=ahd;subst c;clear m;refine wk ?_;exact⟨.inl rfl,True,[],rfl,trivial,l.o _ f.o⟩
 | succ k =>
   have c:x=(k:Int):=ahd;subst c;clear m;have g1:(0:Int)<=(k:Int):=ahd;have t:IntKind.i64.wrap ((k:Int)-1)=(k:Int)-1:=ac ahd ahd;have g3:(k:Int)<(rows.length:Int):=ahd;have g4:k<rows.length:=p;refine wk ?_;rw[QA];refine h.o k L' _ g4 f.o λd a=>?_
   have y:=(e.o _ _ a).1;have s:=(e.o _ _ a).2;replace a:=hid a;clear f q r;refine ahl ?_;exact ahi ahd (CutL (b:=ahd)) ⟨k,_,rfl,ahd,hid a.o,rfl,rfl⟩
theorem abF(u:rows.length<=1100000){Inv:Nat->List Blk->Prop}{L:List Blk}{K:aeh}(e:∀k L',Inv k L'->L'[j]?=some (.cells [.sl rows rows.length cap])/\L.length<=L'.length)(g:Inv rows.length L)(h:∀k L' (Q:AV->List Blk->Prop),k<rows.length->Inv (k+1) L'->(∀d,Inv k d->Q (.bool true) d)->QU Tryz.prog i [.int .i64 (k:Int),rows.getD k .undef] L' Q)(l:∀L',Inv 0 L'->Fin L (.tup []) L' K):
  aeg 161 [.yld i,.ptr j 0] L K:=by
 have w:=(e _ _ g).1;have v:IntKind.i64.wrap ((rows.length:Int)-1)=(rows.length:Int)-1:=ac ahd ahd;replace e:=hid e;replace h:=hid h;replace l:=hid l;replace g:=hid g;refine aef iX ?_;refine ao (λn T' L'=>∃(k:Nat) (x:Int),n=k/\k<=rows.length/\Hid (Inv k L')/\x=(k:Int)-1/\T'=[(3,.int .i64 x),(0,.yld i),(1,.ptr j 0)]) (CutS (b:=aek _)) ⟨rows.length,_,rfl,aek _,g,rfl,rfl⟩ ?_;rintro k _ L' ⟨_,x,rfl,p,f,m,rfl⟩;have q:=(e.o _ _ f.o).1;have r:=(e.o _ _ f.o).2;cases k with
 | zero =>
   have c:x=-1:=ahd;subst c;clear m;refine wk ?_;exact⟨.inl rfl,True,[],rfl,trivial,l.o _ f.o⟩
 | succ k =>
   have c:x=(k:Int):=ahd;subst c;clear m;have g1:(0:Int)<=(k:Int):=ahd;have t:IntKind.i64.wrap ((k:Int)-1)=(k:Int)-1:=ac ahd ahd;have g3:(k:Int)<(rows.length:Int):=ahd;have g4:k<rows.length:=p;refine wk ?_;rw[QA];refine h.o k L' _ g4 f.o λd a=>?_
   have y:=(e.o _ _ a).1;have s:=(e.o _ _ a).2;replace a:=hid a;clear f q r;refine ahl ?_;exact ahi ahd (CutL (b:=ahd)) ⟨k,_,rfl,ahd,hid a.o,rfl,rfl⟩
theorem adP(h:K (.func 160 [.ptr L.length 0]) (L++[.cells [.sl rows n cap]])):
  aeg 128 [.sl rows n cap] L K:=by
 replace h:=hid h;refine aef jk ?_;exact ag h.o
theorem adO(h:K (.func 161 [.ptr L.length 0]) (L++[.cells [.sl rows n cap]])):
  aeg 131 [.sl rows n cap] L K:=by
 replace h:=hid h;refine aef jD ?_;exact ag h.o
theorem OkD.one(h:OkD d){r:Rdn}(hr:r∈d):OkD [r]:=by obtain⟨a,b,rfl⟩:=List.append_of_mem hr;have e:OkD (r::b):=OkD.app h;rw[Lx]at e⊢;obtain⟨k,j,c,h4⟩:=e;refine⟨ahe,λx i=>j x (by rw[aeG.1 i];simp),?_,aeR ?_ h4⟩;unfold LD at c⊢;rw[List.any_cons,agm]at c;rw[List.any_cons,c.1];rfl;have f:=nu ([r].map (cE false)) 44;have g:=nu ((r::b).map (cE false)) 44;rw[if_neg ahe]at f g;simp only[aex,afh,agl,List.sum_nil,aeB,aeY]at f g;unfold aN;simp only[aex,afh];omega
theorem acH(hd:OkD d)(h:K (.sl (ay (NK d).reverse) d.length none) L):
  aeg 94 [.sl (d.map aH) d.length cap] L K:=by
 have N:=hd.len;replace h:=hid h;have kk1:Hid (∀{L:List Blk}{K:aeh},K (.func 160 [.ptr L.length 0]) (L++[.cells [.sl (d.map aH) d.length cap]])->aeg 128 [.sl (d.map aH) d.length cap] L K):=@hid _ (by intro L K q;exact adP q);refine aef Qg ?_;have R:∀(a b c x y:Blk) (Z:List Blk),(L++([a,b,c]++Z))[(L++[x,y]).length]?=some c:=λa b c x y Z=>by rw[aey ahe];simp
 have p:(d.map aH).length=d.length:=aeu _;refine MK (f:=160) (caps:=[.ptr (L.length+1) 0]) (λargs w=>rfl) rfl (λfn ca cb B F D A u=>?_);refine abG (rows:=d.map aH) (cap:=cap) (Inv:=λk L'=>∃(v:AV) (Z:List Blk),L'=L++([.cells [v],.cells [.sl (d.map aH) d.length cap],.lrec [(9,.func 160 [.ptr (L.length+1) 0]),(3,.ptr L.length 0),(2,.sl [] 0 (some 0)),(0,.sl (d.map aH) d.length cap)] 23 fn [10,11] ca cb false]++Z)/\((k=d.length/\v=.sl [] 0 (some 0))\/∃m,v=.lsl (L.length+3+m) 0 (d.length-k) none 1/\Z[m]?=some (.cells (ay ((NK d).reverse.take (d.length-k)))))) ahd ?_ ?_ ?_ ?_;rintro k L' ⟨v,Z,rfl,_⟩;refine⟨?_,ahe⟩;rw[p,aey ahd];simp;exact⟨.sl [] 0 (some 0),[],ahe,.inl ⟨p,rfl⟩⟩;rintro k L' Q O ⟨v,Z,rfl,T⟩ P;rw[p]at O;obtain⟨r,hr⟩:=aec (d.getD k []);have U:(d.map aH).getD k .undef=.sl (bN r) r.length none:=by rw[yD O,hr]
 have H:r∈d:=by rw[<- hr];simp[O]
 have t:=hd.one H;have n:(NK d).reverse.take (d.length-k)=(NK d).reverse.take (d.length-(k+1))++[cE true r]:=by rw[show d.length-k=d.length-(k+1)+1 by omega,aeM (by rw[afv,bv];omega)];congr 2;rw[List.getElem_reverse];simp only[NK,List.getElem_map,aeu];congr 1;rw[<- hr];simp only[aeA];rw[aeF O];simp only[afB];congr 1;omega
 obtain⟨s,S⟩:=aec (cE true r);rw[S]at n;have kk2:Hid (∀{c:Option Nat}{L:List Blk}{K:aeh},K (.tup [.str s,.int .i64 0]) L->aeg 61 [.sl [.sl (bN r) r.length none] 1 c] L K):=@hid _ (by intro c L K q;refine Mh (d:=[r]) t.m.b.1 t.m.b.2 ?_;rw[qv t,show aN true [r]=s from by simp[aN,Lib.join,S]];exact q)
 rw[U];refine Sv (R _ _ _ _ _ _) B F D A rfl u ?_;simp only[I3];replace P:=hid P;replace n:=hid n;clear hr H t S U B F D A u kk1 R h;have g:∀(a b c c':Blk) (Z:List Blk),(L++a::b::c::Z).set (L.length+2) c'=L++([a,b,c']++Z):=λa b c c' Z=>by rw[aeZ _ _ ahd,show L.length+2-L.length=2 by omega];rfl
 have e:∀(a b c:Blk) (Z:List Blk),(L++a::b::c::Z)[L.length+2]?=some c:=λa b c Z=>by rw[aey ahd,show L.length+2-L.length=2 by omega];rfl
 replace g:=hid g;replace e:=hid e;rcases T with⟨X,rfl⟩|⟨m,rfl,E⟩;refine wk ?_;refine⟨rfl,e.o _ _ _ _,?_⟩;rw[g.o];refine P.o _ ⟨_,Z++[.cells [.str s]],rfl,.inr ⟨Z.length,?_,?_⟩⟩;rw[show d.length-k=1 by omega,show L.length+(Z.length+1+1+1)=L.length+3+Z.length by omega];rw[n.o,show d.length-(k+1)=0 by omega];simp;obtain⟨j,hj⟩:=aec (d.length-(k+1));obtain⟨C,z⟩:=aec (ay ((NK d).reverse.take (d.length-(k+1))));have M:C.length=j:=by rw[<- z,aeu,afg,afv,bv];omega
 have ab:List.take j C=C:=aeO ahd;rw[z]at E;rw[hj];have hm:m<Z.length:=(aei.1 E).1;have G:∀(a b c:Blk),(L++a::b::c::Z)[L.length+3+m]?=some (.cells C):=λa b c=>by rw[aey ahd,show L.length+3+m-L.length=m+1+1+1 by omega];simpa using E
 have W:j<=32:=ahd;have Y:∀(a b c:Blk),(L++a::b::c::Z).set (L.length+3+m) .dead=L++a::b::c::Z.set m .dead:=λa b c=>by rw[aeZ _ _ ahd,show L.length+3+m-L.length=m+1+1+1 by omega];rfl
 refine wk ?_;refine⟨rfl,e.o _ _ _ _,?_⟩;rw[g.o];refine P.o _ ⟨_,Z.set m .dead++[.cells (C++[.str s])],rfl,.inr ⟨Z.length,?_,?_⟩⟩;rw[show d.length-k=j+1 by omega,show L.length+(Z.length+1+1+1)=L.length+3+Z.length by omega];rw[n.o,<- z,aey ahe];simp;have I:∀(a b c c' x y:Blk) (Z:List Blk),(L++([a,b,c]++Z)).set (L++[x,y]).length c'=L++a::b::c'::Z:=λa b c c' x y Z=>by rw[aeZ _ _ ahe,show(L++[x,y]).length-L.length=2 by simp];rfl
 rintro L' ⟨v,Z,rfl,T⟩;refine ag ⟨R _ _ _ _ _ _,?_⟩;rw[I];clear I R B F D A u kk1;rcases T with⟨V,rfl⟩|⟨m,rfl,E⟩;have J:d=[]:=ae2.1 V.symm;subst J;clear V N p hd;refine wk ?_;refine aB ?_;rw[show(AV.sl [] 0 (some 0)).frz=.sl (ay (NK []).reverse) ([]:List Rdn).length none from rfl];exact af rfl h.o;rw[agj,aeO (by rw[afv,bv];omega)]at E;rw[agj];obtain⟨C,z⟩:=aec (ay (NK d).reverse);have M:C.length=d.length:=by rw[<- z,aeu,afv,bv]
 rw[z]at E h;have G:∀(a b c:Blk),(L++a::b::c::Z)[L.length+3+m]?=some (.cells C):=λa b c=>by rw[aey ahd,show L.length+3+m-L.length=m+1+1+1 by omega];simpa using E
 refine wk ?_;refine GC (i:=L.length+3+m) (l:=C) (G _ _ _) ?_;rw[show(AV.lsl (L.length+3+m) 0 d.length none 1).snap (L.length+3+m) C=.sl C d.length none from by simp[AV.snap,<- M],aeZ _ _ ahd];exact af (by rw[<- z];simp only[AV.refs];exact jI _ _) h.o
theorem adN(P:rows.length<=1100000){Inv:Nat->List Blk->List Blk->Prop}{L:List Blk}{K:aeh}(n:∀k A Z,Inv k A Z->A.length=L.length/\A[j]?=some (.cells [.sl rows rows.length cap]))(C:Inv rows.length L [])(E:∀k A Z X (Q:AV->List Blk->Prop),k<rows.length->X.length=3->Inv (k+1) A Z->(∀v B,Inv k v B->Q (.bool true) (v++(X++B)))->QU Tryz.prog i [rows.getD k .undef] (A++(X++Z)) Q)(F:∀A Z,Inv 0 A Z->∀X,X.length=3->Fin L (.tup []) (A++(X++Z)) K):
  aeg 130 [.yld i,.ptr j 0] L K:=by
 have M:=(n _ _ _ C).2;have H:j<L.length:=(aei.1 M).1;have I:∀x:Blk,(L++[x])[j]?=some (.cells [.sl rows rows.length cap]):=λx=>by rw[aem H];exact M
 have kk1:Hid (∀{L:List Blk}{K:aeh},K (.func 161 [.ptr L.length 0]) (L++[.cells [.sl rows rows.length cap]])->aeg 131 [.sl rows rows.length cap] L K):=@hid _ (by intro L K q;exact adO q);replace n:=hid n;replace C:=hid C;replace E:=hid E;replace F:=hid F;refine aef Gm ?_;refine MK (f:=161) (caps:=[.ptr (L.length+1) 0]) (λargs w=>rfl) rfl (λfn ca cb s u t p m=>?_);have D:∀(A:List Blk) (d:A.length=L.length) (a b c x y:Blk) (Z:List Blk),(A++([a,b,c]++Z))[(L++[x,y]).length]?=some c:=λA d a b c x y Z=>by rw[aey (by simp[d])];simp[d]
 have r:∀(A:List Blk) (d:A.length=L.length) (a b c c' x y:Blk) (Z:List Blk),(A++([a,b,c]++Z)).set (L++[x,y]).length c'=A++([a,b,c']++Z):=λA d a b c c' x y Z=>by rw[aeZ _ _ (by simp[d]),show(L++[x,y]).length-A.length=2 by simp[d]];rfl
 refine abF (rows:=rows) (cap:=cap) P (Inv:=λk L'=>∃A Z,L'=A++([.cells [.yld i],.cells [.sl rows rows.length cap],.lrec [(6,.func 161 [.ptr (L.length+1) 0]),(2,.ptr L.length 0),(0,.yld i),(1,.ptr j 0)] 13 fn [7,8] ca cb false]++Z)/\Inv k A Z) ?_ ?_ ?_ ?_;rintro k L' ⟨A,Z,rfl,h⟩;have d:=(n.o _ _ _ h).1;refine⟨?_,by simp[d]⟩;rw[aey ahd,d];simp;exact⟨L,[],ahe,C.o⟩;rintro k L' Q N ⟨A,Z,rfl,h⟩ G;have d:=(n.o _ _ _ h).1;refine Sv (D A d _ _ _ _ _ _) s u t p rfl m ?_;simp only[I3];replace G:=hid G;replace h:=hid h;have g:∀(A:List Blk) (d:A.length=L.length) (a b c c':Blk) (Z:List Blk),(A++a::b::c::Z).set (L.length+2) c'=A++a::b::c'::Z:=λA d a b c c' Z=>by rw[aeZ _ _ ahd,show L.length+2-A.length=2 by omega];rfl
 have e:∀(A:List Blk) (d:A.length=L.length) (a b c:Blk) (Z:List Blk),(A++a::b::c::Z)[L.length+2]?=some c:=λA d a b c Z=>by rw[aey ahd,show L.length+2-A.length=2 by omega];rfl
 have J:∀(a:Blk) (Z:List Blk),(A++a::Z)[L.length]?=some a:=λa Z=>by rw[aey ahd,show L.length-A.length=0 by omega];rfl
 replace g:=hid g;replace e:=hid e;clear s u t p m kk1 D r M I;refine wk ?_;refine⟨e.o _ d _ _ _ _,?_⟩;rw[g.o _ d];refine wk ?_;rw[QA];refine E.o k A Z [.cells [.yld i],.cells [.sl rows rows.length cap],.lrec [(6,.func 161 [.ptr (L.length+1) 0]),(2,.ptr L.length 0),(0,.yld i),(1,.ptr j 0)] 13 fn [7,8] ca cb true] _ N rfl h.o λv B l=>?_
 have z:=(n.o _ _ _ l).1;have O:∀(a:Blk) (Z:List Blk),(v++a::Z)[L.length]?=some a:=λa Z=>by rw[aey ahd,show L.length-v.length=0 by omega];rfl
 replace l:=hid l;clear J h d;refine ahl ?_;refine⟨rfl,e.o _ z _ _ _ _,?_⟩;rw[g.o _ z];exact G.o _ ⟨v,B,rfl,l.o⟩;rintro L' ⟨A,Z,rfl,h⟩;have d:=(n.o _ _ _ h).1;refine ag ⟨D A d _ _ _ _ _ _,?_⟩;rw[r A d];clear D r s u t p m kk1;exact⟨.inl rfl,True,[],rfl,trivial,F.o A Z h _ rfl⟩
theorem ST{k:Nat}(a:k<p.length):p.reverse.take (p.length-k)=p.reverse.take (p.length-(k+1))++[p.getD k []]:=by rw[show p.length-k=p.length-(k+1)+1 by omega,aeM (by rw[afv];omega)];congr 2;rw[List.getElem_reverse];simp only[aeA];rw[aeF a];simp only[afB];congr 1;omega
theorem adS(hn:p.length<=1000){L:List Blk}(M:L[j]?=some (.cells [.sl (ay p) p.length cap])){K:aeh}(h:K (.sl (ay p.reverse) p.length none) L):
  aeg 129 [.sl [] 0 (some 0),.func 130 [.ptr j 0]] L K:=by
 replace h:=hid h;have S:j<L.length:=(aei.1 M).1;refine aef jl ?_;refine MK (f:=130) (caps:=[.ptr j 0]) (λargs w=>rfl) rfl (λfn ca cb y D z u r=>?_);have N:∀(a c x:Blk) (Z:List Blk),(L++[a,c]++Z)[(L++[x]).length]?=some c:=λa c x Z=>by rw[aew,aey ahe];simp
 refine adN (rows:=ay p) (cap:=cap) (by simp;omega) (Inv:=λk A Z=>∃v:AV,A=L++[.cells [v],.lrec [(6,.func 130 [.ptr j 0]),(4,.sl [] 0 (some 0)),(2,.ptr L.length 0),(0,.sl [] 0 (some 0)),(1,.func 130 [.ptr j 0])] 13 fn [7] ca cb false]/\((k=p.length/\v=.sl [] 0 (some 0))\/∃m,v=.lsl (L.length+5+m) 0 (p.length-k) none 1/\Z[m]?=some (.cells (ay (p.reverse.take (p.length-k)))))) ?_ ?_ ?_ ?_;rintro k A Z ⟨v,rfl,_⟩;refine⟨ahe,?_⟩;rw[aem S];simpa using M;exact⟨_,ahe,.inl ⟨ahe,rfl⟩⟩;rintro k A Z X Q P J ⟨v,rfl,R⟩ I;rw[aeu]at P;obtain⟨W,x1,x2,rfl⟩:∃a b c,X=[a,b,c]:=by
  match X,J with
  |[a,b,c],_=>exact⟨a,b,c,rfl⟩
 obtain⟨s,O⟩:=aec (p.getD k []);have T:(ay p).getD k .undef=.str s:=by rw[<- O];simp[P]
 have q:=ST P;rw[O]at q;rw[T];refine Sv (N _ _ _ _) y D z u rfl r ?_;simp only[I3];replace I:=hid I;replace q:=hid q;clear O T y D z u r N h M;have n:∀(a c c':Blk) (Z:List Blk),(L++a::c::Z).set (L.length+1) c'=L++([a,c']++Z):=λa c c' Z=>by rw[aeZ _ _ ahd,show L.length+1-L.length=1 by omega];rfl
 have g:∀(a c:Blk) (Z:List Blk),(L++a::c::Z)[L.length+1]?=some c:=λa c Z=>by rw[aey ahd,show L.length+1-L.length=1 by omega];rfl
 replace n:=hid n;replace g:=hid g;rcases R with⟨V,rfl⟩|⟨m,rfl,B⟩;refine wk ?_;refine⟨rfl,g.o _ _ _,?_⟩;rw[n.o];have:=I.o _ (Z++[.cells [.str s]]) ⟨_,rfl,.inr ⟨Z.length,rfl,by rw[q.o,show p.length-(k+1)=0 by omega];simp⟩⟩;rw[show L.length+(Z.length+1+1+1+1+1)=L.length+5+Z.length by omega];rw[show p.length-k=1 by omega]at this;rw[aew]at this;exact this;obtain⟨d,hd⟩:=aec (p.length-(k+1));obtain⟨C,t⟩:=aec (ay (p.reverse.take (p.length-(k+1))));have H:C.length=d:=by rw[<- t,aeu,afg,afv];omega
 have ad:List.take d C=C:=aeO ahd;rw[t]at B;rw[hd];have hm:m<Z.length:=(aei.1 B).1;have E:∀(a b c e f:Blk),(L++a::b::c::e::f::Z)[L.length+5+m]?=some (.cells C):=λa b c e f=>by rw[aey ahd,show L.length+5+m-L.length=m+1+1+1+1+1 by omega];simpa using B
 have ab:d<=1000:=ahd;have Y:∀(a b c e f:Blk),(L++a::b::c::e::f::Z).set (L.length+5+m) .dead=L++a::b::c::e::f::Z.set m .dead:=λa b c e f=>by rw[aeZ _ _ ahd,show L.length+5+m-L.length=m+1+1+1+1+1 by omega];rfl
 refine wk ?_;refine⟨rfl,g.o _ _ _,?_⟩;rw[n.o];have:=I.o _ (Z.set m .dead++[.cells (C++[.str s])]) ⟨_,rfl,.inr ⟨Z.length,rfl,by rw[q.o,<- t,aey ahe];simp⟩⟩;rw[show L.length+(Z.length+1+1+1+1+1)=L.length+5+Z.length by omega];rw[show p.length-k=d+1 by omega]at this;rw[aew]at this;exact this;rintro A Z ⟨v,rfl,R⟩ X J;obtain⟨W,x1,x2,rfl⟩:∃a b c,X=[a,b,c]:=by
  match X,J with
  |[a,b,c],_=>exact⟨a,b,c,rfl⟩
 have F:∀(a c c' x:Blk) (Z:List Blk),(L++[a,c]++Z).set (L++[x]).length c'=L++a::c'::Z:=λa c c' x Z=>by rw[aew,aeZ _ _ ahe,show(L++[x]).length-L.length=1 by simp];rfl
 refine ag ⟨N _ _ _ _,?_⟩;rw[F];clear F N y D z u r J M;rcases R with⟨U,rfl⟩|⟨m,rfl,B⟩;have G:p=[]:=ae2.1 U.symm;subst G;clear U hn;refine wk ?_;refine aB ?_;rw[show(AV.sl [] 0 (some 0)).frz=.sl (ay ([]:Pth).reverse) ([]:Pth).length none from rfl];exact af rfl h.o;rw[agj,aeO (by rw[afv];omega)]at B;rw[agj];obtain⟨C,t⟩:=aec (ay p.reverse);have H:C.length=p.length:=by rw[<- t,aeu,afv]
 rw[t]at B h;have E:∀(a b c e f:Blk),(L++a::b::c::e::f::Z)[L.length+5+m]?=some (.cells C):=λa b c e f=>by rw[aey ahd,show L.length+5+m-L.length=m+1+1+1+1+1 by omega];simpa using B
 refine wk ?_;refine GC (i:=L.length+5+m) (l:=C) (E _ _ _ _ _) ?_;rw[show(AV.lsl (L.length+5+m) 0 p.length none 1).snap (L.length+5+m) C=.sl C p.length none from by simp[AV.snap,<- H],aeZ _ _ ahd];exact af (by rw[<- t];simp only[AV.refs];exact jI _ _) h.o
theorem ac1(a:p.length<=1000){L:List Blk}(b:L[j]?=some (.cells [.sl (ay p) p.length cap])){K:aeh}(h:K (.sl (ay p.reverse) p.length none) L):
  aeg 96 [.func 130 [.ptr j 0]] L K:=by
 have kk1:Hid (∀{K:aeh},K (.sl (ay p.reverse) p.length none) L->aeg 129 [.sl [] 0 (some 0),.func 130 [.ptr j 0]] L K):=@hid _ (by intro K q;exact adS a b q);replace h:=hid h;refine aef sB ?_;exact ag h.o
theorem adM(h:K (.func 130 [.ptr L.length 0]) (L++[.cells [.sl rows n cap]])):
  aeg 97 [.sl rows n cap] L K:=by
 replace h:=hid h;refine aef Jn ?_;exact ag h.o
theorem abg(hd:OkD d)(h:K (.str (aN true d)) L):
  aeg 95 [.sl (ay (NK d)) d.length cap,.str [44]] L K:=by
 obtain⟨i,g⟩:=RO hd;have b:∀r∈d,(cE true r).length<=200000:=λr hr=>JS (g r hr).1 (λa c=>((g r hr).2 a c).1) (λa c=>((g r hr).2 a c).2)
 have f:=JL ahd b;have e:aN true d=Lib.join (NK d) [44]:=rfl;rw[e]at h f;rw[show d.length=(NK d).length from(bv d).symm];exact LJ (by rw[bv];omega) ahd h
theorem Yl{L:List Blk}{it iv mn mi nb:Nat}{s lst a0 k a3:AV}{es:List (AV×AV×Nat)}{rs:List TKy}{ck ci T:Nat}{l1:List AV}{W:Option Nat}(hd:OkD d)(g:L[it]?=some (.cells [.ptr iv 0]))(f:L[iv]?=some (.cells [s,.lmap mn,.lmap mi,lst]))(l:L[mn]?=some (.map es ck))(M:bF (.int .i64 id) es 0=some (some (j,.ptr nb 0)))(a:L[nb]?=some (.cells [a0,.sl l1 T W,k,a3]))(i:L[mi]?=some (.map (rs.map kyA) ci))(J:bF (.str (aN true d)) (rs.map kyA) 0=some none){K:aeh}(h:K (.tup []) ((L.set nb (.cells [dnA d,.sl (ay (NK d).reverse) d.length none,k,a3])).set mi (.map ((rs++[(aN true d,id,ci)]).map kyA) (ci+1))++[.cells [.sl (ay (NK d).reverse) d.length none]])):
  aeg 69 [.ptr it 0,.int .i64 id,.sl (d.map aH) d.length cap] L K:=by
 have Q:aT .int (.int .i64 id)=true:=rfl;have G:=hd.len;have B:nb≠iv:=λe=>by rw[e,f]at a;simp at a
 have E:nb≠it:=λe=>by rw[e,g]at a;simp at a
 have R:nb≠mn:=λe=>by rw[e,l]at a;simp at a
 have w:nb≠mi:=λe=>by rw[e,i]at a;simp at a
 have x:nb<L.length:=(aei.1 a).1;have C:∀b,(L.set nb b)[it]?=some (.cells [.ptr iv 0]):=λb=>by rw[aeo E];exact g
 have A:∀b,(L.set nb b)[iv]?=some (.cells [s,.lmap mn,.lmap mi,lst]):=λb=>by rw[aeo B];exact f
 have z:∀b,(L.set nb b)[mi]?=some (.map (rs.map kyA) ci):=λb=>by rw[aeo w];exact i
 have N:∀b,(L.set nb b)[nb]?=some b:=λb=>by simp[x]
 have S:∀b c,(L.set nb b).set nb c=L.set nb c:=λb c=>agn ..
 have kk1:Hid (∀{L:List Blk}{c:Option Nat}{K:aeh},K (dnA d) L->aeg 50 [.sl (d.map aH) d.length cap,.sl [] 0 c] L K):=@hid _ (by intro L c K q;exact Mp hd.m.b.1 hd.m.b.2 q);have kk2:Hid (Ctr Tryz.prog 94 [.sl (d.map aH) d.length cap] (.sl (ay (NK d).reverse) d.length none)):=@hid _ (by intro L K q;exact acH hd q);replace h:=hid h;refine aef Jp ?_;have D:iv<L.length:=(aei.1 f).1;have y:it<L.length:=(aei.1 g).1;have n:mi<L.length:=(aei.1 i).1;have P:∀b X,(L.set nb b++[X])[it]?=some (.cells [.ptr iv 0]):=λb X=>by rw[aem (by simpa using y)];exact C b
 have O:∀b X,(L.set nb b++[X])[iv]?=some (.cells [s,.lmap mn,.lmap mi,lst]):=λb X=>by rw[aem (by simpa using D)];exact A b
 have I:∀b X,(L.set nb b++[X])[mi]?=some (.map (rs.map kyA) ci):=λb X=>by rw[aem (by simpa using n)];exact z b
 have V:∀b X Y,(L.set nb b++[X]).set mi Y=(L.set nb b).set mi Y++[X]:=λb X Y=>by rw[af5 _ _ (by simpa using n)]
 have kk3:Hid (∀{K:aeh},K (.sl (ay (NK d)) d.length none) ((L.set nb (.cells [dnA d,.sl (ay (NK d).reverse) d.length none,k,a3]))++[.cells [.sl (ay (NK d).reverse) d.length none]])->aeg 96 [.func 130 [.ptr (L.set nb (.cells [dnA d,.sl (ay (NK d).reverse) d.length none,k,a3])).length 0]] ((L.set nb (.cells [dnA d,.sl (ay (NK d).reverse) d.length none,k,a3]))++[.cells [.sl (ay (NK d).reverse) d.length none]]) K):=@hid _ (by intro K q;have H:(NK d).reverse.length=d.length:=(by rw[afv,bv]);have:=ac1 (p:=(NK d).reverse) (cap:=none) (j:=(L.set nb (.cells [dnA d,.sl (ay (NK d).reverse) d.length none,k,a3])).length) (L:=(L.set nb (.cells [dnA d,.sl (ay (NK d).reverse) d.length none,k,a3]))++[.cells [.sl (ay (NK d).reverse) d.length none]]) ahd (by rw[aey (aek _),H];simp) (K:=K);rw[List.reverse_reverse,H]at this;exact this q)
 have kk4:Hid (Ctr Tryz.prog 95 [.sl (ay (NK d)) d.length none,.str [44]] (.str (aN true d))):=@hid _ (by intro L K q;exact abg hd q);have t:aT .str (.str (aN true d))=true:=rfl;obtain⟨F,v⟩:=aec (aN true d);rw[v]at kk4 J t h;obtain⟨U,r⟩:=aec (ay (NK d).reverse);rw[r]at kk3 h⊢;have u:(rs++[(F,id,ci)]).map kyA=rs.map kyA++[(.str F,.int .i64 id,ci)]:=by rw[aeD];rfl
 rw[u]at h;clear kk1 kk2 g f l M a i v r u;refine⟨_,_,(show aeg 97 [.sl U d.length none] _ _ from adM ⟨rfl,rfl⟩),?_⟩;refine ahl ?_;exact⟨.inl rfl,True,[],rfl,trivial,ag h.o⟩
end Go.Proofs.YtajkbcmleihaoaaGreatDoor.Av
