/- Joined texts of the walk, made small by a program. -/
import Derived.Test.YtajkbcmleihaoaaGreatDoorZk9
import Derived.Test.YtajkbcmleihaoaaGreatDoorZk4
import Derived.Test.YtajkbcmleihaoaaGreatDoorRows
import Derived.KernelRfl
import Derived.Test.YtajkbcmleihaoaaGreatDoorZk8
import Derived.Test.YtajkbcmleihaoaaGreatDoorZk6
import Derived.Test.YtajkbcmleihaoaaGreatDoorZk5
import Derived.Test.YtajkbcmleihaoaaGreatDoorZk7
import Derived.Sort.Walk0
import Derived.Shelf.Strings.Builder1
import Derived.Shelf.Strings.Builder2
import Derived.Shelf.Strings.OnBuilder
import Derived.Shelf.Strings.Trim
import Derived.Shelf.Small.Utf8
import Derived.Shelf.Small.Bits
import Derived.Shelf.Small.Strs
import Derived.Shelf.Strings.BuilderF
import Derived.Shelf.Strings.BuilderK
import Derived.Shelf.Strings.Builder2Cap
import Derived.Shelf.Strconv.Itoa0
import Derived.Shelf.Strings.Search1
import Derived.Shelf.Strings.Search2
import Derived.Shelf.Strings.Cut
import Derived.Shelf.LaysM
import Derived.Shelf.Strings.Shaped
import Derived.Shelf.Sort.Plain
import Derived.Shelf.Strings.Prefix
import Derived.Shelf.Strings.Runes
import Derived.Shelf.Strings.AsciiSet
import Derived.Shelf.Bits.Mul64
import Derived.Shelf.Strings.Repeat
import Derived.Shelf.Unicode.DecodeSlow
import Derived.Shelf.Unicode.DecodeAny
import Derived.Shelf.Unicode.DecodeLast
import Derived.Shelf.Strings.BuilderCap
import Derived.Shelf.Slices.Equal
import Derived.Ground.Names2Prog
import Derived.Shelf.Slices.Clone
import Derived.Shelf.Slices.In.SortNone
import Derived.Shelf.Slices.Empties2
import Derived.Ground.SlsfProg
import Derived.Shelf.SlSortCmp.Insertion
import Derived.Shelf.SlSortCmp.SiftDown1
import Derived.Shelf.SlSortCmp.HeapSort1
import Derived.Shelf.SlSortCmp.Insertion1
import Derived.Shelf.SlSortCmp.Median1
import Derived.Shelf.SlSortCmp.Pivot1
import Derived.Shelf.SlSortCmp.ReverseRange1
import Derived.Shelf.SlSortCmp.PartialInsertion1
import Derived.Shelf.SlSortCmp.PartitionEqual1
import Derived.Shelf.SlSortCmp.Partition1
import Derived.Shelf.SlSortCmp.Pdq1
import Derived.Shelf.SlSortCmp.Whole1
import Derived.Shelf.SlSortCmp.NoneTotal
import Derived.Test.YtajkbcmleihaoaaGreatDoorProg
import Derived.WalkKit
import Derived.WalkLawsBesides
import Derived.Deep.QuietTactic
import Derived.Deep.LoopGhost
import Derived.BigQuiet
import Derived.Lib.Walk
set_option linter.unusedSimpArgs false
set_option linter.unusedVariables false
namespace Go.Proofs.YtajkbcmleihaoaaGreatDoor.Av
open Go
variable {L:List Blk}{K:abx}
set_option maxHeartbeats 8000000
set_option maxRecDepth 100000
theorem Wy(h:K (.tup [.nilptr,.sl [] 0 (some 0),.int .i64 1]) L):abw 22 [.nilptr] L K:=by replace h:=hid h;refine abv u9 ?_;exact ag h.o
theorem Rb{α:Type}{l:List α}{i:Nat}{d:α}(h:i<l.length):l.getD i d∈l:=by simp[h]
theorem ZP{s:Sec}{g h:Nat}(e:rdH az s=some (g,h)):g<2^32:=by unfold rdH at e;split at e;cases e;split at e;cases e;cases e;exact kM s 5 4
def hdK(S:List Sec):Nat->Nat×Nat×Nat×Int
 |0=>(0,0,1,-1)
 |1=>Ej az (0,0,1,-1) 0 (S.getD 0 [])
 |_=>vg az S
theorem WJ(S:List Sec){k:Nat}(a:k<2):hdK S (k+1)=Ej az (hdK S k) k (S.getD k []):=by rcases(by omega:k=0\/k=1)with rfl|rfl<;>rfl
theorem J3{σ:Type}(f:σ->Option Cel)(gen:Nat):∀(n:Nat) (R:List σ) (a:List (List UInt8)),(gg f gen n R a).length<=a.length+n
 |0,R,a=>by simp[gg]
 |n+1,[],a=>by simp[gg]
 | n+1,s::r,a=>by
   rw[gg];cases jN f gen a.length (s::r) 0 1 []with
   |none=>simp only;omega
   | some p =>
     obtain⟨b,c⟩:=p;have:=J3 f gen n c (a++[b]);simp only[abP,abU,ack]at this⊢;omega
theorem Sc{m k:Nat}{R:List Sec}(a:k<R.length):pS az m (R.take (k+1))=(match rdC az (R.getD k [])with|none=>pS az m (R.take k)|some c=>max (pS az m (R.take k)) c.gen):=by unfold pS;rw[ab6 a,List.foldl_append];simp only[acI,adU];rw[show R.getD k []=R[k]by simp[a]];cases rdC az R[k]<;>rfl
section
variable {L:List Blk}{dp lp wp ck:Nat}{cp:Option Nat}{lim:Int}{x y z:AV}{S:List Sec}
theorem Yu(hd:L[dp]?=some (.cells (fX lp wp S.length cp lim false 0 x y z)))(hl:L[lp]?=some (.cells (S.map AV.str)))(hw:L[wp]?=some (.map [] ck))(n1:dp≠lp)(n2:dp≠wp)(n3:lp≠wp)(bb:S.length<=8192)(h4:4<=S.length)(O:∀s∈S,s.length=128)(cm:lim<=9000)(ci:(aX az S (if(S.length:Int)<lim then(S.length:Int)else lim) (bB az S).1 (bB az S).2).1=0){K:abx}(h:∀M jp E c,M[jp]?=some (.cells (j9 dp (aX az S (if(S.length:Int)<lim then(S.length:Int)else lim) (bB az S).1 (bB az S).2).2.1 false))->M[lp]?=some (.cells ((aX az S (if(S.length:Int)<lim then(S.length:Int)else lim) (bB az S).1 (bB az S).2).2.2.map AV.str))->M[wp]?=some (.map [] E)->(∀i,i≠lp->i≠wp->i<L.length->M[i]?=L[i]?)->L.length<=M.length->L.length<=jp ->
   K (.tup [.ptr jp 0,.sl ((bB az S).2.map AV.str) (bB az S).2.length c,.int .i64 0]) M):
  abw 22 [.ptr dp 0] L K:=by
 obtain⟨RR,D⟩:=abr (aX az S (if(S.length:Int)<lim then(S.length:Int)else lim) (bB az S).1 (bB az S).2);rw[D]at ci h;obtain⟨N,hN⟩:=abr (S.length);have kk1:Hid (∀{K:abx},K (.int .i64 (N:Int)) L->abw 51 [.ptr dp 0] L K):=@hid _ (λ{K} q=>TO hd (by rw[hN];exact q));have an:∀X:List Blk,(L++X)[dp]?=some (.cells (fX lp wp S.length cp lim false 0 x y z)):=λX=>abt hd
 have a5:∀X:List Blk,(L++X)[lp]?=some (.cells (S.map AV.str)):=λX=>abt hl
 have a4:∀X:List Blk,(L++X)[wp]?=some (.map [] ck):=λX=>abt hw
 have kR:Hid (∀(k:Nat) (X:List Blk),k<N->∀{K:abx},K (.tup [.str (S.getD k []),.int .i64 0]) (L++X)->abw 52 [.ptr dp 0,.int .i64 (k:Int)] (L++X) K):=hid (λk X hk K q=>YI (ws:=[]) (an X) (a5 X) (a4 X) aeu q);have g1:¬(N:Int)<4:=aeu;replace h:=hid h;have cb:=hid hd;have ch:=hid hl;have b_:=hid hw;replace an:=hid an;replace a5:=hid a5;replace a4:=hid a4;replace D:=hid D;replace O:=hid O;clear hd hl hw;refine abv u9 ?_;refine cB (l:=[]) (n:=0) 5 1 rfl (acg 1).symm ?_;refine ar (λm T' L'=>∃(k:Nat) (C:List AV) (X:List Blk),m=N-k/\k<=N/\Hid (C=(S.take k).map AV.str)/\T'=[(31,.int .i64 (k:Int)),(30,.int .i64 (N:Int)),(5,.gsl C k L.length 1),(2,.nilptr),(3,.sl [] 0 (some 0)),(4,.int .i64 0),(0,.ptr dp 0)]/\L'=L++(.spare k 1::X)) aey ⟨0,[],[],rfl,abJ _,hid rfl,rfl,aev⟩ ?_;rintro m _ _ ⟨k,C,X,hm,hk,hC,rfl,rfl⟩;subst m;by_cases r:k<N;have g2:(k:Int)<(N:Int):=aeu;have g3:IntKind.i64.wrap ((k:Int)+1)=((k+1:Nat):Int):=by rw[af aeu aeu];omega
 obtain⟨s,hs⟩:=abr (S.getD k []);have kk2:Hid (∀{X:List Blk}{K:abx},K (.tup [.str s,.int .i64 0]) (L++X)->abw 52 [.ptr dp 0,.int .i64 (k:Int)] (L++X) K):=@hid _ (λ{X K} q=>kR.o k X r (by rw[hs];exact q));have c7:Hid (C++[.str s]=(S.take (k+1)).map AV.str):=hid (by rw[ab6 aeu,abS,<- hC.o,<- hs];simp[hN,r])
 clear h hC hs kR kk1;refine wk ?_;exact aez aeu aex ⟨k+1,_,_,rfl,r,c7,rfl,rfl⟩;have c8:k=N:=aeu;subst c8;have g2:¬(k:Int)<(k:Int):=aeu;obtain⟨AL,W⟩:=abr (S.map AV.str);have c0:C=AL:=by have:=hC.o;rw[<- hN,abX,W]at this;exact this
 subst c0;clear hC r hk kR kk1;refine wk ?_;obtain⟨v,I⟩:=abr (L ++ .spare k 1::X);obtain⟨jp,b6⟩:=abr (L.length+(X.length+1));have Q:v.length=jp:=by rw[<- I,<- b6];simp
 rw[show ∀b:Blk,L++Blk.spare k 1::(X++[b])=v++[b]from λb=>by rw[<- I];simp,b6];have u:Hid (∀Y:List Blk,(v++Y)[dp]?=some (.cells (fX lp wp S.length cp lim false 0 x y z))):=hid (λY=>by rw[<- I,abK];exact an.o _);have P:Hid (∀Y:List Blk,(v++Y)[lp]?=some (.cells (S.map AV.str))):=hid (λY=>by rw[<- I,abK];exact a5.o _);have J:Hid (∀Y:List Blk,(v++Y)[wp]?=some (.map [] ck)):=hid (λY=>by rw[<- I,abK];exact a4.o _);have G:Hid (∀(i:Nat) (Y:List Blk),i<L.length->(v++Y)[i]?=L[i]?):=hid (λi Y hi=>by rw[<- I,abK,abC hi]);have c_:L.length<jp:=aeu;have bx:∀b:Blk,(v++[b])[jp]?=some b:=λb=>by rw[<- Q];simp
 have cx:∀b c:Blk,(v++[b]).set jp c=v++[c]:=λb c=>by rw[<- Q,ach _ _ (abA _)];simp
 replace I:=hid I;replace Q:=hid Q;have c2:=hid (And.intro (aby.1 cb.o).1 (And.intro (aby.1 ch.o).1 (aby.1 b_.o).1));clear an a5 a4 cb ch b_ b6;obtain⟨A2,a_⟩:=abr (C.take 2);have c':A2.length=2:=by rw[<- a_,<- W];simp;omega
 have al:Hid (∀i,i<2->A2.getD i .undef=.str (S.getD i [])):=hid (λi hi=>by rw[<- a_,<- W,abR,abR,acf hi];have:i<S.length:=aeu;simp[this])
 rw[a_];replace W:=hid W;clear a_;refine ar (λmm T' L'=>∃(i m c h:Nat) (sl:Int),mm=2-i/\i<=2/\Hid (hdK S i=(m,c,h,sl))/\m<2^32/\c<2^32/\h<=1/\(-1<=sl/\sl<=1)/\T'=[(54,.int .i64 (i:Int)),(53,.int .i64 2),(52,.sl A2 2 none),(11,.int .i64 (c:Int)),(10,.int .i64 (m:Int)),(9,.ptr jp 0),(5,.gsl C k L.length 1),(2,.nilptr),(3,.sl [] 0 (some 0)),(4,.int .i64 0),(0,.ptr dp 0)]/\L'=v++[.cells (j9 dp ⟨0,h,sl,0,0⟩ false)]) aey ⟨0,0,0,1,-1,rfl,by decide,hid rfl,by decide,by decide,by decide,by decide,rfl,rfl⟩ ?_;rintro mm _ _ ⟨i,m,c,t,sl,hm,hi,hK,ap,a0,a8,ct,rfl,rfl⟩;subst mm;by_cases r:i<2;have g5:(i:Int)<2:=aeu;have g6:IntKind.i64.wrap ((i:Int)+1)=((i+1:Nat):Int):=by rw[af aeu aeu];omega
 obtain⟨a,ha⟩:=abr (S.getD i []);have e1:=al.o i r;rw[ha]at e1;have b7:i<A2.length:=aeu;have f:a.length=128:=O.o a (by rw[<- ha];exact Rb aeu);have d:=WJ S r;rw[hK.o,ha]at d;unfold Ej at d;cases hr:rdH az a with
 | none =>
   rw[hr]at d;have kk1:Hid (Ctr Tryz.prog 53 [.str a] (.tup [.int .i64 0,.int .i64 0,.bool false])):=@hid _ (λ{L K} q=>WI f (by rw[hr];exact q));replace d:=hid d;clear h hK ha hr u P J G al f D;refine wk ?_;exact aez aeu aex ⟨i+1,m,c,t,sl,rfl,r,d,ap,a0,a8,ct,rfl,rfl⟩
 | some p =>
   obtain⟨g,hh⟩:=p;rw[hr]at d;dsimp only at d;have b1:=ZP hr;have b2:=(MM hr).1;have kk1:Hid (Ctr Tryz.prog 53 [.str a] (.tup [.int .i64 (g:Int),.int .i64 (hh:Int),.bool true])):=@hid _ (λ{L K} q=>WI f (by rw[hr];exact q));obtain⟨m2,T⟩:=abr (max m g);have g7:(if(g:Int)>(m:Int)then(g:Int)else(m:Int))=(m2:Int):=(by rw[<- T];split<;>omega);rw[T]at d;have ai:m2<2^32:=aeu;by_cases cg:c<g
   .have g8:(c:Int)<(g:Int):=aeu;rw[if_pos cg]at d;replace d:=hid d;clear h hK ha hr u P J G al f D T;refine wk ?_;exact aez aeu aex ⟨i+1,m2,g,hh,(i:Int),rfl,r,d,ai,b1,b2,aeu,rfl,rfl⟩
   .have g8:¬(c:Int)<(g:Int):=aeu;rw[if_neg cg]at d;replace d:=hid d;clear h hK ha hr u P J G al f D T;refine wk ?_;exact aez aeu aex ⟨i+1,m2,c,t,sl,rfl,r,d,ai,a0,a8,ct,rfl,rfl⟩
 have b7:i=2:=aeu;subst b7;have bd:vg az S=(m,c,t,sl):=hK.o;obtain⟨sz,w⟩:=abr (aQ S.length);have kk1:Hid (∀{K:abx},K (.int .i64 (sz:Int)) (v++[.cells (j9 dp ⟨0,t,sl,0,0⟩ false)])->abw 54 [.ptr jp 0] (v++[.cells (j9 dp ⟨0,t,sl,0,0⟩ false)]) K):=@hid _ (λ{K} q=>JD (j:=⟨0,t,sl,0,0⟩) (bx _) (u.o _) aeu bb (by rw[w];exact q));have cy:2+2*sz<=k:=by rw[<- w,<- hN];unfold aQ;omega
 have c9:1<=sz:=by rw[<- w];unfold aQ;omega
 obtain⟨U,a9⟩:=abr (2*sz);have g5:IntKind.i64.wrap (2*(sz:Int))=(U:Int):=by rw[af aeu aeu];omega
 obtain⟨e2,dn⟩:=abr (2+U);have g6:IntKind.i64.wrap (2+(U:Int))=(e2:Int):=by rw[af aeu aeu];omega
 have g7:e2<=k:=aeu;have g8:e2-2=U:=aeu;have g9:2<=e2:=aeu;obtain⟨BL,V⟩:=abr ((S.drop 2).take U);obtain⟨B,hB⟩:=abr ((C.drop 2).take U);have bn:BL.length=U:=by rw[<- V];simp;omega
 have b0:B=BL.map AV.str:=by rw[<- hB,<- V,<- W.o,adF,adT]
 have c5:B.length=U:=by rw[b0,abM,bn]
 have a':Hid (∀i,i<U->B.getD i .undef=.str (BL.getD i [])):=hid (λi hi=>by rw[b0,abR,abR];simp[show i<BL.length by omega])
 have A:Hid (∀s∈BL,s.length=128):=hid (λs hs=>O.o s (by rw[<- V]at hs;exact acY (adG hs)));replace V:=hid V;replace bd:=hid bd;replace w:=hid w;replace a9:=hid a9;clear hK r hi b0;refine wk ?_;refine ar (λmm T' L'=>∃(i m':Nat) (Y:List Blk),mm=U-i/\i<=U/\Hid (pS az m (BL.take i)=m')/\m'<2^32/\T'=[(89,.int .i64 (i:Int)),(88,.int .i64 (U:Int)),(87,.sl B U none),(11,.int .i64 (c:Int)),(10,.int .i64 (m':Int)),(9,.ptr jp 0),(5,.gsl C k L.length 1),(2,.nilptr),(3,.sl [] 0 (some 0)),(4,.int .i64 0),(0,.ptr dp 0)]/\L'=v++(.cells (j9 dp ⟨0,t,sl,0,0⟩ false)::Y)) aey ⟨0,m,[],rfl,abJ _,hid rfl,ap,rfl,rfl⟩ ?_;rintro mm _ _ ⟨i,m',Y,dk,hi,a6,b5,rfl,rfl⟩;subst mm;by_cases r:i<U;have p1:(i:Int)<(U:Int):=aeu;have p2:IntKind.i64.wrap ((i:Int)+1)=((i+1:Nat):Int):=by rw[af aeu aeu];omega
 obtain⟨a,ha⟩:=abr (BL.getD i []);have e1:=a'.o i r;rw[ha]at e1;have b7:i<B.length:=aeu;have f:a.length=128:=A.o a (by rw[<- ha];exact Rb aeu);have d:=Sc (m:=m) (R:=BL) (k:=i) aeu;rw[a6.o,ha]at d;cases hr:rdC az a with
 | none =>
   rw[hr]at d;have kk1:Hid (Ctr Tryz.prog 55 [.str a] (.tup [.agg (Es Rp),.bool false])):=@hid _ (λ{L K} q=>Mq f (by rw[hr];exact q));replace d:=hid d;clear h a6 ha hr u P J G f D a' A bx cx;refine wk ?_;exact aez aeu aex ⟨i+1,m',_,rfl,r,d,b5,rfl,rfl⟩
 | some p =>
   have l1:=(V9 hr).1;obtain⟨cg,cs,cn,cq,cd⟩:=p;rw[hr]at d;dsimp only at d l1;have kk1:Hid (Ctr Tryz.prog 55 [.str a] (.tup [.agg (Es ⟨cg,cs,cn,cq,cd⟩),.bool true])):=@hid _ (λ{L K} q=>Mq f (by rw[hr];exact q));obtain⟨m2,T⟩:=abr (max m' cg);have p3:(if(cg:Int)>(m':Int)then(cg:Int)else(m':Int))=(m2:Int):=(by rw[<- T];split<;>omega);have w2:=TK (n:=cg) aeu;rw[T]at d;have ai:m2<2^32:=aeu;replace d:=hid d;clear h a6 ha hr u P J G f D a' A bx cx T;refine wk ?_;exact aez aeu aex ⟨i+1,m2,_,rfl,r,d,ai,rfl,rfl⟩
 have c4:i=U:=aeu;subst c4;have d:bB az S=(⟨m',t,sl,0,0⟩,if 0<=sl then gg (rdC az) c sz ((S.drop (aK S.length t)).take sz) []else[]):=by unfold bB;rw[bd.o,w.o,a9.o,V.o];have:=a6.o;rw[ab7 aeu]at this;rw[this]
 have p1:¬(i:Int)<(i:Int):=aeu;have av:∀(b:Blk) (Z:List Blk),(v++b::Z)[jp]?=some b:=λb Z=>by rw[<- Q.o];simp
 have cl:∀(b c:Blk) (Z:List Blk),(v++b::Z).set jp c=v++c::Z:=λb c Z=>by rw[<- Q.o,ach _ _ (abA _)];simp
 have bk:Hid (∀(rc:List (List UInt8)) (co:Option Nat),(bB az S).2=rc->∀{K2:AV->List Blk->Prop},(∀M E,M[jp]?=some (.cells (j9 dp RR.2.1 false))->M[lp]?=some (.cells (RR.2.2.map AV.str))->M[wp]?=some (.map [] E)->(∀i,i≠lp->i≠wp->i<L.length->M[i]?=L[i]?)->L.length<=M.length->K2 (.int .i64 0) M)->abw 29 [.ptr jp 0,.sl (rc.map AV.str) rc.length co] (v ++ .cells (j9 dp ⟨m',t,sl,0,0⟩ false)::Y) K2):=hid (λrc co q K2 e=>by
  obtain⟨a1,a2,a3⟩:=c2.o;have c3:aX az S (if(S.length:Int)<lim then(S.length:Int)else lim) ⟨m',t,sl,0,0⟩ rc=RR:=(by rw[<- D.o,q,d]);have c1:rc.length<=1000000:=by rw[<- q,d];have cy:sz<=8192:=(by rw[<- w.o];unfold aQ;omega);dsimp only;split;have:=J3 (rdC az) c sz ((S.drop (aK S.length t)).take sz) [];simp only[ack]at this;omega;simp
  refine QX (j:=⟨m',t,sl,0,0⟩) (av _ _) (u.o _) (P.o _) (J.o _) n1 n2 n3 aeu aeu aeu bb h4 a8 cm c1 (λM E r1 r2 r3 r4 r5=>?_);rw[c3]at r1 r2⊢;rw[ci];exact e M E r1 r2 r3 (λi b1 b2 b3=>by rw[r4 i aeu b1 b2 (by simp;have:=Q.o;omega)];exact G.o i _ b3) (by have:=Q.o;simp at r5;omega))
 have ab:Hid ((bB az S).2=if 0<=sl then gg (rdC az) c sz ((S.drop (aK S.length t)).take sz) []else[]):=hid (by rw[d]);clear a6 ap bd a9 V a' A hB c5 bn hi d;by_cases ad:0<=sl;have p2:decide (0<=sl)=true:=decide_eq_true ad;have H:=ab.o;rw[if_pos ad]at H;obtain⟨rc,F⟩:=abr (gg (rdC az) c sz ((S.drop (aK S.length t)).take sz) []);rw[F]at H;have cf:aK S.length t+sz<=k:=by rw[<- w.o,<- hN];unfold aK aQ;rcases(by omega:t=0\/t=1)with rfl|rfl<;>omega
 obtain⟨fs,bo⟩:=abr (aK S.length t);have kk1:Hid (∀{Z:List Blk}{K:abx},K (.int .i64 (fs:Int)) (v ++ .cells (j9 dp ⟨0,t,sl,0,0⟩ false)::Z)->abw 56 [.ptr jp 0,.int .i64 (t:Int)] (v ++ .cells (j9 dp ⟨0,t,sl,0,0⟩ false)::Z) K):=@hid _ (λ{Z K} q=>JF (j:=⟨0,t,sl,0,0⟩) (av _ _) (u.o _) aeu bb a8 (by rw[bo];exact q));have kk2:Hid (∀{Z:List Blk}{K:abx},K (.int .i64 (sz:Int)) (v ++ .cells (j9 dp ⟨0,t,sl,0,0⟩ false)::Z)->abw 54 [.ptr jp 0] (v ++ .cells (j9 dp ⟨0,t,sl,0,0⟩ false)::Z) K):=@hid _ (λ{Z K} q=>JD (j:=⟨0,t,sl,0,0⟩) (av _ _) (u.o _) aeu bb (by rw[w.o];exact q));obtain⟨e3,b'⟩:=abr (fs+sz);rw[bo]at F cf;have p3:IntKind.i64.wrap ((fs:Int)+(sz:Int))=(e3:Int):=by rw[af aeu aeu];omega
 have p4:e3-fs=sz:=aeu;have p5:fs<=e3:=aeu;have p6:e3<=k:=aeu;obtain⟨B2,c6⟩:=abr ((C.drop fs).take sz);obtain⟨RL,a7⟩:=abr ((S.drop fs).take sz);have bl:RL.length=sz:=by rw[<- a7];simp;omega
 have ca:B2=RL.map AV.str:=by rw[<- c6,<- a7,<- W.o,adF,adT]
 rw[a7]at F;have kk3:Hid (Ctr Tryz.prog 57 [.sl B2 sz none,.int .i64 (c:Int)] (.sl (rc.map AV.str) rc.length none)):=@hid _ (λ{L K} q=>by have:=R3 (R:=RL) (gen:=c) (n:=sz) (L:=L) (K:=K) (λs hs=>O.o s (by rw[<- a7]at hs;exact acY (adG hs))) a0 aeu aeu (by rw[F];exact q);rw[<- ca,bl]at this;exact this)
 obtain⟨RA,bs⟩:=abr (rc.map AV.str);obtain⟨rn,b4⟩:=abr (rc.length);rw[bs,b4]at kk3;replace b':=hid b';clear ca a7 bl F bo w ab;refine wk ?_;rw[<- bs,<- b4];refine bk.o rc none H (λM E r1 r2 r3 r4 r5=>?_);have hK:=hid (h.o M jp E none r1 r2 r3 r4 r5 aeu);rw[H]at hK;rw[bs,b4]at hK⊢;clear r1 r2 r3 r4 r5 bk h kk1 kk2 kk3 av cl u P J G;refine wk ?_;exact ag hK.o;have p2:decide (0<=sl)=false:=decide_eq_false ad;have H:=ab.o;rw[if_neg ad]at H;refine wk ?_;refine bk.o [] (some 0) H (λM E r1 r2 r3 r4 r5=>?_);have hK:=hid (h.o M jp E (some 0) r1 r2 r3 r4 r5 aeu);rw[H]at hK;clear r1 r2 r3 r4 r5 bk h av cl u P J G;refine wk ?_;exact ag hK.o
end
end Go.Proofs.YtajkbcmleihaoaaGreatDoor.Av
set_option maxRecDepth 100000
namespace Go.Proofs.YtajkbcmleihaoaaGreatDoor.Av
open Go
def zd:LSO:=[Ao 2]
def zc:LSO:=[Ao 3]
def zb:LSO:=[Aa 10 0,Aa 11 0,Aa 12 0,Af 13 33 12,Ay 14 26 11 13,Bh 15 32 10 14 2,Ah 16 15,Ab 17 0]
def za:LSO:=[Au 18 17 16]
def y9:LSO:=[Aw 19 1 15 17,Ac 20 1 19,Aa 5 20]
def y8:LSO:=[Aa 22 0,Aa 23 5,Ay 24 34 22 23,Aa 21 24,Al 25 21,Am 26 21,Aa 6 25,Aa 7 26]
def yZ:LSO:=[Aa 28 6,Aa 29 7,
 o1 30 (.build [(.int .i64 0),(.sl [] 0 (some 0)),(.sl [] 0 (some 0)),(.sl [] 0 (some 0))] [(0,(1,(iv 1))),(1,(1,(tm 28))),(3,(1,(tm 29)))]),Af 31 14 30,Aa 27 31,Al 32 27,
 Am 33 27,Aa 8 32,Aa 9 33]
def yY:LSO:=[Aa 34 3,Aa 35 8,AK 36 35,Bc 37 34 36,Aa 3 37]
def yX:LSO:=[Aj 38 17 1,Aa 17 38]
def yW:LSO:=[Aa 39 3,Aa 2 39]
def vj:aI:=⟨40,(aen zd [] (aen zc [] (.seq (aen zb Cx (aeq 0 (aen za [] (.seq (aer 18 0) (.seq (.block 1 (aen y9 BV (aen y8 Ch (aen yZ [false,true,false,false,false,false,false,false,false] (.sreg yY BX))))) (.sreg yX BU)))))) (aen yW BU .ret)))),[(.tmp 2)]⟩
attribute [push_cast] zd zc zb za y9 y8 yZ yY yX yW
theorem Ko:aes 30=aet vj:=aew
attribute [push_cast] vj
variable {L:List Blk}{K:abx}
set_option maxHeartbeats 8000000
set_option maxRecDepth 100000
def dnM(d:List Rdn):Prop:=d.length<=1100000/\∀r∈d,r.length<=1100000/\∀a∈r,(a.1.length:Int)<=140737488351232
theorem dnM.b{d:List Rdn}(h:dnM d):dnB d:=⟨h.1,λr hr=>(h.2 r hr).1⟩
theorem QH{d:List Rdn}(h:OkD d):d.length<=1000/\∀r∈d,r.length<=1000/\∀a∈r,a.1.length<=10000/\a.2.length<=10000:=by obtain⟨e,b⟩:=PC h;exact⟨aeu,λr hr=>⟨by have:=(b r hr).1;omega,λa c=>⟨by have:=((b r hr).2 a c).1;omega,by have:=((b r hr).2 a c).2;omega⟩⟩⟩
theorem OkD.m{d:List Rdn}(h:OkD d):dnM d:=⟨by have:=(QH h).1;omega,λr hr=>⟨by have:=((QH h).2 r hr).1;omega,λa b=>by have:=(((QH h).2 r hr).2 a b).1;omega⟩⟩
theorem XY{d:List Rdn}{cap:Option Nat}(hd:OkD d)(h:K (.str (aN true d)) L):
  abw 76 [.sl (d.map aJ) d.length cap,.bool true] L K:=by
 obtain⟨g,e⟩:=PC hd;have b:∀r∈d,(cC true r).length<=200000:=λr hr=>HP (e r hr).1 (λa c=>((e r hr).2 a c).1) (λa c=>((e r hr).2 a c).2)
 have f:=HI aeu b;exact Th (QH hd).1 (QH hd).2 (λr hr=>by have:=b r hr;omega) aeu h
theorem Td{d b:List Rdn}{cap g:Option Nat}(hd:dnB d)(l:dnB b)(h:K (.bool (gr d b)) L):
  abw 77 [.sl (d.map aJ) d.length cap,.sl (b.map aJ) b.length g] L K:=by
 have e:gr d b=(decide (OkD d)&&decide (OkD b)&&decide (b.length<=d.length)&&decide (aN true (d.drop (d.length-b.length))=aN true b)):=rfl;obtain⟨⟨ps,t⟩,m⟩:∃q,prS d=q:=⟨_,rfl⟩;obtain⟨⟨v,ne⟩,i⟩:∃q,PJ b=q:=⟨_,rfl⟩;have kk1:Hid (Ctr Tryz.prog 35 [.sl (d.map aJ) d.length cap] (.tup [.str ps,.int .i64 t])):=@hid _ (by intro L K q;exact xK hd.1 hd.2 (by rw[m];exact q));have kk2:Hid (Ctr Tryz.prog 61 [.sl (b.map aJ) b.length g] (.tup [.str v,.int .i64 ne])):=@hid _ (by intro L K q;exact J7 l.1 l.2 (by rw[i];exact q));have n:OkD d↔t=0:=by unfold OkD;rw[m]
 by_cases r:t=0;rotate_left;rw[e,decide_eq_false (λc=>r (n.1 c))]at h;simp only[adA]at h;replace h:=hid h;clear m i e n hd l;refine abv mh ?_;exact ag h.o;have a:OkD d:=n.2 r;by_cases s:ne=0;rotate_left;rw[e,decide_eq_false (p:=OkD b) (λc=>s (by have:=pY c;rw[i]at this;injection this))]at h;simp only[adA,ad4]at h;replace h:=hid h;subst r;clear m i e n hd l a;refine abv mh ?_;exact ag h.o;have f:OkD b:=by by_cases c:OkD b;exact c;exact absurd (by rw[i];exact s) (PI c)
 have j:v=aN true b:=by have:=pY f;rw[i]at this;injection this
 rw[decide_eq_true a,decide_eq_true f]at e;simp only[acU]at e;subst r s;by_cases u:b.length<=d.length;rotate_left;rw[e,decide_eq_false u]at h;simp only[adA]at h;replace h:=hid h;have g1:(d.length:Int)<(b.length:Int):=aeu;clear m i e n hd l a f j;refine abv mh ?_;exact ag h.o;rw[e,decide_eq_true u,<- j]at h;simp only[acU]at h;obtain⟨k,w⟩:=abr (d.length-b.length);rw[w]at h;have kk3:Hid (∀{c:Option Nat}{L:List Blk}{K:abx},K (.str (aN true (d.drop k))) L->abw 76 [.sl (List.take (d.length-k) (List.drop k (d.map aJ))) (d.length-k) c,.bool true] L K):=@hid _ (by intro c L K q;have:=XY (cap:=c) (a.drop k) q;rw[acK]at this;rw[<- adT,ab7 aev];exact this)
 have g1:¬(d.length:Int)<(b.length:Int):=aeu;have x:d.length<=32:=a.len;have y:IntKind.i64.wrap ((d.length:Int)-(b.length:Int))=(k:Int):=by rw[af aeu aeu];omega
 have g3:(k:Int)<=(d.length:Int):=aeu;replace h:=hid h;clear m i e n hd l a f j w u x;refine abv mh ?_;exact ag h.o
abbrev aA:=Ent (List Atr)
instance:Inhabited aA:=⟨⟨0,[],[]⟩⟩
def atR(v:List Atr):AV:=.sl (cj v) v.length none
def abk(x:aA):List AV:=[.int .i64 x.id,dnA x.nm,atR x.av]
def aaP(l:List aA):List AV:=l.flatMap abk
def plI(o:Option Nat):Int:=match o with|some i=>(i:Int)|none=>-1
def byI(l:List aA)(id:Int):Int:=plI (l.findIdx? λx=>decide (x.id=id))
abbrev TKy:=List UInt8×Int×Nat
def kyA(r:TKy):AV×AV×Nat:=(.str r.1,.int .i64 r.2.1,r.2.2)
def eO(nb bn:Int->Nat)(x:aA):AV×AV×Nat:=(.int .i64 x.id,.ptr (nb x.id) 0,bn x.id)
def kP(l:List aA)(x:aA):List AV:=[dnA x.nm,.sl (ax (pth x)) x.nm.length none,atR x.av,.int .i64 (aP (cU l) (NK x.nm):Nat)]
structure aU(L:List Blk)(iv mn mi:Nat)(nb bn:Int->Nat)(ck ci:Nat)(rs:List TKy)(suf:List Rdn)(last:Int)(l:List aA):Prop where
 v:L[iv]?=some (.cells [dnA suf,.lmap mn,.lmap mi,.int .i64 last])
 n:L[mn]?=some (.map (l.map (eO nb bn)) ck)
 i:L[mi]?=some (.map (rs.map kyA) ci)
 nd:∀x∈l,L[nb x.id]?=some (.cells (kP l x))
 keys:(rs.map (·.1)).Nodup
 mem:∀k id,(∃b,(k,id,b)∈rs)↔∃x∈l,aN true x.nm=k/\x.id=id
 bnd:(l.map λx=>bn x.id).Nodup
 blt:∀x∈l,bn x.id<ck
theorem aU.app{L:List Blk}{iv mn mi:Nat}{nb bn:Int->Nat}{ck ci:Nat}{rs:List TKy}{suf:List Rdn}{last:Int}{l:List aA}(h:aU L iv mn mi nb bn ck ci rs suf last l)(X:List Blk):aU (L++X) iv mn mi nb bn ck ci rs suf last l:=by
 have key:∀{i:Nat}{b:Blk},L[i]?=some b->(L++X)[i]?=some b:=λ{i b} e=>by rw[abC (aby.1 e).1];exact e
 exact⟨key h.v,key h.n,key h.i,λx a=>key (h.nd x a),h.keys,h.mem,h.bnd,h.blt⟩
theorem xt:∀(rs:List TKy) (k:List UInt8) (j:Nat),bF (.str k) (rs.map kyA) j=some ((rs.findIdx? λr=>decide (r.1=k)).map λn=>(j+n,.int .i64 (rs.getD n default).2.1))
 |[],k,j=>rfl
 | r::rs,k,j=>by
   by_cases h:k=r.1
   .subst h;simp[bF,kyA,xr,acV]
   .have h':¬r.1=k:=λe=>h e.symm
    simp only[abO,kyA,bF,xr,decide_eq_false h,acV,decide_eq_false h',abT,if_false];have a:=xt rs k (j+1);rw[a];cases rs.findIdx? (λr=>decide (r.1=k))with
    |none=>rfl
    |some n=>simp only[abQ];rw[show j+1+n=j+(n+1)by omega];rfl
theorem xq(nb bn:Int->Nat):∀(l:List aA) (id:Int) (j:Nat),bF (.int .i64 id) (l.map (eO nb bn)) j=some ((l.findIdx? λx=>decide (x.id=id)).map λn=>(j+n,.ptr (nb id) 0))
 |[],id,j=>rfl
 | x::l,id,j=>by
   by_cases h:id=x.id
   .subst h;simp[bF,eO,xr,acV]
   .have h':¬x.id=id:=λe=>h e.symm
    simp only[abO,eO,bF,xr,if_true,decide_eq_false h,acV,decide_eq_false h',abT,if_false];have a:=xq nb bn l id (j+1);rw[a];cases l.findIdx? (λx=>decide (x.id=id))with
    |none=>rfl
    |some n=>simp only[abQ];rw[show j+1+n=j+(n+1)by omega]
theorem iH{β:Type}{f:β->Bool}{l:List β}[Inhabited β]:(l.findIdx? f=none/\l.find? f=none)\/∃n,l.findIdx? f=some n/\n<l.length/\l.find? f=some (l.getD n default):=by
 induction l with
 |nil=>exact .inl ⟨rfl,rfl⟩
 | cons x l ih =>
   by_cases h:f x=true
   .exact .inr ⟨0,by simp[acV,h],aev,by simp[acE,h]⟩
   .rcases ih with⟨b,a⟩|⟨n,b,a,c⟩
    .exact .inl ⟨by simp[acV,h,b],by simp[acE,h,a]⟩
    .exact .inr ⟨n+1,by simp[acV,h,b],by simpa using a,by simp[acE,h,c]⟩
theorem aU.look{L:List Blk}{iv mn mi:Nat}{nb bn:Int->Nat}{ck ci:Nat}{rs:List TKy}{suf:List Rdn}{last:Int}{l:List aA}(h:aU L iv mn mi nb bn ck ci rs suf last l)(i:TOk suf last l){d:List Rdn}(hd:OkD d):
  (aO l d=0/\atE l d=none/\bF (.str (aN true d)) (rs.map kyA) 0=some none)\/∃j,bF (.str (aN true d)) (rs.map kyA) 0=some (some (j,.int .i64 (aO l d))):=by
 rw[xt];rcases iH (f:=λr:TKy=>decide (r.1=aN true d)) (l:=rs)with⟨m,g⟩|⟨n,m,u,g⟩;left;have a:atE l d=none:=xH.2 λ_ x c e=>by obtain⟨b,p⟩:=(h.mem (aN true x.nm) x.id).2 ⟨x,c,rfl,rfl⟩;have:=acG.1 g _ p;simp only[decide_eq_true_eq]at this;exact this ((mc (i.ok x c) hd).2 e)
 exact⟨i.find0.2 a,a,by rw[m];rfl⟩;right;refine⟨n,?_⟩;obtain⟨⟨k,id,b⟩,hr⟩:∃r,rs.getD n default=r:=⟨_,rfl⟩;have o:=acW g;have t:k=aN true d:=by have:=acX g;rw[hr]at this;simpa using this
 rw[hr]at o;obtain⟨x,c,q,s⟩:=(h.mem k id).1 ⟨b,o⟩;have:atE l d=some x:=i.at c hd ((mc hd (i.ok x c)).1 (by rw[<- t,q]));rw[m];simp only[abQ,hr,acS,aO,this,s]
theorem pW{d:List Rdn}{cap:Option Nat}(hd:dnB d){L:List Blk}{iv mn mi:Nat}{nb bn:Int->Nat}{ck ci:Nat}{rs:List TKy}{suf:List Rdn}{last:Int}{l:List aA}(t:TOk suf last l)(b:aU L iv mn mi nb bn ck ci rs suf last l){K:abx}(h:K (.int .i64 (aO l d)) L):
  abw 26 [.ptr iv 0,.sl (d.map aJ) d.length cap] L K:=by
 replace h:=hid h;obtain⟨⟨s,e⟩,a⟩:∃q,PJ d=q:=⟨_,rfl⟩;have kk1:Hid (Ctr Tryz.prog 61 [.sl (d.map aJ) d.length cap] (.tup [.str s,.int .i64 e])):=@hid _ (by intro L K q;exact J7 hd.1 hd.2 (by rw[a];exact q));have w:=b.v;have u:=b.i;by_cases r:e=0;subst r;have f:OkD d:=by by_cases c:OkD d;exact c;exact absurd (by rw[a]) (PI c)
 have k:s=aN true d:=by have:=pY f;rw[a]at this;injection this
 rcases b.look t f with⟨m,_,g⟩|⟨j,g⟩;rw[<- k]at g;rw[m]at h;have n:aT .str (.str s)=true:=rfl;clear a b k;refine abv bT ?_;exact ag h.o;rw[<- k]at g;have n:aT .str (.str s)=true:=rfl;obtain⟨z,p⟩:=abr (aO l d);rw[p]at h g;clear a b k p;refine abv bT ?_;exact ag h.o;have m:aO l d=0:=by refine t.find0.2 (xH.2 λc=>?_);have:=pY c;rw[a]at this;exact absurd (by injection this) r
 rw[m]at h;clear a b;refine abv bT ?_;exact ag h.o
theorem aU.node{L:List Blk}{iv mn mi:Nat}{nb bn:Int->Nat}{ck ci:Nat}{rs:List TKy}{suf:List Rdn}{last:Int}{l:List aA}(h:aU L iv mn mi nb bn ck ci rs suf last l)(id:Int):
  (zW l id=none/\bF (.int .i64 id) (l.map (eO nb bn)) 0=some none)\/∃x n,zW l id=some x/\x∈l/\x.id=id/\bF (.int .i64 id) (l.map (eO nb bn)) 0=some (some (n,.ptr (nb id) 0))/\L[nb id]?=some (.cells (kP l x)):=by
 rw[xq];unfold zW;rcases iH (f:=λx:aA=>decide (x.id=id)) (l:=l)with⟨a,d⟩|⟨n,a,d,b⟩;exact .inl ⟨d,by rw[a];rfl⟩;right;have c:=acW b;have e:(l.getD n default).id=id:=by have:=acX b;simpa using this
 refine⟨_,n,b,c,e,by rw[a];simp,?_⟩;have:=h.nd _ c;rwa[e]at this
theorem ZE{L:List Blk}{iv mn mi:Nat}{nb bn:Int->Nat}{ck ci:Nat}{rs:List TKy}{suf:List Rdn}{last:Int}{l:List aA}(a:aU L iv mn mi nb bn ck ci rs suf last l){K:abx}(h:K (.int .i64 (l.length:Nat)) L):
  abw 25 [.ptr iv 0] L K:=by
 have d:=a.v;have b:=a.n;have c:(l.map (eO nb bn)).length=l.length:=abM _;replace h:=hid h;clear a;refine abv Hn ?_;exact ag h.o
theorem ZC{L:List Blk}{iv mn mi:Nat}{nb bn:Int->Nat}{ck ci:Nat}{rs:List TKy}{suf:List Rdn}{last:Int}{l:List aA}(hd:dnB suf)(a:aU L iv mn mi nb bn ck ci rs suf last l){K:abx}(h:K (dnA suf) L):
  abw 33 [.ptr iv 0] L K:=by
 have b:=a.v;have kk2:Hid (∀{c:Option Nat}{L:List Blk}{K:abx},K (dnA suf) L->abw 50 [.sl (suf.map aJ) suf.length none,.sl [] 0 c] L K):=@hid _ (by intro c L K q;exact Ki hd.1 hd.2 q);replace h:=hid h;clear a hd;refine abv zX ?_;exact ag h.o
theorem Ta{d b:List Rdn}{cap a:Option Nat}(hd:dnB d)(e:dnB b){v:Nat}(h:K (.bool (J1 d b)) L):
  abw 36 [.ptr v 0,.sl (d.map aJ) d.length cap,.sl (b.map aJ) b.length a] L K:=by
 have kk1:Hid (Ctr Tryz.prog 77 [.sl (d.map aJ) d.length cap,.sl (b.map aJ) b.length a] (.bool (gr d b))):=@hid _ (by intro L K q;exact Td hd e q);unfold J1 at h;obtain⟨u,f⟩:=abr (gr d b);rw[f]at h kk1;by_cases c:d.length=b.length;have g:(d.length:Int)=(b.length:Int):=aeu;rw[decide_eq_true c,acU]at h;replace h:=hid h;clear f hd e c;refine abv pU ?_;exact ag h.o;have g:¬(d.length:Int)=(b.length:Int):=aeu;rw[decide_eq_false c,adA]at h;replace h:=hid h;clear f hd e c;refine abv pU ?_;exact ag h.o
theorem Pv{d:List Rdn}{cap:Option Nat}(hd:dnB d){L:List Blk}{K:abx}(h:¬OkD d->K (.tup [.nilptr,.int .i64 (prS d).2]) L)(i:d=[]->K (.tup [.nilptr,.int .i64 2]) L)(j:OkD d->d≠[]->K (.tup [.ptr (L.length+3) 0,.int .i64 0]) (L++[.map [] 0,.map [] 0,.cells [dnA d,.lmap L.length,.lmap (L.length+1),.int .i64 0],.cells [.ptr (L.length+2) 0]])):
  abw 21 [.sl (d.map aJ) d.length cap] L K:=by
 obtain⟨⟨s,e⟩,a⟩:∃q,prS d=q:=⟨_,rfl⟩;have kk1:Hid (Ctr Tryz.prog 35 [.sl (d.map aJ) d.length cap] (.tup [.str s,.int .i64 e])):=@hid _ (by intro L K q;exact xK hd.1 hd.2 (by rw[a];exact q));have kk2:Hid (∀{c:Option Nat}{L:List Blk}{K:abx},K (dnA d) L->abw 50 [.sl (d.map aJ) d.length cap,.sl [] 0 c] L K):=@hid _ (by intro c L K q;exact Ki hd.1 hd.2 q);have f:OkD d↔e=0:=by unfold OkD;rw[a]
 rw[a]at h;by_cases l:e=0;rotate_left;replace h:=hid (h λc=>l (f.1 c));clear a f i j hd;refine abv vh ?_;exact ag h.o;subst l;by_cases k:d.length=0;have b:=acm.1 k;replace h:=hid (i b);subst b;clear a f i j hd k;refine abv vh ?_;exact ag h.o;have g:¬(d.length:Int)=0:=aeu;replace h:=hid (j (f.2 rfl) λc=>k (by rw[c];rfl));clear a f i j hd;refine abv vh ?_;exact ag h.o
end Go.Proofs.YtajkbcmleihaoaaGreatDoor.Av
namespace Go.Proofs
open Go.Shelf
def Tryz.srtF_ren:Go.Shelf.Ren:=⟨λ|6=>72|15=>99|14=>98|28=>140|29=>141|20=>132|21=>133|22=>134|23=>135|24=>136|25=>137|26=>138|27=>139|46=>162|47=>163|48=>164|49=>165|50=>166|57=>186|n=>n,λ|22=>82|24=>3|25=>137|3=>3|39=>162|0=>0|53=>160|55=>58|4=>4|46=>211|45=>210|50=>215|5=>5|9=>9|66=>239|70=>243|76=>257|77=>258|n=>n,λ|n=>n⟩
theorem Tryz.srtF:Go.Proofs.SlLaysF.n6 Tryz.prog Tryz.srtF_ren:={
 mixed:=by kernel_rfl
 f6:=⟨Tryz.f72.name,by decide,Tryz.func72.trans (congrArg some (by kernel_rfl))⟩
 f14:=⟨Tryz.f98.name,by decide,Tryz.func98.trans (congrArg some (by kernel_rfl))⟩
 f15:=Tryz.func99.trans (congrArg some (by kernel_rfl))
 f20:=⟨Tryz.f132.name,by decide,Tryz.func132.trans (congrArg some (by kernel_rfl))⟩
 f21:=⟨Tryz.f133.name,by decide,Tryz.func133.trans (congrArg some (by kernel_rfl))⟩
 f22:=⟨Tryz.f134.name,by decide,Tryz.func134.trans (congrArg some (by kernel_rfl))⟩
 f23:=⟨Tryz.f135.name,by decide,Tryz.func135.trans (congrArg some (by kernel_rfl))⟩
 f24:=⟨Tryz.f136.name,by decide,Tryz.func136.trans (congrArg some (by kernel_rfl))⟩
 f25:=⟨Tryz.f137.name,by decide,Tryz.func137.trans (congrArg some (by kernel_rfl))⟩
 f26:=⟨Tryz.f138.name,by decide,Tryz.func138.trans (congrArg some (by kernel_rfl))⟩
 f27:=⟨Tryz.f139.name,by decide,Tryz.func139.trans (congrArg some (by kernel_rfl))⟩
 f28:=Tryz.func140.trans (congrArg some (by kernel_rfl))
 f29:=Tryz.func141.trans (congrArg some (by kernel_rfl))
 f46:=⟨Tryz.f162.name,by decide,Tryz.func162.trans (congrArg some (by kernel_rfl))⟩
 f47:=Tryz.func163.trans (congrArg some (by kernel_rfl))
 f48:=Tryz.func164.trans (congrArg some (by kernel_rfl))
 f49:=⟨Tryz.f165.name,by decide,Tryz.func165.trans (congrArg some (by kernel_rfl))⟩
 f50:=⟨Tryz.f166.name,by decide,Tryz.func166.trans (congrArg some (by kernel_rfl))⟩
 f57:=⟨Tryz.f186.name,by decide,Tryz.func186.trans (congrArg some (by kernel_rfl))⟩
 t0:=Tryz.underlying0
 a0:=Tryz.isAgg0
 z0:=Tryz.sizeOf0
 v0:=Tryz.zeroValue0
 t3:=Tryz.underlying3
 a3:=Tryz.isAgg3
 z3:=Tryz.sizeOf3
 v3:=Tryz.zeroValue3
 t4:=Tryz.underlying4
 a4:=Tryz.isAgg4
 z4:=Tryz.sizeOf4
 v4:=Tryz.zeroValue4
 t5:=Tryz.underlying5
 a5:=Tryz.isAgg5
 z5:=Tryz.sizeOf5
 v5:=Tryz.zeroValue5
 t9:=Tryz.underlying9
 a9:=Tryz.isAgg9
 z9:=Tryz.sizeOf9
 v9:=Tryz.zeroValue9
 t22:=Tryz.underlying82
 a22:=Tryz.isAgg82
 z22:=Tryz.sizeOf82
 v22:=Tryz.zeroValue82
 a24:=Tryz.isAgg3
 z24:=Tryz.sizeOf3
 t25:=Tryz.underlying137
 a25:=Tryz.isAgg137
 z25:=Tryz.sizeOf137
 v25:=Tryz.zeroValue137
 t39:=Tryz.underlying162
 a39:=Tryz.isAgg162
 z39:=Tryz.sizeOf162
 v39:=Tryz.zeroValue162
 t45:=Tryz.underlying210
 a45:=Tryz.isAgg210
 z45:=Tryz.sizeOf210
 v45:=Tryz.zeroValue210
 t46:=Tryz.underlying211
 a46:=Tryz.isAgg211
 z46:=Tryz.sizeOf211
 v46:=Tryz.zeroValue211
 t50:=Tryz.underlying215
 a50:=Tryz.isAgg215
 z50:=Tryz.sizeOf215
 v50:=Tryz.zeroValue215
 t53:=Tryz.underlying160
 a53:=Tryz.isAgg160
 z53:=Tryz.sizeOf160
 v53:=Tryz.zeroValue160
 t55:=Tryz.underlying58
 a55:=Tryz.isAgg58
 z55:=Tryz.sizeOf58
 v55:=Tryz.zeroValue58
 t66:=Tryz.underlying239
 a66:=Tryz.isAgg239
 z66:=Tryz.sizeOf239
 v66:=Tryz.zeroValue239
 t70:=Tryz.underlying243
 a70:=Tryz.isAgg243
 z70:=Tryz.sizeOf243
 v70:=Tryz.zeroValue243
 t76:=Tryz.underlying257
 a76:=Tryz.isAgg257
 z76:=Tryz.sizeOf257
 v76:=Tryz.zeroValue257
 t77:=Tryz.underlying258
 a77:=Tryz.isAgg258
 z77:=Tryz.sizeOf258
 v77:=Tryz.zeroValue258}
end Go.Proofs
namespace Go.Proofs
open Go Go.Lib Go.RowKit Go.Proofs.YtajkbcmleihaoaaGreatDoor.Av
set_option maxHeartbeats 2000000
set_option maxRecDepth 100000
theorem Tryz.isnan_c(a:ByteArray)(w:World):Calls Tryz.prog 142 #[.string a] w λe w'=>e=.returned (.bool false)/\w'=w:=by
 go_enter Tryz.func142,Tryz.ntmps142
 go_wp2
 go_ret
 exact⟨aev,rfl⟩
theorem Tryz.cmps_c(a b:ByteArray)(w:World):Calls Tryz.prog 100 #[.string a,.string b] w λe w'=>e=.returned (.int .i64 (if Op.bytesLess a.toList b.toList then -1 else if Op.bytesLess b.toList a.toList then 1 else 0))/\w'=w:=by
 have h1:=λs W=>Tryz.isnan_c s W
 obtain⟨p,hp⟩:=abr (Op.bytesLess a.toList b.toList);obtain⟨q,hq⟩:=abr (Op.bytesLess b.toList a.toList);rw[hp,hq];have ht:p=false->q=false->a.toList=b.toList:=λe1 e2=>by rw[e1,bytesLess_eq,decide_eq_false_iff_not]at hp;rw[e2,bytesLess_eq,decide_eq_false_iff_not]at hq;exact aad hp hq
 cases p<;>cases q
 all_goals
  go_enter Tryz.func100,Tryz.ntmps100
  go_wp2_with (go_at_call 142;refine(h1 _ _).mono ?_;rintro e w' ⟨rfl,rfl⟩)
 all_goals (go_ret;first|exact⟨rfl,rfl⟩|(exfalso;simp_all;done))
theorem Tryz.cmpn_c(x:List (List UInt8))(y:List (List UInt8))(b1 o1 c b2 o2 d:Nat)(w:World)(hb1:x.length<=1100000)(hb2:y.length<=1100000)(hc1:∀j,j<x.length->w.cell? ⟨b1,o1+j,none⟩=some (.string ⟨⟨x.getD j []⟩⟩))(hc2:∀j,j<y.length->w.cell? ⟨b2,o2+j,none⟩=some (.string ⟨⟨y.getD j []⟩⟩)):
  Calls Tryz.prog 74 #[.slice (some ⟨b1,o1,none⟩) x.length c,.slice (some ⟨b2,o2,none⟩) y.length d] w λe w'=>e=.returned (.int .i64 (cpP x y))/\w'=w:=by
 have h1:=λa b W=>Tryz.cmps_c a b W
 go_enter Tryz.func74,Tryz.ntmps74
 go_wp2
 go_loopg [11] x.length (λg s11 wr=>∃k:Nat,k<=x.length/\k<=y.length/\x.length-k<=g/\s11=.int .i64 k/\wr=w/\cpP (x.drop k) (y.drop k)=cpP x y)
 case atStart=>exact⟨0,abJ _,abJ _,aeu,rfl,rfl,rfl⟩
 case round =>
  obtain⟨k,hk,hky,hg,rfl,rfl,heq⟩:=hrel;by_cases hlt:k<x.length
  .have d1:x.drop k=x.getD k []::x.drop (k+1):=(by rw[acA hlt];simp[hlt]);have g1:=hc1 k hlt;rw[d1]at heq;obtain⟨s,hs⟩:=abr (x.getD k []);rw[hs]at g1 heq;by_cases hly:k<y.length
   .have d2:y.drop k=y.getD k []::y.drop (k+1):=(by rw[acA hly];simp[hly]);have g2:=hc2 k hly;rw[d2]at heq;obtain⟨t,ht⟩:=abr (y.getD k []);rw[ht]at g2 heq;have hcon:=h1 ⟨⟨s⟩⟩ ⟨⟨t⟩⟩ wr;rw[cpP]at heq;obtain⟨z,hz⟩:=abr (cpS s t);rw[show(if Op.bytesLess (ByteArray.mk ⟨s⟩).toList (ByteArray.mk ⟨t⟩).toList then(-1:Int)else if Op.bytesLess (ByteArray.mk ⟨t⟩).toList (ByteArray.mk ⟨s⟩).toList then 1 else 0)=z from by rw[adX,adX,<- hz,bytesLess_eq,bytesLess_eq];simp[cpS]]at hcon;rw[hz]at heq;have A:Aside (cpP x y=if z≠0 then z else cpP (x.drop (k+1)) (y.drop (k+1))):=heq.symm;clear heq hc1 hc2 d1 d2 hs ht hz h1;by_cases hz0:z=0
    .subst hz0
     go_wp2_with (go_at_call 100;refine hcon.mono ?_;rintro e w' ⟨rfl,rfl⟩)
     go_roundg (x.length-(k+1))
     case measure=>omega
     case rel=>exact⟨k+1,aeu,aeu,aeu,by go_num,rfl,by have:=A.out;simp only[ne_eq,not_true_eq_false,if_false]at this;exact this.symm⟩
    .go_wp2_with (go_at_call 100;refine hcon.mono ?_;rintro e w' ⟨rfl,rfl⟩)
     all_goals go_ret
     have:=A.out;rw[if_pos hz0]at this;exact⟨by rw[this];rfl,rfl⟩
   .have A:Aside (cpP x y=1):=by show cpP x y=1;rw[ac6 (l:=y) aeu,cpP]at heq;exact heq.symm
    clear heq hc1 hc2 d1 hs h1
    go_wp2
    go_ret
    exact⟨by rw[A.out];rfl,rfl⟩
  .have hkx:k=x.length:=aeu;have A:Aside (cpP x y=if x.length<y.length then -1 else 0):=by
    show cpP x y=if x.length<y.length then -1 else 0
    rw[ac6 (l:=x) aeu]at heq;by_cases hly:k<y.length;rw[acA hly,cpP]at heq;rw[if_pos aeu];exact heq.symm;rw[ac6 (l:=y) aeu,cpP]at heq;rw[if_neg aeu];exact heq.symm
   subst hkx;clear heq hc1 hc2 h1;by_cases hl:x.length<y.length
   .go_wp2
    all_goals (go_ret;first|exact⟨by rw[A.out,if_pos hl];rfl,rfl⟩|(exfalso;omega))
   .go_wp2
    all_goals (go_ret;first|exact⟨by rw[A.out,if_neg hl];rfl,rfl⟩|(exfalso;omega))
theorem Tryz.scp_c(x y:List (List UInt8))(a b:Int)(bb bo vb vo mb na oa pa qa ca nb ob pb qb cb:Nat)(W:World)(hb1:x.length<=1100000)(hb2:y.length<=1100000)(e1:W.cell? ⟨bb,bo,none⟩=some (.pointer (some ⟨vb,vo,none⟩)))(e2:W.cell? ⟨vb,vo+1,none⟩=some (.map (some mb)))(e3:∀n,(Instr.lookup 90 (.map (some mb)) (.int .i64 a) false).run Tryz.prog (W.drewN n)=.ok (.pointer (some ⟨na,oa,none⟩)) (W.drewN n))(e4:∀n,(Instr.lookup 90 (.map (some mb)) (.int .i64 b) false).run Tryz.prog (W.drewN n)=.ok (.pointer (some ⟨nb,ob,none⟩)) (W.drewN n))(e5:W.cell? ⟨na,oa+1,none⟩=some (.slice (some ⟨pa,qa,none⟩) x.length ca))(e6:W.cell? ⟨nb,ob+1,none⟩=some (.slice (some ⟨pb,qb,none⟩) y.length cb))(hc1:∀j,j<x.length->W.cell? ⟨pa,qa+j,none⟩=some (.string ⟨⟨x.getD j []⟩⟩))(hc2:∀j,j<y.length->W.cell? ⟨pb,qb+j,none⟩=some (.string ⟨⟨y.getD j []⟩⟩)):
  Calls Tryz.prog 73 #[.int .i64 a,.int .i64 b,.pointer (some ⟨bb,bo,none⟩)] W λe w'=>e=.returned (.int .i64 (cpP x y))/\∃q,w'=W.drewN q:=by
 have hcon:=λn=>Tryz.cmpn_c x y pa qa ca pb qb cb (W.drewN n) hb1 hb2 hc1 hc2
 generalize cpP x y=r at hcon⊢;clear hc1 hc2
 go_enter Tryz.func73,Tryz.ntmps73
 go_wp2
 go_quiet (exact Calls.quiet_of_same (hcon _))
 go_wp2
 go_ret
 exact⟨rfl,_,rfl⟩
end Go.Proofs
namespace Go.Proofs
open Go.Shelf Go.Sort Go.RowKit
theorem Tryz.sortF{α:Type}[Inhabited α](enc:α->Value)(k:OneCell enc)(a:α->α->Int)(h:SWO (ltOf a))(g:Nat)(cb:Array Value)(blk off cap:Nat)(d:Array α)(w:World)(i:∀args w,(callFunc g args).run Tryz.prog w=.ok (.enter g args) w)(b:CmpLays1 Tryz.prog g cb enc a blk off d.size w)(l:Holds enc w blk off d)(c:blk<w.heap.size)(f:d.size<4611686018427387904)(j:∀x y,(ltOf a) x y=false->(ltOf a) y x=false->x=y):
  Calls Tryz.prog 72 #[.slice (some ⟨blk,off,none⟩) d.size cap,.func (.func g) #[] cb] w λe w' =>
   e=.returned (.tuple #[])/\∃n os,w'=sortWorld enc w blk off n (d.toList.mergeSort λx y => !(ltOf a) y x).toArray os :=
 Any.slices_SortFunc_total Tryz.srtF enc k a h g cb blk off cap d w i b l c f j
theorem Tryz.sortF0(p:Option Addr)(cap:Nat)(a:Value)(w:World):
  Calls Tryz.prog 72 #[.slice p 0 cap,a] w λe w'=>e=.returned (.tuple #[])/\w'=w :=
 AnyF.slices_SortFunc_none {Tryz.srtF with} p cap a w
end Go.Proofs
namespace Go.Proofs.YtajkbcmleihaoaaGreatDoor.Av
open Go Go.Sort Go.RowKit
variable {L:List Blk}{K:abx}
set_option maxHeartbeats 8000000
set_option maxRecDepth 100000
theorem Rel.putG{α:Type}[Inhabited α]{enc:α->Value}{f:α->AV}{w0:World}{S0:SB}{E:Env}{L:List Blk}{w:World}(h:Rel w0 S0 E L w)(z:∀x,VR E (f x) (enc x)){i:Nat}{l:List AV}{d:List α}{c:Loc}(n:L[i]?=some (.cells l))(g:E.loc i=some c)(hd:d.length=l.length)(q:Nat):
  Rel w0 S0 E (L.set i (.cells (d.map f))) (putRow enc (Sort.ahead w q) c.blk c.off d.toArray):=by
 obtain⟨c',cs,ty,fr,m,o,t,h4,u,p⟩:=h.blk i _ n;rw[g]at m;cases m;have s:(putRow enc (Sort.ahead w q) c.blk c.off d.toArray).heap[c.blk]?=some (.cells (putCells enc c.off d.toArray cs) ty fr):=by simp[putRow,mapBlock,Sort.ahead,adf,o,onCells]
 refine h.turn (k':=.cells (d.map f)) n rfl g aev (λb r=>?_) rfl rfl rfl ⟨c,_,ty,fr,g,s,by simp[putCells,t],?_,λj a v=>?_,p⟩ (λ_ _ e=>by cases e);have:c.blk≠b:=λe=>r e.symm
 simp[putRow,mapBlock,Sort.ahead,adf,this];simp[*];have A:j<d.length:=by grind
 have k:c.off+j<cs.size:=aeu;have y:(putCells enc c.off d.toArray cs)[c.off+j]?=some (if c.off<=c.off+j/\c.off+j<c.off+d.length then enc (d.toArray[c.off+j-c.off]!)else cs[c.off+j]):=by simp[putCells,k]
 grind
theorem R2{α:Type}[Inhabited α]{enc:α->Value}{f:α->AV}{w0:World}{S0:SB}{E:Env}{L:List Blk}{w:World}(h:Rel w0 S0 E L w)(o:∀x v,VR E (f x) v->v=enc x){i:Nat}{d:List α}{c:Loc}(m:L[i]?=some (.cells (d.map f)))(k:E.loc i=some c):
  Holds enc w c.blk c.off d.toArray/\c.blk<w.heap.size:=by
 obtain⟨c',cs,ty,fr,g,e,r,h4,n,p⟩:=h.blk i _ m;rw[k]at g;cases g;refine⟨λj l=>?_,(acl.1 e).1⟩;have a:j<d.length:=by simpa using l
 obtain⟨v,g1,b⟩:=n j (f d[j]) (by simp[a]);have b:=o _ _ b;subst b;refine⟨by simp[World.cell?,e,g1,a],?_⟩;have q:=p (c.off+j) aeu (by simp only[abM]at h4;omega);simp only[World.frozen?,e];simp_all
theorem X0{α:Type}[Inhabited α]{enc:α->Value}{w:World}{blk off n:Nat}{d:Array α}{os:Array Obj}{b:Nat}(c:b≠blk)(a:b<w.heap.size):(sortWorld enc w blk off n d os).heap[b]?=w.heap[b]?:=by
 have:blk≠b:=λe=>c e.symm
 unfold sortWorld grow;rw[ad1 (by simpa[putRow,mapBlock,Sort.ahead]using a)];simp[putRow,mapBlock,Sort.ahead,adf,this]
theorem iJ{w w':World}{b o:Nat}(h:w'.heap[b]?=w.heap[b]?):w'.cell? ⟨b,o,none⟩=w.cell? ⟨b,o,none⟩:=by simp only[World.cell?,h]
theorem Rel.at{w0:World}{S0:SB}{E:Env}{L:List Blk}{w:World}(h:Rel w0 S0 E L w){i j:Nat}{l:List AV}{a:AV}(g:L[i]?=some (.cells l))(e:l[j]?=some a):∃c v,E.loc i=some c/\w.cell? ⟨c.blk,c.off+j,none⟩=some v/\VR E a v/\c.blk<w.heap.size:=by obtain⟨c,cs,ty,fr,f,b,m,h4,k,n⟩:=h.blk i _ g;obtain⟨v,g1,d⟩:=k j a e;exact⟨c,v,f,by simp[World.cell?,b,g1],d,(acl.1 b).1⟩
theorem Qj{E:Env}:∀(p:Pth) (b o:Nat),VRC E (ax p) b o->∀j,j<p.length->E.mem b (o+j)=some (.string ⟨⟨p.getD j []⟩⟩)
 |[],_,_,_,j,hj=>absurd hj (Nat.not_lt_zero _)
 | s::p,b,o,h,j,hj=>by
   obtain⟨⟨x,c,rfl⟩,a⟩:=h;cases j with
   |zero=>simpa using c
   | succ j =>
     have:=Qj p b (o+1) a j (by simpa using hj)
     grind
section
variable {suf:List Rdn}{last:Int}{l:List aA}{w0:World}{S0:SB}{E:Env}{L:List Blk}{w:World}{iv mn mi:Nat}{nb bn:Int->Nat}{ck ci:Nat}{rs:List TKy}
theorem aU.path(g:Rel w0 S0 E L w)(f:aU L iv mn mi nb bn ck ci rs suf last l){x:aA}(n:x∈l)(e:x.nm≠[]):
  ∃c d a ca,E.loc (nb x.id)=some c/\c.blk<w.heap.size/\w.cell? ⟨c.blk,c.off+1,none⟩=some (.slice (some ⟨d,a,none⟩) (pth x).length ca)/\∀j,j<(pth x).length->E.mem d (a+j)=some (.string ⟨⟨(pth x).getD j []⟩⟩):=by
 obtain⟨c,v,h,i,r,h4⟩:=g.at (f.nd x n) (j:=1) rfl;obtain⟨p,c',rfl,_,_,m⟩:=r;have q:(pth x).length=x.nm.length:=by simp[pth,bu]
 rcases m with⟨s,_⟩|⟨b,o,rfl,k⟩;simp_all;exact⟨c,b,o,c',h,h4,by rw[q];exact i,Qj _ _ _ k⟩
theorem aU.lookup(A:Rel w0 S0 E L w)(m:aU L iv mn mi nb bn ck ci rs suf last l){a:Loc}(f:E.loc mn=some a){x:aA}(B:TOk suf last l)(F:x∈l){c:Loc}(k:E.loc (nb x.id)=some c)(W:World)(v:W.heap[a.blk]?=w.heap[a.blk]?):
  (Instr.lookup 90 (.map (some a.blk)) (.int .i64 x.id) false).run Tryz.prog W=.ok (.pointer (some ⟨c.blk,c.off,none⟩)) W:=by
 obtain⟨c',h,s,u,G⟩:=A.blk mn _ m.n;rw[f]at s;cases s;have hd:Tryz.prog.underlying 90=some (.map 3 96):=aew;have d:fu Tryz.prog 3=some .int:=aew;have r:aT .int (.int .i64 x.id)=true:=rfl;have p:VR E (.int .i64 x.id) (.int .i64 x.id):=by simp[VR]
 have i:∀e,(Instr.checkKey e 10000 3 (.int .i64 x.id)).run Tryz.prog W=.ok () W:=λe=>lS d r p e
 have t:(getObj a.blk).run Tryz.prog W=.ok (.map h ck) W:=by simp[getObj,Sem.run,v,u]
 rcases m.node x.id with⟨j,_⟩|⟨y,n,j,I,D,z,_⟩;rw[B.ent F]at j;cases j;obtain⟨e,q,b,g,H,g3,g4,_⟩:=xx d r p G z W;obtain⟨J,o,C⟩:=g4;rw[k]at o;cases o;simp[Instr.lookup,run_underlying hd,t,i,g,C]
end
abbrev nj(m:List aA):List AV:=m.map λx=>.int .i64 x.id
abbrev InL(l:List aA):={x:aA // x∈l}
theorem X3{suf:List Rdn}{last:Int}{l:List aA}(I:TOk suf last l){m:List aA}(hm:∀x∈m,x∈l)(S:m≠[])(hn:m.length<=1100000){L:List Blk}{iv mn mi:Nat}{nb bn:Int->Nat}{ck ci:Nat}{rs:List TKy}(z:aU L iv mn mi nb bn ck ci rs suf last l){i bx:Nat}{cp:Option Nat}(D:L[i]?=some (.cells (nj m)))(M:L[bx]?=some (.cells [.ptr iv 0])){K:abx}(h:K (.tup []) (L.set i (.cells (nj (m.mergeSort leE))))):
  abw 72 [.lsl i 0 m.length cp 1,.func 73 [.ptr bx 0]] L K:=λw0 S0 E w vs p U=>by
 simp only[VRL,VR]at U;obtain⟨_,_,rfl,⟨c,rc,d,u,rfl,hd,a9,_,_⟩,_,_,rfl,⟨_,rfl,_,_,rfl,⟨cb,T,rfl⟩,rfl⟩,rfl⟩:=U;have N:0<m.length:=acr.2 S;have al:d=c.off:=by have:=hd aeu;omega
 subst al;obtain⟨x0,av⟩:=List.exists_mem_of_ne_nil _ S;have P:∀x∈l,x.nm≠[]:=λx H e=>I.inv.ne (fI H) (by rw[e];rfl)
 haveI:Inhabited (InL l):=⟨⟨x0,hm x0 av⟩⟩
 obtain⟨o,rfl⟩:∃o:List (InL l),m=o.map (·.1):=⟨m.attach.map λx=>⟨x.1,hm x.1 x.2⟩,aev⟩;obtain⟨f,Z⟩:∃f:(InL l)->AV,f=λx=>.int .i64 x.1.id:=⟨_,rfl⟩
 obtain⟨enc,g⟩:∃enc:(InL l)->Value,enc=λx=>.int .i64 x.1.id:=⟨_,rfl⟩
 have e1:∀s:List (InL l),nj (s.map (·.1))=s.map f:=λs=>by rw[Z];exact abW
 rw[e1]at D;have ab:∀x v,VR E (f x) v->v=enc x:=λx v U=>by rw[Z]at U;rw[g];simpa[VR]using U
 have a0:∀x,VR E (f x) (enc x):=λx=>by rw[Z,g];simp[VR]
 obtain⟨hH,ad⟩:=R2 p ab D u;obtain⟨c1,v1,h1,b1,b2,b3⟩:=p.at M (j:=0) rfl;rw[T]at h1;cases h1;simp only[VR]at b2;obtain⟨c2,O,rfl⟩:=b2;obtain⟨a8,v2,X,d1,d2,d3⟩:=p.at z.v (j:=1) rfl;rw[O]at X;cases X;simp only[VR]at d2;obtain⟨c3,t,rfl⟩:=d2;have V:c3.blk<w.heap.size:=by obtain⟨c',a7,g1,g2,_⟩:=p.blk mn _ z.n;rw[t]at g1;cases g1;exact(acl.1 g2).1
 obtain⟨y0,ys,a6⟩:∃y ys,o=y::ys:=by
  cases o with
  |nil=>simp at N
  |cons y ys=>exact⟨y,ys,rfl⟩
 have ap:∀(j:Nat) (k:Blk) (c':Loc),L[j]?=some k->k.live=true->E.loc j=some c'->k≠.cells (o.map f)->c'.blk≠c.blk:=λj k c' C hl ai hk e=>by have:=p.inj j i k _ c' c C hl D rfl ai u e;subst this;rw[C]at D;exact hk (Option.some.inj D)
 have F:∀a W,(∀n,a≠.int .i64 n)->Blk.cells (a::W)≠.cells (o.map f):=λa W ha e=>by rw[a6,Z]at e;simp only[abO,Blk.cells.injEq,ad7]at e;exact ha _ e.1
 have a1:=ap bx _ cb M rfl T (F _ _ aev);have a2:=ap iv _ c2 z.v rfl O (F _ _ (by intro n;simp[dnA]));have a3:=ap mn _ c3 z.n rfl t aev;have J:=(p.own i _ c D rfl u).1;have r:∀x∈l,∃B G Y ca,E.loc (nb x.id)=some B/\B.blk<w.heap.size/\B.blk≠c.blk/\G<w.heap.size/\G≠c.blk/\w.cell? ⟨B.blk,B.off+1,none⟩=some (.slice (some ⟨G,Y,none⟩) (pth x).length ca)/\∀j,j<(pth x).length->w.cell? ⟨G,Y+j,none⟩=some (.string ⟨⟨(pth x).getD j []⟩⟩):=λx H=>by
  obtain⟨B,G,Y,ca,g1,g2,g3,g4⟩:=z.path p H (P x H);have a5:0<(pth x).length:=by have:=acr.2 (P x H);simp only[pth,acL,bu];exact this
  have g5:=g4 0 a5;exact⟨B,G,Y,ca,g1,g2,ap (nb x.id) _ B (z.nd x H) rfl g1 (F _ _ (by intro n;simp[dnA])),p.mem_lt g5,(λe=>by rw[e,J]at g5;cases g5),g3,λj C=>p.mem _ _ _ (g4 j C)⟩
 have R:CmpLays1 Tryz.prog 73 #[.pointer (some ⟨cb.blk,cb.off+0,none⟩)] enc (λx y=>cpP (pth x.1) (pth y.1)) c.blk c.off o.toArray.size w:=λn os dk hs x y=>by
  obtain⟨cx,px,qx,kx,x1,x2,x3,x4,x5,x6,x7⟩:=r x.1 x.2;obtain⟨cy,py,qy,ky,y1,y2,y3,y4,y5,y6,y7⟩:=r y.1 y.2;have a4:(pth x.1).length<=1100000:=(by have:=(I.ok x.1 x.2).len;simp only[pth,acL,bu];omega);have an:(pth y.1).length<=1100000:=(by have:=(I.ok y.1 y.2).len;simp only[pth,acL,bu];omega);have A:∀b,b≠c.blk->b<w.heap.size->(sortWorld enc w c.blk c.off n dk os).heap[b]?=w.heap[b]?:=λb hb hl=>X0 hb hl
  have:=Tryz.scp_c (pth x.1) (pth y.1) x.1.id y.1.id cb.blk (cb.off+0) c2.blk (c2.off+0) c3.blk cx.blk cx.off px qx kx cy.blk cy.off py qy ky (sortWorld enc w c.blk c.off n dk os) a4 an
   (by rw[iJ (A _ a1 b3)];exact b1) (by rw[iJ (A _ a2 d3)];exact d1)
   (λq=>z.lookup p t I x.2 x1 _ (A _ a3 V)) (λq=>z.lookup p t I y.2 y1 _ (A _ a3 V))
   (by rw[iJ (A _ x3 x2)];exact x6) (by rw[iJ (A _ y3 y2)];exact y6)
   (λj C=>by rw[iJ (A _ x5 x4)];exact x7 j C) (λj C=>by rw[iJ (A _ y5 y4)];exact y7 j C)
  rw[g]at this⊢;exact this.mono λe w' ⟨k1,q,k2⟩=>⟨k1,q,#[],by rw[k2,grow_empty]⟩
 have hO:SWO (ltOf (λx y:(InL l)=>cpP (pth x.1) (pth y.1))):=Yi (λx:(InL l)=>pth x.1);have Q:=Tryz.sortF enc (λx=>by rw[g];rfl) (λx y=>cpP (pth x.1) (pth y.1)) hO 73 #[.pointer (some ⟨cb.blk,cb.off+0,none⟩)] c.blk c.off rc o.toArray w (enters_of Tryz.func73 aew rfl) R hH ad (by simp only[abM]at hn;simp only[List.size_toArray];omega) (λx y h1 X=>by have:=PG (a:=pth x.1) (b:=pth y.1) h1 X;exact Subtype.ext (I.byN x.2 y.2 (PA this)))
 rw[abM]at *;refine .inl ⟨ju Tryz.func72 rfl aew _ _,Q.mono ?_⟩;rintro e w' ⟨rfl,q,os,rfl⟩;have hp:(o.mergeSort λx y => !(ltOf (λx y:(InL l)=>cpP (pth x.1) (pth y.1))) y x).length=(o.map f).length:=by rw[ael,abM]
 have r1:=p.putG a0 D u hp q;have e3:nj ((o.map (·.1)).mergeSort leE)=(o.mergeSort λx y => !(ltOf (λx y:(InL l)=>cpP (pth x.1) (pth y.1))) y x).map f:=by rw[<- e1];congr 1;refine(List.map_mergeSort λa _ b _=>?_).symm;rfl
 rw[e3]at h;refine⟨E,_,_,_,rfl,.refl E,h,by simp[VR,VRL],r1.grown ?_⟩;exact⟨λb hb=>ad1 hb,by simp[sortWorld,grow,putRow,mapBlock,Sort.ahead],rfl,rfl,rfl⟩
theorem VM{cap:Option Nat}{a:AV}(h:K (.tup []) L):abw 72 [.sl [] 0 cap,a] L K :=
 iE Tryz.func72 rfl aew (λw0 S0 E w vs g f=>by obtain⟨_,_,rfl,⟨p,c,rfl,_⟩,x,_,rfl,_,rfl⟩:=f;exact(Tryz.sortF0 p c x w).mono λe w' ⟨b,d⟩=>⟨_,b,by simp[VR,VRL],by subst d;exact Ol.refl _⟩) h
end Go.Proofs.YtajkbcmleihaoaaGreatDoor.Av
set_option maxRecDepth 100000
namespace Go.Proofs.YtajkbcmleihaoaaGreatDoor.Av
open Go
variable {d:List Rdn}{cap:Option Nat}{id:Int}{seen:List Nat}{ps:List aA}{rows:List AV}{i j n:Nat}{p:Pth}
def eC:LSO:=[Ao 2]
def eB:LSO:=[Aa 3 0,o1 4 (.slnil false (tm 3))]
def eA:LSO:=[Ao 2]
def ez:LSO:=[o1 5 (.bslice false 1 0 [] []),Aa 6 0,BR 7 5 6,Aa 2 7]
def ba:aI:=⟨8,(aen eC [] (.seq (aen eB BU (aep 4 (.sreg eA []))) (aen ez BW .ret))),[(.tmp 2)]⟩
attribute [push_cast] eC eB eA ez
theorem ek:aM Tryz.prog (λr i=>if r=3/\i=2 then 2 else 1) 93=some ba.raw:=aew
attribute [push_cast] ba
variable {L:List Blk}{K:abx}
set_option maxHeartbeats 8000000
set_option maxRecDepth 100000
theorem TH{e z:List Rdn}{f:Option Nat}{ne nd:Nat}(t:e++d=z)(D:ne=e.length)(s:nd=d.length)(x:z.length<=1100000)(hr:∀r∈z,r.length<=1100000)(h:K (dnA z) L):
  abw 50 [.sl (d.map aJ) nd cap,.sl (e.map aJ) ne f] L K:=by
 subst D s;replace h:=hid h;have u:=hid (λk=>@G9 z k);replace hr:=hid hr;have kk1:Hid (Ctr Tryz.prog 80 [.sl [.sl (e.map aJ) e.length f,.sl (d.map aJ) d.length cap] 2 (some 2)] (.sl (z.map aJ) z.length none)):=@hid _ (by
  intro L K q;refine dQ ?_;simp only[AV.frzL,AV.frz,cF];have:=@Pl [e.map aJ,d.map aJ] none aev (by simp only[ad9,aea,ab1,<- abS,t,abM];exact x) (λl w=>by rw[abL];intro a B;simp only[abY,acF,or_false]at w;rcases w with rfl|rfl<;>(obtain⟨r,_,rfl⟩:=abB.1 B;rfl)) (λp=>by simp only[ad9,aea,ab1,<- abS];exact fV p _) L K
  simp only[ad9,aea,ab1,<- abS,t,abO,acw,abM,ack,abU,Ou]at this;exact this q)
 clear t;refine abv JP ?_;refine cB (l:=[]) (n:=0) 5 1 rfl (acg 1).symm ?_;refine ar (λm T' L'=>∃(k:Nat) (C:List AV) (X:List Blk),m=z.length-k/\k<=z.length/\Hid (C=(z.take k).map aJ)/\T'=[(13,.int .i64 (k:Int)),(12,.int .i64 z.length),(11,.sl (z.map aJ) z.length none),(5,.gsl C k L.length 1)]/\L'=L++(.spare k 1::X)) aey ⟨0,[],[],rfl,abJ _,hid rfl,rfl,aev⟩ ?_;rintro _ _ _ ⟨k,C,X,rfl,H,j,rfl,rfl⟩;by_cases b:k<z.length;have g1:(k:Int)<(z.length:Int):=aeu;have G:=abu k aeu;have y:=u.o k b;have E:k<(z.map aJ).length:=by simpa using b
 obtain⟨r,c⟩:=abr (z.getD k []);have A:=hr.o r (by rw[<- c];simp[b]);have g:(z.take (k+1)).map aJ=C++[.sl (bU r) r.length none]:=by rw[j.o,ab6 b,abS,show z[k]=r by rw[<- c];simp[b]];rfl
 rw[c]at y;have F:=xC r;have I:=l8 r;replace g:=hid g;clear c j;refine wk ?_;exact aez aeu aex ⟨k+1,_,_,rfl,b,hid g.o.symm,rfl,rfl⟩;have v:k=z.length:=aeu;subst v;have g1:¬(z.length:Int)<(z.length:Int):=aeu;have i:=j.o;rw[abX]at i;subst i;clear j;refine wk ?_;refine aB ?_;simp only[AV.frz,cF];exact ae (by simp only[AV.refs,fV]) h.o
theorem Xd{xs:List (List UInt8)}(e:xs.length<=1100000)(h:K (.sl (xs.map AV.str) xs.length none) L):
  abw 93 [.sl (xs.map AV.str) xs.length cap] L K:=by
 replace h:=hid h;by_cases b:xs=[]
 .subst b;refine aa ek (by simp[ba]) ?_;simp only[ba,am]
  repeat' first
   |refine kY ?_
   | (first|refine jz aew ?_|refine fM aew ?_|refine fP ?_|refine zT ?_|refine nD (fun _=>?_)|refine dP ?_|refine jB ?_)
     refine sm ?_
   | (first|refine jv aew ?_|refine iN ?_|refine fO ?_|refine jA ?_|refine nI (dO ?_))
     refine sl ?_
   |exact nE
   |first|apply nF|apply jw|apply nG|apply jx|apply nH|apply jy
   |refine fS ?_
   |refine fN ?_
   |first|refine fQ rfl ?_|refine fR rfl ?_|refine cE rfl ?_ ?_|refine iD rfl (λ_=>?_) (λ_=>?_)|refine iC rfl (λ_=>?_) (λ_=>?_)
   |((first|refine cD (λ_=>?_) (λ_=>?_)|refine dN (λ_=>?_) (λ_=>?_))<;>try refine sm ?_)
   |refine And.intro trivial ?_
   |refine And.intro aeu ?_
   |refine eQ rfl (λ_=>?_) (λ_=>?_)
   |refine And.intro ?_ ?_
  all_goals
   refine aB ?_;rw[show(AV.sl [] 0 (some 0)).frz=.sl (([]:List (List UInt8)).map AV.str) ([]:List (List UInt8)).length none from rfl];exact ag h.o
 have g:¬xs.length=0:=λc=>b (acm.1 c)
 have f:(xs.map AV.str).all AV.one=true:=by rw[abL];intro a d;obtain⟨r,_,rfl⟩:=abB.1 d;rfl
 refine abv ek ?_;refine EG (i:=L.length) (l:=xs.map AV.str) aev ?_;rw[show(AV.lsl L.length 0 xs.length none 1).snap L.length (xs.map AV.str)=.sl (xs.map AV.str) xs.length none from by simp[AV.snap,ab7],show(L++[Blk.cells (xs.map AV.str)]).set L.length .dead=L++[.dead]by simp];exact ae (by simp only[AV.refs];exact jM _ _) h.o
theorem Mg{l:List Atr}(x:l.length<=1100000)(j:∀a∈l,a.2.length<=1100000)(h:K (.sl (cj l) l.length none) L):
  abw 68 [.sl (cj l) l.length cap] L K:=by
 replace h:=hid h;have s:Hid (∀{xs:List (List UInt8)}{c:Option Nat}(r:xs.length<=1100000){L:List Blk}{K:abx},K (.sl (xs.map AV.str) xs.length none) L->abw 93 [.sl (xs.map AV.str) xs.length c] L K):=@hid _ (by intro xs c r L K q;exact Xd r q);refine abv N3 ?_;refine cB (l:=[]) (n:=0) 3 2 rfl (acg 2).symm ?_;refine ar (λm T' L'=>∃(k:Nat) (C:List AV) (X:List Blk),m=l.length-k/\k<=l.length/\C=cj (l.take k)/\T'=[(8,.int .i64 (k:Int)),(7,.int .i64 l.length),(6,.sl (cj l) l.length cap),(3,.gsl C k L.length 2)]/\L'=L++(.spare k 2::X)) aey ⟨0,[],[],rfl,abJ _,rfl,rfl,rfl⟩ ?_;rintro _ _ _ ⟨k,C,X,rfl,w,e,rfl,rfl⟩;by_cases b:k<l.length;have g1:(k:Int)<(l.length:Int):=aeu;have v:=abu k aeu;have p:=Mv b;have u:k*2+2<=(cj l).length:=by rw[Oc];omega
 obtain⟨⟨nm,vs⟩,g⟩:∃a,l.getD k ([],[])=a:=⟨_,rfl⟩;have d:cj (l.take (k+1))=cj (l.take k)++[.str nm,.sl (vs.map AV.str) vs.length none]:=by rw[ab6 b,Od,show l[k]=(nm,vs)by rw[<- g];simp[b]];rfl
 have f:=j (nm,vs) (by rw[<- g];simp[b]);simp only at f;rw[g]at p;simp only[atA]at p;have t:AV.frzL (vs.map AV.str)=vs.map AV.str:=jo vs;replace d:=hid d;replace e:=hid e;have kk1:Hid (∀{c:Option Nat}{L:List Blk}{K:abx},K (.sl (vs.map AV.str) vs.length none) L->abw 93 [.sl (vs.map AV.str) vs.length c] L K):=@hid _ (by intro c L K q;exact s.o f q);clear g j s;refine wk ?_;exact aez aeu aex ⟨k+1,_,_,rfl,b,by rw[d.o,e.o],rfl,rfl⟩;have i:k=l.length:=aeu;subst i;have g1:¬(l.length:Int)<(l.length:Int):=aeu;rw[abX]at e;subst e;have t:=xG l;refine wk ?_;refine aB ?_;simp only[AV.frz,t];exact ae (by simp only[AV.refs,xF]) h.o
theorem Vx{L:List Blk}{iv mn mi:Nat}{nb bn:Int->Nat}{ck ci:Nat}{rs:List TKy}{suf:List Rdn}{last:Int}{l:List aA}(p:TOk suf last l)(s:∀x∈l,x.av.length<=1100000/\∀a∈x.av,a.2.length<=1100000)(f:aU L iv mn mi nb bn ck ci rs suf last l){K:abx}(r:zW l id=none->K (.tup [dnA [],atR []]) L)(h:∀x,zW l id=some x->K (.tup [dnA x.nm,atR x.av]) L):
  abw 34 [.ptr iv 0,.int .i64 id] L K:=by
 have C:=f.v;have A:=f.n;have z:aT .int (.int .i64 id)=true:=rfl;rcases f.node id with⟨g,y⟩|⟨x,n,g,t,k,y,i⟩;replace h:=hid (r g);clear f g r s p;refine abv m8 ?_;refine aB ?_;rw[show(AV.tup [.sl [] 0 (some 0),.sl [] 0 (some 0)]).frz=.tup [dnA [],atR []]from rfl];exact ag h.o;replace h:=hid (h x g);unfold kP at i;have d:=(p.ok x t).m.b;have e:=s x t;obtain⟨B,j,u⟩:=x;simp only at i d e h;have kk1:Hid (∀{c:Option Nat}{L:List Blk}{K:abx},K (dnA j) L->abw 50 [.sl (j.map aJ) j.length none,.sl [] 0 c] L K):=@hid _ (by intro c L K q;exact Ki d.1 d.2 q);have kk2:Hid (Ctr Tryz.prog 68 [.sl (cj u) u.length none] (atR u)):=@hid _ (by intro L K q;exact Mg e.1 e.2 q);obtain⟨q,w⟩:=abr (aP (cU l) (NK j));rw[w]at i;unfold atR at i kk2 h;clear f g r s p t k w d e;refine abv m8 ?_;exact ag h.o
theorem TD{nb bn:Int->Nat}:∀{l:List aA}{x:aA},(l.map λx=>bn x.id).Nodup->x∈l->(l.map (eO nb bn)).find? (λe=>Nat.beq e.2.2 (bn x.id))=some (eO nb bn x)
 |[],x,_,h=>by cases h
 | y::l,x,hn,h=>by
   rw[abO,acu]at hn;rcases abY.1 h with h|h
   .subst h;simp[eO]
   .have hne:bn y.id≠bn x.id:=λe=>hn.1 (abB.2 ⟨x,h,e.symm⟩)
    have a:Nat.beq (bn y.id) (bn x.id)=false:=by
     cases hh:Nat.beq (bn y.id) (bn x.id)with
     |false=>rfl
     |true=>exact absurd (aec hh) hne
    simp only[abO,acE];rw[show Nat.beq (eO nb bn y).2.2 (bn x.id)=false from a];exact TD hn.2 h
theorem abi{nb bn:Int->Nat}{l:List aA}{x:aA}{ck:Nat}(a:(l.map λx=>bn x.id).Nodup)(b:x∈l):mat (l.map (eO nb bn)) ck (seen++[bn x.id]) ck=some (eO nb bn x):=by simp only[mat,List.getLast?_append,List.getLast?_singleton,Option.some_or,if_true];exact TD a b
theorem Wo{β:Type}:∀(ps l:List β),ps.Nodup->(∀x∈ps,x∈l)->ps.length<=l.length
 |[],l,_,_=>abJ _
 | x::ps,l,hn,hs=>by
   obtain⟨e,d⟩:=acu.1 hn;obtain⟨a,b,rfl⟩:=List.append_of_mem (hs x aev);have:=Wo ps (a++b) d λy c=>by
    have:=hs y (by simp[c]);rcases abD.1 this with h|h
    .exact ac3 _ h
    .rcases abY.1 h with h|h
     .rw[h]at c;exact absurd c e
     .exact adj _ h
   simp only[abP,abU]at this⊢;omega
structure On(bn:Int->Nat)(l:List aA)(ps:List aA)(seen:List Nat):Prop where
 sub:∀x∈ps,x∈l
 nd:ps.Nodup
 eq:seen=ps.map λx=>bn x.id
theorem On.nil{bn:Int->Nat}{l:List aA}:On bn l [] []:=⟨λ_ h=>absurd h acF,adt,rfl⟩
theorem On.next{bn:Int->Nat}{l:List aA}(h:On bn l ps seen){x:aA}(g:x∈l)(d:seen.contains (bn x.id)=false):On bn l (ps++[x]) (seen++[bn x.id]):=by
 refine⟨λy c=>?_,?_,by rw[h.eq];simp⟩;rcases abD.1 c with c|c;exact h.sub y c;rw[abV.1 c];exact g;rw[ac7];refine⟨h.nd,aev,λa i b f e=>?_⟩;rw[abV.1 f]at e;have:bn x.id∈seen:=by rw[h.eq,<- e];exact abB.2 ⟨a,i,rfl⟩
 rw[act]at d;simp[this]at d
theorem On.all{bn:Int->Nat}{l:List aA}(h:On bn l ps seen)(f:l.Nodup)(c:(l.map λx=>bn x.id).Nodup)(d:∀x∈l,seen.contains (bn x.id)=true):ps.Perm l:=by
 refine(List.perm_ext_iff_of_nodup h.nd f).2 λx=>⟨h.sub x,λb=>?_⟩
 have:=d x b;rw[act,decide_eq_true_eq,h.eq]at this;obtain⟨y,a,e⟩:=abB.1 this;rw[<- bN c (h.sub y a) b e];exact a
theorem On.len{bn:Int->Nat}{l:List aA}(h:On bn l ps seen):ps.length<=l.length:=Wo ps l h.nd h.sub
theorem abg{bn:Int->Nat}{l:List aA}{x:aA}(b:x∈l)(a:seen.contains (bn x.id)=false):(l.filter λr => !(seen++[bn x.id]).contains (bn r.id)).length<(l.filter λr => !seen.contains (bn r.id)).length:=by
 have e:(l.filter λr => !(seen++[bn x.id]).contains (bn r.id))=(l.filter λr => !seen.contains (bn r.id)).filter (λr=>decide (bn r.id≠bn x.id)):=by
  rw[List.filter_filter];refine List.filter_congr λr _=>?_
  by_cases h:bn r.id=bn x.id<;>simp[h]
 rw[e];refine List.length_filter_lt_length_iff_exists.2 ⟨x,acj.2 ⟨b,by rw[a];rfl⟩,aev⟩
theorem TOk.nodup{suf:List Rdn}{last:Int}{l:List aA}(h:TOk suf last l):l.Nodup:=by have a:=h.inv.ids;unfold cU at a;rw[abW]at a;exact xM a
theorem Qw(q:Nat->Bool):∀l:List aA,AV.refsL q (nj l)=true
 |[]=>rfl
 |x::l=>by show(AV.refs q _&&AV.refsL q _)=true;rw[Qw q l];rfl
theorem MA{suf:List Rdn}{last:Int}{l:List aA}(ht:TOk suf last l)(b0:l.length<=1100000){L:List Blk}{iv mn mi:Nat}{nb bn:Int->Nat}{ck ci:Nat}{rs:List TKy}(I:aU L iv mn mi nb bn ck ci rs suf last l){s:Int}{K:abx}(h:K (.sl ((scT l id s).map (AV.int .i64)) (scT l id s).length none) L):
  abw 32 [.ptr iv 0,.int .i64 id,.int .i64 s] L K:=by
 have y:=I.v;have hn:=I.n;have a':iv<L.length:=(aby.1 y).1;have a7:mn<L.length:=(aby.1 hn).1;have av:∀X:List Blk,(L++X)[iv]?=some (.cells [dnA suf,.lmap mn,.lmap mi,.int .i64 last]):=λX=>by rw[abC a'];exact y
 have an:∀X:List Blk,(L++X)[mn]?=some (.map (l.map (eO nb bn)) ck):=λX=>by rw[abC a7];exact hn
 have b4:aT .int (.int .i64 id)=true:=rfl;unfold scT at h;rcases I.node id with⟨e1,e2⟩|⟨a,j,e1,ha,bl,e2,e3⟩;rw[e1]at h;replace h:=hid h;clear I e1 y hn;refine abv ee ?_;refine aB ?_;rw[show(AV.sl [] 0 (some 0)).frz=.sl (([]:List Int).map (AV.int .i64)) ([]:List Int).length none from rfl];exact ae rfl h.o
 .rw[e1]at h;simp only at h;have bx:nb id<L.length:=(aby.1 e3).1;unfold kP at e3;have ad:∀X:List Blk,(L++X)[nb id]?=some (.cells [dnA a.nm,.sl (ax (pth a)) a.nm.length none,atR a.av,.int .i64 (aP (cU l) (NK a.nm):Nat)]):=λX=>by rw[abC bx];exact e3
  by_cases hs:s<0\/2<s;rw[if_pos hs]at h;replace h:=hid h;clear I e1 y hn e3;by_cases c1:s<0;refine abv ee ?_;refine aB ?_;rw[show(AV.sl [] 0 (some 0)).frz=.sl (([]:List Int).map (AV.int .i64)) ([]:List Int).length none from rfl];exact ae rfl h.o;have c2:2<s:=aeu;have c3:s>2:=c2;refine abv ee ?_;refine aB ?_;rw[show(AV.sl [] 0 (some 0)).frz=.sl (([]:List Int).map (AV.int .i64)) ([]:List Int).length none from rfl];exact ae rfl h.o
  .rw[if_neg hs]at h;have c1:¬s<0:=aeu;have c2:¬2<s:=aeu;have c3:¬s>2:=c2;replace h:=hid h;replace I:=hid I;replace ht:=hid ht;clear y hn e3 hs;refine abv ee ?_;refine ar (λn T' L'=>∃(seen:List Nat) (ps:List aA) (v:AV) (Z:List Blk),n=(l.filter λr => !seen.contains (bn r.id)).length/\Hid (On bn l ps seen)/\Hid ((ps.filter (ir a s)=[]/\v=.sl [] 0 (some 0))\/∃m,ps.filter (ir a s)≠[]/\v=.lsl (L.length+2+m) 0 (ps.filter (ir a s)).length none 1/\Z[m]?=some (.cells (nj (ps.filter (ir a s)))))/\T'=[(44,.ptr (L.length+1) 0),(8,v),(7,.sl (ax (pth a)) a.nm.length none),(3,.ptr L.length 0),(0,.ptr iv 0),(1,.int .i64 id),(2,.int .i64 s)]/\L'=L++([.cells [.ptr iv 0],.miter (some mn) ck seen ck]++Z)) aey ⟨[],[],_,[],rfl,hid On.nil,hid (.inl ⟨rfl,rfl⟩),rfl,rfl⟩ ?_;rintro _ _ _ ⟨seen,ps,v,Z,rfl,F,y,rfl,rfl⟩;have i1:∀(a b:Blk) (Z:List Blk),(L++([a,b]++Z))[L.length+1]?=some b:=λa b Z=>by rw[abN aeu];simp
   have i3:∀(a b c:Blk) (Z:List Blk),(L++([a,b]++Z)).set (L.length+1) c=L++([a,c]++Z):=λa b c Z=>by rw[ach _ _ aeu,show L.length+1-L.length=1 by omega];rfl
   refine kY ?_;refine T7 (i:=L.length+1) (j:=mn) (es:=l.map (eO nb bn)) aew rfl (i1 _ _ _) (an _) (λe he=>?_) (abA _) (λab=>?_) (λe he hs=>?_);obtain⟨p,hp,rfl⟩:=abB.1 he;exact I.o.blt p hp;have R:=F.o.all ht.o.nodup I.o.bnd λx Q=>ab (eO nb bn x) (abB.2 ⟨x,Q,rfl⟩)
   have P:=ht.o.srt a s (R.filter (ir a s));have w:=aca (adJ (ir a s) ps) F.o.len;have H:∀x∈ps.filter (ir a s),x∈l:=λx Q=>F.o.sub x (acj.1 Q).1
   obtain⟨z,A⟩:=abr (ps.filter (ir a s));have a6:=y.o;rw[A]at a6 P w H;rw[<- P]at h;replace H:=hid H;replace w:=hid w;clear ab R P F y A;refine sk ?_;rcases a6 with⟨rfl,rfl⟩|⟨m,W,rfl,J⟩;have kk1:Hid (∀{cap:Option Nat}{fv:AV}{L:List Blk}{K:abx},K (.tup []) L->abw 72 [.sl [] 0 cap,fv] L K):=@hid _ (by intro cap fv L K q;exact VM q);clear H w;refine wk ?_;refine aB ?_;have h':=h.o;rw[List.mergeSort_nil]at h';exact ae rfl h';have ai:∀(b c:Blk),(L++b::c::Z)[L.length+2+m]?=some (.cells (nj z)):=λb c=>by rw[abN aeu,show L.length+2+m-L.length=m+1+1 by omega];simpa using J
   have a_:∀(b c d:Blk),(L++b::c::Z).set (L.length+2+m) d=L++b::c::Z.set m d:=λb c d=>by rw[ach _ _ aeu,show L.length+2+m-L.length=m+1+1 by omega];rfl
   have hm:m<Z.length:=(aby.1 J).1;obtain⟨sr,S⟩:=abr (z.mergeSort leE);have bo:sr.length=z.length:=(by rw[<- S,ael]);have kk1:Hid (∀{K:abx},K (.tup []) (L ++ .cells [.ptr iv 0] :: .miter (some mn) ck seen ck::Z.set m (.cells (nj sr)))->abw 72 [.lsl (L.length+2+m) 0 z.length none 1,.func 73 [.ptr L.length 0]] (L ++ .cells [.ptr iv 0] :: .miter (some mn) ck seen ck::Z) K):=@hid _ (by intro K q;refine X3 ht.o H.o W (aca w.o b0) (I.o.app _) (ai _ _) (by rw[abN (abA _)];simp) ?_;rw[a_,S];exact q)
   rw[S]at h;have e4:(sr.map λx=>x.id).map (AV.int .i64)=nj sr:=(by rw[abW];rfl);rw[e4,abM]at h;clear H w W S a_ ai J;refine wk ?_;refine EG (i:=L.length+2+m) (l:=nj sr) ?_ ?_;rw[abN aeu,show L.length+2+m-L.length=m+1+1 by omega];simp[hm];rw[show(AV.lsl (L.length+2+m) 0 z.length none 1).snap (L.length+2+m) (nj sr)=.sl (nj sr) sr.length none from by simp[AV.snap,<- bo,ab7],ach _ _ aeu];refine ae ?_ h.o;simp only[AV.refs];exact Qw _ sr
   .obtain⟨x,Q,rfl⟩:=abB.1 he;clear he;have a3:seen.contains (bn x.id)=false:=hs;have D:=hid (abg Q a3);have t:=hid (F.o.next Q a3);have bb:=abi (nb:=nb) (ck:=ck) (seen:=seen) I.o.bnd Q;have U:=I.o.nd x Q;have bk:nb x.id<L.length:=(aby.1 U).1;unfold kP at U;have ap:∀X:List Blk,(L++X)[nb x.id]?=some (.cells [dnA x.nm,.sl (ax (pth x)) x.nm.length none,atR x.av,.int .i64 (aP (cU l) (NK x.nm):Nat)]):=λX=>by rw[abC bk];exact U
    have f:=WH ht.o ha Q s;have O:(pth x).length=x.nm.length:=(by simp[pth,bu]);have a5:(pth a).length=a.nm.length:=(by simp[pth,bu]);have N:(ps++[x]).filter (ir a s)=ps.filter (ir a s)++(if ir a s x=true then[x]else[]):=by rw[List.filter_append];congr 1;by_cases c:ir a s x=true<;>simp[c]
    have a9:=(ht.o.ok x Q).len;have a8:=(ht.o.ok a ha).len;have w:=aca (adJ (ir a s) ps) F.o.len;rw[O,a5]at f;simp only[eO]at *;clear hs a3 F;simp only[i3];have w1:IntKind.i64.wrap ((x.nm.length:Int)-(a.nm.length:Int))=(x.nm.length:Int)-(a.nm.length:Int):=af aeu aeu;have kE:Hid (∀{ca cb:Option Nat}{L:List Blk}{K:abx},a.nm.length<=x.nm.length->K (.bool (decide (List.take a.nm.length (pth x)=pth a))) L->abw 71 [.sl (List.take a.nm.length (ax (pth x))) a.nm.length ca,.sl (ax (pth a)) a.nm.length cb] L K):=@hid _ (by intro ca cb L K b5 q;rw[<- adF];exact aaO (a:=(pth x).take a.nm.length) (b:=pth a) (by rw[acv,O];omega) a5.symm (by rw[acv,O];omega) q)
    obtain⟨u,hu⟩:=abr (decide (List.take a.nm.length (pth x)=pth a));rw[hu]at kE f;obtain⟨xi,M⟩:=abr (x.id);have E:ir a s x=true->(ps++[x]).filter (ir a s)=ps.filter (ir a s)++[x]:=λe=>by rw[N,if_pos e]
    have a4:ir a s x=false->(ps++[x]).filter (ir a s)=ps.filter (ir a s):=λe=>by rw[N,if_neg (by rw[e];decide)];simp
    obtain⟨z,A⟩:=abr (ps.filter (ir a s));rw[A]at y E a4 w;obtain⟨nx,V⟩:=abr (x.nm.length);obtain⟨na,Y⟩:=abr (a.nm.length);rw[M]at bb ap;rw[V,Y]at kE f w1;rw[V]at ap a9;rw[Y]at ad a8;obtain⟨xp,al⟩:=abr (ax (pth x));rw[al]at kE ap;have b3:xp.length=nx:=(by rw[<- al,abM,O,V]);have B:ir a s x=false->Hid ((z=[]/\v=.sl [] 0 (some 0))\/∃m,z≠[]/\v=.lsl (L.length+2+m) 0 z.length none 1/\Z[m]?=some (.cells (nj z)))->Hid (((ps++[x]).filter (ir a s)=[]/\v=.sl [] 0 (some 0))\/∃m,(ps++[x]).filter (ir a s)≠[]/\v=.lsl (L.length+2+m) 0 ((ps++[x]).filter (ir a s)).length none 1/\Z[m]?=some (.cells (nj ((ps++[x]).filter (ir a s))))):=λe y=>by rw[a4 e];exact y
    rw[Y,M];rw[M]at D t;have g:=λ(e:ir a s x=false)=>B e y
    clear B;replace g:=hid g;replace f:=hid f;have G:=hid (show nj [x]=[.int .i64 xi]from by rw[<- M];rfl);clear N U Q a4 O a5 M V Y hu al A ha bl e1;by_cases d1:na<=nx;rotate_left;have g1:¬(0:Int)<=(nx:Int)-(na:Int):=aeu;have g2:¬(nx:Int)-(na:Int)≥0:=g1;have B:=g.o (by rw[f.o,decide_eq_false g1];rfl);clear kE f g y E;refine aeC ?_;refine aez D.o aey ⟨_,ps++[x],_,_,rfl,hid t.o,B.o,rfl,rfl⟩;have kk1:=@hid _ (λ{ca cb:Option Nat}{L:List Blk}{K:abx}=>kE.o (ca:=ca) (cb:=cb) (L:=L) (K:=K) d1);have g1:(0:Int)<=(nx:Int)-(na:Int):=aeu;have g2:(nx:Int)-(na:Int)≥0:=g1;have g3:(na:Int)<=(nx:Int):=aeu;have f:=f.o;rw[decide_eq_true g1,acU]at f;replace f:=hid f;clear kE;cases u with
    | false =>
      have B:=g.o (by rw[f.o];rfl);clear f g y E;refine aeC ?_;refine aez D.o aey ⟨_,ps++[x],_,_,rfl,hid t.o,B.o,rfl,rfl⟩
    | true =>
      have f:=f.o;rw[acU]at f;replace f:=hid f;by_cases d2:s=2
      .subst d2;have k:=hid (E (by rw[f.o];rfl));clear f g E;rcases y.o with⟨A,rfl⟩|⟨m,W,rfl,J⟩
       .subst A;clear y;refine aeC ?_;refine aez D.o aey ⟨_,ps++[x],_,Z++[.cells [.int .i64 xi]],rfl,hid t.o,hid (.inr ⟨Z.length,by rw[k.o];simp,?_,by rw[k.o,aco,G.o];simp⟩),rfl,aev⟩;rw[k.o,show L.length+(Z.length+1+1)=L.length+2+Z.length by omega];rfl
       .have hm:m<Z.length:=(aby.1 J).1;have a0:∀(a b:Blk),(L++a::b::Z)[L.length+2+m]?=some (.cells (nj z)):=λa b=>by rw[abN aeu,show L.length+2+m-L.length=m+1+1 by omega];simpa using J
        have bd:∀(a b:Blk),(L++a::b::Z).set (L.length+2+m) .dead=L++a::b::Z.set m .dead:=λa b=>by rw[ach _ _ aeu,show L.length+2+m-L.length=m+1+1 by omega];rfl
        obtain⟨C,T⟩:=abr (nj z);obtain⟨d,hd⟩:=abr (z.length);have bs:C.length=d:=(by rw[<- T,abM,hd]);have b1:List.take d C=C:=ab7 aeu;have b2:d<=1100000:=aeu;rw[T]at a0;rw[hd];have a1:=hid T;have a2:=hid hd;clear y J T hd w;refine aeC ?_;refine aez D.o aey ⟨_,ps++[x],_,Z.set m .dead++[.cells (C++[.int .i64 xi])],rfl,hid t.o,hid (.inr ⟨Z.length,by rw[k.o];simp,?_,by rw[k.o,show nj (z++[x])=nj z++nj [x]from abS,a1.o,G.o,abN aev];simp⟩),rfl,aev⟩;rw[k.o,show L.length+(Z.length+1+1)=L.length+2+Z.length by omega,abP,a2.o];rfl
      .by_cases d3:(nx:Int)-(na:Int)=s
       .have k:=hid (E (by rw[f.o];rw[decide_eq_true d3,Bool.or_true]));subst d3;clear f g E;rcases y.o with⟨A,rfl⟩|⟨m,W,rfl,J⟩
        .subst A;clear y;refine aeC ?_;refine aez D.o aey ⟨_,ps++[x],_,Z++[.cells [.int .i64 xi]],rfl,hid t.o,hid (.inr ⟨Z.length,by rw[k.o];simp,?_,by rw[k.o,aco,G.o];simp⟩),rfl,aev⟩;rw[k.o,show L.length+(Z.length+1+1)=L.length+2+Z.length by omega];rfl
        .have hm:m<Z.length:=(aby.1 J).1;have a0:∀(a b:Blk),(L++a::b::Z)[L.length+2+m]?=some (.cells (nj z)):=λa b=>by rw[abN aeu,show L.length+2+m-L.length=m+1+1 by omega];simpa using J
         have bd:∀(a b:Blk),(L++a::b::Z).set (L.length+2+m) .dead=L++a::b::Z.set m .dead:=λa b=>by rw[ach _ _ aeu,show L.length+2+m-L.length=m+1+1 by omega];rfl
         obtain⟨C,T⟩:=abr (nj z);obtain⟨d,hd⟩:=abr (z.length);have bs:C.length=d:=(by rw[<- T,abM,hd]);have b1:List.take d C=C:=ab7 aeu;have b2:d<=1100000:=aeu;rw[T]at a0;rw[hd];have a1:=hid T;have a2:=hid hd;clear y J T hd w;refine aeC ?_;refine aez D.o aey ⟨_,ps++[x],_,Z.set m .dead++[.cells (C++[.int .i64 xi])],rfl,hid t.o,hid (.inr ⟨Z.length,by rw[k.o];simp,?_,by rw[k.o,show nj (z++[x])=nj z++nj [x]from abS,a1.o,G.o,abN aev];simp⟩),rfl,aev⟩;rw[k.o,show L.length+(Z.length+1+1)=L.length+2+Z.length by omega,abP,a2.o];rfl
       .have B:=g.o (by rw[f.o,decide_eq_false d2,decide_eq_false d3];rfl);clear f g y E;refine aeC ?_;refine aez D.o aey ⟨_,ps++[x],_,_,rfl,hid t.o,B.o,rfl,rfl⟩
section
variable {P:Program}{w0:World}{S0:SB}{N:Nat}{own:Nat->Nat->Nat}{Q:Exit->Tm->List Blk->Prop}{T:Tm}{L:List Blk}
theorem Sk{c:Code}{g:Opd}{ps:List Nat}{x y:aS}(hc:aF P N own c=some (.rangeF g ps x y)):
  ∃g0 ps0 ca cb,c=.rangeFunc g0 ps0 ca cb/\aY g0=some g/\ps0.toList=ps/\aF P N own ca=some x/\aF P N own cb=some y/\x.hasRF=false/\y.hasRF=false/\∀p∈ps,p<N:=by
 cases c
 case rangeFunc g0 ps0 ca cb =>
  simp only[aF]at hc;split at hc<;>try cases hc
  rename_i g1 x1 y1 h1 h2 h3;split at hc<;>cases hc;rename_i hb;simp only[abH,acd,Array.all_eq_true_iff_forall_mem,decide_eq_true_eq]at hb
  grind
 case region id ops draw =>
  cases draw<;>simp only[aF]at hc
  all_goals
   (repeat' split at hc)
   all_goals (first|(cases hc;done)|(simp only[abZ]at hc;obtain⟨_,_,hc⟩:=hc;cases hc;done)|(simp only[adM]at hc;obtain⟨_,_,hc⟩:=hc;split at hc<;>cases hc;done))
 all_goals
  simp only[aF]at hc
  (repeat' split at hc)
  all_goals (first|(cases hc;done)|(simp only[abZ]at hc;obtain⟨_,_,hc⟩:=hc;cases hc;done))
def G2:List Nat->List AV->Tm->Tm
 |p::ps,a::as',T=>G2 ps as' ((p,a)::T)
 |_,_,T=>T
theorem Ob{E:Env}:∀(ps:List Nat) (b:List AV) (vs:List Value) (T:Tm) (tm:Array Value),ps.length=b.length->VRL E b vs->(∀p∈ps,p<tm.size)->(∀t v,aq T t=some v->VR E v (tm.getD t undef)) ->
  ∀t v,aq (G2 ps b T) t=some v->VR E v (((ps.zip vs).foldl (λtm (p:Nat×Value)=>tm.setIfInBounds p.1 p.2) tm).getD t undef)
 |[],[],vs,T,tm,_,_,_,h,t,v,ht=>by simpa[G2]using h t v (by simpa[G2]using ht)
 |[],_::_,_,_,_,hl,_,_,_,_,_,_=>by simp at hl
 |_::_,[],_,_,_,hl,_,_,_,_,_,_=>by simp at hl
 | p::ps,a::b,vs,T,tm,hl,hv,hp,h,t,v,ht=>by
   obtain⟨x,xs,rfl,g,e⟩:=hv;refine Ob ps b xs ((p,a)::T) (tm.setIfInBounds p x) (by simpa using hl) e (λq d=>by simpa using hp q (by simp[d])) (λt' f c=>?_) t v (by simpa[G2]using ht);simp only[aq]at c;split at c
   .simp_all
   simp_all
theorem SJ(l:List (Nat×Value)):∀tm:Array Value,(l.foldl (λtm (p:Nat×Value)=>tm.setIfInBounds p.1 p.2) tm).size=tm.size:=by
 induction l with
 |nil=>intro tm;rfl
 |cons a l ih=>intro tm;rw[acI,ih];simp
def abn(i:Nat)(b0 b1:Blk)(K:AV->List Blk->Prop)(e:Exit)(T:Tm)(L:List Blk):Prop:=e=.normal/\L[i]?=some b0/\K (.bool true) (L.set i b1)
theorem Qf{i:Nat}{fn:FuncId}{ps:List Nat}{ca cb:Code}{args:List AV}{K:AV->List Blk->Prop}{x y:aS}(hL:L[i]?=some (.lrec T N fn ps ca cb false))(hx:aF P N own ca=some x.raw)(hy:aF P N own cb=some y.raw)(hfx:x.hasRF=false)(hfy:y.hasRF=false)(hlen:ps.length=args.length)(hps:∀p∈ps,p<N)(h:AW P N own x (RB (λT1 L1=>L1[i]?=some (.lrec T N fn ps ca cb false)/\AW P N own y (abn i (.lrec T N fn ps ca cb true) (.lrec T N fn ps ca cb false) K) T1 (L1.set i (.lrec T N fn ps ca cb true))) (λ_ _ _=>False)) (G2 ps args T) L):OL P i args L K:=by
 intro w0 S0 E w vs hR hv c hc;have hB:=hR.blk i _ hL;obtain⟨c',D,tm,h1,h2,h3,h4,h5⟩:=hB;rw[hc]at h1;cases h1;have hvl:=hv.length;have hyd:=run_yield (P:=P) (args:=⟨vs⟩) h2 (by simp[hvl,hlen]);refine⟨fn,_,ca,cb,hyd,roundIn_of_wpIn (F:=fm none) (n:=0) trivial ?_⟩;have hst:St w ⟨JT E L,w.heap.size⟩ N E (G2 ps args T) L {tmps:=((⟨ps⟩:Array Tmp).zip ⟨vs⟩).foldl (λtmps (t,a)=>tmps.setIfInBounds t a) tm,defers:=[]} w:=by
  have e:((⟨ps⟩:Array Tmp).zip ⟨vs⟩).foldl (λtmps (t,a)=>tmps.setIfInBounds t a) tm=(ps.zip vs).foldl (λtm (p:Nat×Value)=>tm.setIfInBounds p.1 p.2) tm:=by simp
  refine⟨hR.enter _,λt v ht=>?_,?_,RD.nil (abA _)⟩;simp only[e];exact Ob ps args vs T tm hlen hv (λp hp=>by rw[h4];exact hps p hp) h5 t v ht;simp only[e];rw[SJ];exact h4
 refine wpIn_mono (h ca hx (some c.blk) (λe=>by rw[hfx]at e;cases e) w _ E _ w hst) λe a1 wA ⟨w1,S1,E1,T1,L1,b1,le1,q1,st1⟩=>?_
 cases e
 case normal =>
  obtain⟨hL1,hAW⟩:=q1;have hc1:=le1.loc _ _ hc;have hB1:=st1.1.blk i _ hL1;obtain⟨c1,D1,tm1,k1,k2,k3,k4,k5⟩:=hB1;rw[hc1]at k1;cases k1;have hlt1:c.blk<wA.heap.size:=(acl.1 k2).1;refine⟨_,run_beginRound k2 rfl,?_⟩;have st2:St w1 S1 N E1 T1 (L1.set i (.lrec T N fn ps ca cb true)) a1 (wA.putObj c.blk (.loop {state:=.busy,pending:=none,fn:=fn,tmps:=tm1,params:=⟨ps⟩,assign:=ca,body:=cb,defers:=D1})):=by refine⟨st1.1.turn hL1 rfl hc1 aev (λb hb=>adO hb) rfl rfl rfl ⟨c,D1,tm1,hc1,by rw[World.putObj_heap_same hlt1];rfl,k3,k4,k5⟩ (λ_ _ e=>by cases e),st1.2⟩
  refine wpIn_mono (hAW cb hy (some c.blk) (λe=>by rw[hfy]at e;cases e) w1 S1 E1 a1 _ st2) λe a2 w4 ⟨w3,S3,E3,T2,L2,b3,le3,q3,st3⟩=>?_
  obtain⟨rfl,hL2,hK⟩:=q3;have hc3:=le3.loc _ _ hc1;have hB3:=st3.1.blk i _ hL2;obtain⟨c3,D3,tm3,m1,m2,m3,m4,m5⟩:=hB3;rw[hc3]at m1;cases m1;have hlt3:c.blk<w4.heap.size:=(acl.1 m2).1;refine⟨_,_,run_endRound none m2,E3,_,.bool true,_,rfl,le1.trans le3,hK,rfl,hR.back ((b1.trans b3).rel ?_)⟩;exact st3.1.turn hL2 rfl hc3 aev (λb hb=>adO hb) rfl rfl rfl ⟨c,D3,tm3,hc3,by rw[World.putObj_heap_same hlt3];simp,m3,m4,m5⟩ (λ_ _ e=>by cases e)
 all_goals exact q1
theorem Kz{g:Opd}{ps:List Nat}{x y:aS}{f:FuncId}{caps:List AV}(he:∀args w,(callFunc f args).run P w=.ok (.enter f args) w)(hg:evX T g=some (.func f caps))(h:∀fn ca cb,aF P N own ca=some x.raw->aF P N own cb=some y.raw->x.hasRF=false->y.hasRF=false->(∀p∈ps,p<N) ->
   ac P f (.yld L.length::caps) (L++[.lrec T N fn ps ca cb false]) λ_ L'=>L'[L.length]?=some (.lrec T N fn ps ca cb false)/\Q .normal T (L'.set L.length .dead)):
  AW P N own (.rangeF g ps x y) Q T L:=λc hc r hr w0 S0 E a w hst=>by
 obtain⟨g0,ps0,ca,cb,rfl,hg0,hps0,hca,hcb,hfx,hfy,hps⟩:=Sk hc;rw[aS.hasRF_raw]at hfx hfy;have hrn:r=none:=hr rfl;subst hrn;obtain⟨hR,hT,hN,hMk⟩:=hst;have hgv:=ah hg0 hg hT;simp only[VR]at hgv;obtain⟨lb,hgv,hlb⟩:=hgv;refine wpIn_rangeFunc λfn _=>?_
 have ha:∀(v:World) (o:Obj),(v.alloc o)={v with heap:=v.heap.push o}:=λ_ _=>rfl
 have hR0:Rel w0 S0 E L {w with heap:=w.heap.push (.deferred (some []))}:=hR.grown ⟨λb hb=>by show(w.heap.push _)[b]?=_;rw[acM hb,<- acq hb],aev,rfl,rfl,rfl⟩
 obtain⟨rec,hrec⟩:∃rec:Loop,rec={state:=.ready,pending:=none,fn,tmps:=a.tmps,params:=ps0,assign:=ca,body:=cb,defers:=w.heap.size}:=⟨_,rfl⟩;obtain⟨E1,hE1⟩:∃E1:Env,E1={E with loc:=λi=>if i=L.length then some ⟨w.heap.size+1,0,0⟩else E.loc i}:=⟨_,rfl⟩;have hl1:E1.loc L.length=some ⟨w.heap.size+1,0,0⟩:=by rw[hE1];simp
 have leE:E.le E1:=⟨λ_ _ _ x=>by rw[hE1];exact x,λi c x=>by rw[hE1];show(if i=L.length then _ else E.loc i)=_;rw[if_neg (λe=>by rw[hR.fresh i aeu]at x;cases x)];exact x,λi t x=>⟨t,by rw[hE1];exact x,.inl rfl⟩⟩
 obtain⟨le1,hR1⟩:=hR0.push (.loop rec) (.lrec T N fn ps ca cb false) ⟨w.heap.size+1,0,0⟩ aev rfl (by rw[<- hE1];refine⟨⟨w.heap.size+1,0,0⟩,w.heap.size,a.tmps,hl1,?_,rfl,hN,λt v hv=>VR.mono leE _ _ (hT t v hv)⟩;show((w.heap.push _).push _)[w.heap.size+1]?=_;rw[Array.getElem?_push,if_pos aev,hrec,<- hps0];rfl)
 rw[<- hE1]at le1 hR1;obtain⟨W1,hW1⟩:∃W1:World,W1={({w with heap:=w.heap.push (.deferred (some []))}:World)with heap:=(w.heap.push (.deferred (some []))).push (.loop rec)}:=⟨_,rfl⟩;rw[<- hW1]at hR1;have hWs:W1.heap.size=w.heap.size+2:=by rw[hW1];simp
 have hWl:W1.heap[w.heap.size+1]?=some (.loop rec):=by rw[hW1];show((w.heap.push _).push _)[w.heap.size+1]?=_;rw[Array.getElem?_push,if_pos aev]
 have hWd:W1.heap[w.heap.size]?=some (.deferred (some [])):=by rw[hW1];show((w.heap.push _).push _)[w.heap.size]?=_;rw[acM aev];simp
 have hcall:=h fn ca cb hca hcb hfx hfy hps W1 ⟨JT E1 (L++[.lrec T N fn ps ca cb false]),S0.B⟩ E1 W1 (.func (.yield (w.heap.size+1)) #[] #[]::lb) (hR1.enter _) ⟨_,lb,rfl,⟨_,hl1,rfl⟩,VRL.mono le1 _ _ hlb⟩;have hnoD:¬JT E1 (L++[.lrec T N fn ps ca cb false]) w.heap.size:=by
  rintro(⟨i,k,c,h1,h2,h3,h4⟩|⟨i,n,sz,t,k,h1,h2,h3,h4⟩);by_cases hi:i=L.length;subst hi;rw[hl1]at h3;cases h3;simp at h4;have hi':i<L.length:=(by have:=(aby.1 h1).1;simp at this;omega);rw[abC hi']at h1;have h3':E.loc i=some c:=(by rw[hE1]at h3;simpa[hi]using h3);obtain⟨c',o,g1,g2⟩:=(hR.blk i k h1).loc h2;rw[h3']at g1;cases g1;rw[h4]at g2;have:=(acl.1 g2).1;omega;have hi':i<L.length:=by rcases ab5 i L.length with h5|h5;exact h5;rw[abN h5]at h1;rcases acP (i-L.length)with h6|h6;rw[h6]at h1;cases h1;rw[acx (by simp;omega)]at h1;cases h1
  rw[abC hi']at h1;have hb:=hR.blk i _ h1;simp only[bf]at hb;obtain⟨t',g1,_,_,g2⟩:=hb;have h2':E.tok i=some t:=(by rw[hE1]at h2;exact h2);rw[h2']at g1;cases g1;obtain⟨cs,ty,fr,g3,_⟩:=g2 k h3;rw[h4]at g3;have:=(acl.1 g3).1;omega
 refine⟨w.heap.size+1,[mkD w.heap.size],W1,{target:=.fn (.func f) ⟨lb⟩,args:=#[.func (.yield (w.heap.size+1)) #[] #[]]},W1,f,#[.func (.yield (w.heap.size+1)) #[] #[]]++⟨lb⟩,W1,?_,?_,λ_ _=>trivial,?_,λe=>(by cases e),?_⟩;have:=run_enterLoop_outer (P:=P) (w:=w) fn a.tmps ps0 ca cb;rw[ha,ha]at this;rw[hW1,hrec];exact this;simp only[resolve,hgv];simp[go_sem];simp[invoke,go_sem,he];rcases hcall with⟨_,hcalls⟩|⟨_,_,_,_,_,hv2,_⟩;refine N2 none _ ?_;have e:(#[Value.func (.yield (w.heap.size+1)) #[] #[]]++(⟨lb⟩:Array Value))=⟨.func (.yield (w.heap.size+1)) #[] #[]::lb⟩:=by apply Array.ext';simp
 rw[e];refine hcalls.mono λen w3 ⟨E3,v,av,L3,e1,le3,⟨hL3,hQ⟩,_,hR3⟩=>?_
 subst e1;have hl3:=le3.loc _ _ hl1;have hB3:=hR3.blk _ _ hL3;simp only[bf,abT,if_false]at hB3;obtain⟨c3,D3,tm3,m1,m2,m3,m4,m5⟩:=hB3;rw[hl3]at m1;cases m1;have hlt3:w.heap.size+1<w3.heap.size:=(acl.1 m2).1;have hR4:=hR3.turn hL3 rfl hl3 (k':=.dead) (w':=w3.putObj (w.heap.size+1) (.loop {state:=.exhausted,pending:=none,fn:=fn,tmps:=tm3,params:=⟨ps⟩,assign:=ca,body:=cb,defers:=D3})) aev (λb hb=>adO hb) rfl rfl rfl trivial (λ_ _ e=>by cases e);have hbs:Bs w0 S0 W1 ⟨JT E1 (L++[.lrec T N fn ps ca cb false]),S0.B⟩:=hR1.bs;refine⟨none,_,run_endLoop m2 aev,W1,⟨JT E1 (L++[.lrec T N fn ps ca cb false]),S0.B⟩,E3,T,_,hbs,le1.trans le3,hQ,hR4,(hT.mono le1).mono le3,hN,?_⟩;have hM:=hMk.bs hbs;refine⟨hM.1,acu.2 ⟨λhm=>?_,hM.2.1⟩,λd hd=>?_⟩;obtain⟨D,g1,_,g2,_⟩:=hMk.2.2 _ hm;have:w.heap.size=D:=by injection g1 with g1 _;injection g1
 have:=hR.size;omega;rcases abY.1 hd with rfl|hd;exact⟨_,rfl,by have:=hMk.1;have:=hR.size;show S0.B<=_;omega,aeu,hnoD,hWd⟩;exact hM.2.2 d hd;rw[he]at hv2;cases hv2
end
variable {L:List Blk}{K:abx}
set_option maxHeartbeats 8000000
set_option maxRecDepth 100000
theorem YU(u:rows.length<=1100000){Inv:Nat->List Blk->Prop}{L:List Blk}{K:abx}(c:∀k L',Inv k L'->L'[j]?=some (.cells [.sl rows rows.length cap])/\L.length<=L'.length)(g:Inv rows.length L)(l:∀k L' (Q:AV->List Blk->Prop),k<rows.length->Inv (k+1) L'->(∀e,Inv k e->Q (.bool true) e)->OL Tryz.prog i [.int .i64 (k:Int),rows.getD k .undef] L' Q)(h:∀L',Inv 0 L'->Fin L (.tup []) L' K):
  abw 160 [.yld i,.ptr j 0] L K:=by
 have w:=(c _ _ g).1;have y:IntKind.i64.wrap ((rows.length:Int)-1)=(rows.length:Int)-1:=af aeu aeu;replace c:=hid c;replace l:=hid l;replace h:=hid h;replace g:=hid g;refine abv iL ?_;refine ar (λn T' L'=>∃(k:Nat) (x:Int),n=k/\k<=rows.length/\Hid (Inv k L')/\x=(k:Int)-1/\T'=[(3,.int .i64 x),(0,.yld i),(1,.ptr j 0)]) (CutS (b:=abA _)) ⟨rows.length,_,rfl,abA _,g,rfl,rfl⟩ ?_;rintro k _ L' ⟨_,x,rfl,r,f,m,rfl⟩;have p:=(c.o _ _ f.o).1;have q:=(c.o _ _ f.o).2;cases k with
 | zero =>
   have d:x=-1:=aeu;subst d;clear m;refine wk ?_;exact⟨.inl rfl,True,[],rfl,trivial,h.o _ f.o⟩
 | succ k =>
   have d:x=(k:Int):=aeu;subst d;clear m;have g1:(0:Int)<=(k:Int):=aeu;have t:IntKind.i64.wrap ((k:Int)-1)=(k:Int)-1:=af aeu aeu;have g3:(k:Int)<(rows.length:Int):=aeu;have g4:k<rows.length:=r;refine wk ?_;rw[Oo];refine l.o k L' _ g4 f.o λe a=>?_
   have v:=(c.o _ _ a).1;have s:=(c.o _ _ a).2;replace a:=hid a;clear f p q;refine aeC ?_;exact aez aeu (CutL (b:=aeu)) ⟨k,_,rfl,aeu,hid a.o,rfl,rfl⟩
theorem YT(u:rows.length<=1100000){Inv:Nat->List Blk->Prop}{L:List Blk}{K:abx}(c:∀k L',Inv k L'->L'[j]?=some (.cells [.sl rows rows.length cap])/\L.length<=L'.length)(g:Inv rows.length L)(l:∀k L' (Q:AV->List Blk->Prop),k<rows.length->Inv (k+1) L'->(∀e,Inv k e->Q (.bool true) e)->OL Tryz.prog i [.int .i64 (k:Int),rows.getD k .undef] L' Q)(h:∀L',Inv 0 L'->Fin L (.tup []) L' K):
  abw 161 [.yld i,.ptr j 0] L K:=by
 have w:=(c _ _ g).1;have y:IntKind.i64.wrap ((rows.length:Int)-1)=(rows.length:Int)-1:=af aeu aeu;replace c:=hid c;replace l:=hid l;replace h:=hid h;replace g:=hid g;refine abv jc ?_;refine ar (λn T' L'=>∃(k:Nat) (x:Int),n=k/\k<=rows.length/\Hid (Inv k L')/\x=(k:Int)-1/\T'=[(3,.int .i64 x),(0,.yld i),(1,.ptr j 0)]) (CutS (b:=abA _)) ⟨rows.length,_,rfl,abA _,g,rfl,rfl⟩ ?_;rintro k _ L' ⟨_,x,rfl,r,f,m,rfl⟩;have p:=(c.o _ _ f.o).1;have q:=(c.o _ _ f.o).2;cases k with
 | zero =>
   have d:x=-1:=aeu;subst d;clear m;refine wk ?_;exact⟨.inl rfl,True,[],rfl,trivial,h.o _ f.o⟩
 | succ k =>
   have d:x=(k:Int):=aeu;subst d;clear m;have g1:(0:Int)<=(k:Int):=aeu;have t:IntKind.i64.wrap ((k:Int)-1)=(k:Int)-1:=af aeu aeu;have g3:(k:Int)<(rows.length:Int):=aeu;have g4:k<rows.length:=r;refine wk ?_;rw[Oo];refine l.o k L' _ g4 f.o λe a=>?_
   have v:=(c.o _ _ a).1;have s:=(c.o _ _ a).2;replace a:=hid a;clear f p q;refine aeC ?_;exact aez aeu (CutL (b:=aeu)) ⟨k,_,rfl,aeu,hid a.o,rfl,rfl⟩
theorem aa1(h:K (.func 160 [.ptr L.length 0]) (L++[.cells [.sl rows n cap]])):
  abw 128 [.sl rows n cap] L K:=by
 replace h:=hid h;refine abv jr ?_;exact ag h.o
theorem aa0(h:K (.func 161 [.ptr L.length 0]) (L++[.cells [.sl rows n cap]])):
  abw 131 [.sl rows n cap] L K:=by
 replace h:=hid h;refine abv jI ?_;exact ag h.o
theorem OkD.one(h:OkD d){r:Rdn}(hr:r∈d):OkD [r]:=by obtain⟨a,b,rfl⟩:=List.append_of_mem hr;have f:OkD (r::b):=OkD.app h;rw[Ju]at f⊢;obtain⟨k,i,c,h4⟩:=f;refine⟨aev,λx j=>i x (by rw[abV.1 j];simp),?_,aca ?_ h4⟩;unfold JA at c⊢;rw[List.any_cons,adD]at c;rw[List.any_cons,c.1];rfl;have e:=m7 ([r].map (cC false)) 44;have g:=m7 ((r::b).map (cC false)) 44;rw[if_neg aev]at e g;simp only[abO,acw,adC,List.sum_nil,abU,ack]at e g;unfold aN;simp only[abO,acw];omega
theorem ZR(hd:OkD d)(h:K (.sl (ax (NK d).reverse) d.length none) L):
  abw 94 [.sl (d.map aJ) d.length cap] L K:=by
 have H:=hd.len;replace h:=hid h;have kk1:Hid (∀{L:List Blk}{K:abx},K (.func 160 [.ptr L.length 0]) (L++[.cells [.sl (d.map aJ) d.length cap]])->abw 128 [.sl (d.map aJ) d.length cap] L K):=@hid _ (by intro L K q;exact aa1 q);refine abv N4 ?_;have R:∀(a b c x y:Blk) (Z:List Blk),(L++([a,b,c]++Z))[(L++[x,y]).length]?=some c:=λa b c x y Z=>by rw[abN aev];simp
 have p:(d.map aJ).length=d.length:=abM _;refine Kz (f:=160) (caps:=[.ptr (L.length+1) 0]) (λargs w=>rfl) rfl (λfn ca cb F A E D B=>?_);refine YU (rows:=d.map aJ) (cap:=cap) (Inv:=λk L'=>∃(v:AV) (Z:List Blk),L'=L++([.cells [v],.cells [.sl (d.map aJ) d.length cap],.lrec [(9,.func 160 [.ptr (L.length+1) 0]),(3,.ptr L.length 0),(2,.sl [] 0 (some 0)),(0,.sl (d.map aJ) d.length cap)] 23 fn [10,11] ca cb false]++Z)/\((k=d.length/\v=.sl [] 0 (some 0))\/∃m,v=.lsl (L.length+3+m) 0 (d.length-k) none 1/\Z[m]?=some (.cells (ax ((NK d).reverse.take (d.length-k)))))) aeu ?_ ?_ ?_ ?_;rintro k L' ⟨v,Z,rfl,_⟩;refine⟨?_,aev⟩;rw[p,abN aeu];simp;exact⟨.sl [] 0 (some 0),[],aev,.inl ⟨p,rfl⟩⟩;rintro k L' Q P ⟨v,Z,rfl,S⟩ O;rw[p]at P;obtain⟨r,hr⟩:=abr (d.getD k []);have V:(d.map aJ).getD k .undef=.sl (bU r) r.length none:=by rw[G9 P,hr]
 have M:r∈d:=by rw[<- hr];simp[P]
 have t:=hd.one M;have n:(NK d).reverse.take (d.length-k)=(NK d).reverse.take (d.length-(k+1))++[cC true r]:=by rw[show d.length-k=d.length-(k+1)+1 by omega,ab6 (by rw[acL,bu];omega)];congr 2;rw[List.getElem_reverse];simp only[NK,List.getElem_map,abM];congr 1;rw[<- hr];simp only[abR];rw[ab0 P];simp only[acQ];congr 1;omega
 obtain⟨s,T⟩:=abr (cC true r);rw[T]at n;have kk2:Hid (∀{c:Option Nat}{L:List Blk}{K:abx},K (.tup [.str s,.int .i64 0]) L->abw 61 [.sl [.sl (bU r) r.length none] 1 c] L K):=@hid _ (by intro c L K q;refine J7 (d:=[r]) t.m.b.1 t.m.b.2 ?_;rw[pY t,show aN true [r]=s from by simp[aN,Lib.join,T]];exact q)
 rw[V];refine Qf (R _ _ _ _ _ _) F A E D rfl B ?_;simp only[G2];replace O:=hid O;replace n:=hid n;clear hr M t T V F A E D B kk1 R h;have e:∀(a b c c':Blk) (Z:List Blk),(L++a::b::c::Z).set (L.length+2) c'=L++([a,b,c']++Z):=λa b c c' Z=>by rw[ach _ _ aeu,show L.length+2-L.length=2 by omega];rfl
 have g:∀(a b c:Blk) (Z:List Blk),(L++a::b::c::Z)[L.length+2]?=some c:=λa b c Z=>by rw[abN aeu,show L.length+2-L.length=2 by omega];rfl
 replace e:=hid e;replace g:=hid g;rcases S with⟨W,rfl⟩|⟨m,rfl,z⟩;refine wk ?_;refine⟨rfl,g.o _ _ _ _,?_⟩;rw[e.o];refine O.o _ ⟨_,Z++[.cells [.str s]],rfl,.inr ⟨Z.length,?_,?_⟩⟩;rw[show d.length-k=1 by omega,show L.length+(Z.length+1+1+1)=L.length+3+Z.length by omega];rw[n.o,show d.length-(k+1)=0 by omega];simp;obtain⟨j,hj⟩:=abr (d.length-(k+1));obtain⟨C,u⟩:=abr (ax ((NK d).reverse.take (d.length-(k+1))));have N:C.length=j:=by rw[<- u,abM,acv,acL,bu];omega
 have X:List.take j C=C:=ab7 aeu;rw[u]at z;rw[hj];have hm:m<Z.length:=(aby.1 z).1;have I:∀(a b c:Blk),(L++a::b::c::Z)[L.length+3+m]?=some (.cells C):=λa b c=>by rw[abN aeu,show L.length+3+m-L.length=m+1+1+1 by omega];simpa using z
 have ab:j<=32:=aeu;have Y:∀(a b c:Blk),(L++a::b::c::Z).set (L.length+3+m) .dead=L++a::b::c::Z.set m .dead:=λa b c=>by rw[ach _ _ aeu,show L.length+3+m-L.length=m+1+1+1 by omega];rfl
 refine wk ?_;refine⟨rfl,g.o _ _ _ _,?_⟩;rw[e.o];refine O.o _ ⟨_,Z.set m .dead++[.cells (C++[.str s])],rfl,.inr ⟨Z.length,?_,?_⟩⟩;rw[show d.length-k=j+1 by omega,show L.length+(Z.length+1+1+1)=L.length+3+Z.length by omega];rw[n.o,<- u,abN aev];simp;have J:∀(a b c c' x y:Blk) (Z:List Blk),(L++([a,b,c]++Z)).set (L++[x,y]).length c'=L++a::b::c'::Z:=λa b c c' x y Z=>by rw[ach _ _ aev,show(L++[x,y]).length-L.length=2 by simp];rfl
 rintro L' ⟨v,Z,rfl,S⟩;refine ag ⟨R _ _ _ _ _ _,?_⟩;rw[J];clear J R F A E D B kk1;rcases S with⟨U,rfl⟩|⟨m,rfl,z⟩;have G:d=[]:=acm.1 U.symm;subst G;clear U H p hd;refine wk ?_;refine aB ?_;rw[show(AV.sl [] 0 (some 0)).frz=.sl (ax (NK []).reverse) ([]:List Rdn).length none from rfl];exact ae rfl h.o;rw[adz,ab7 (by rw[acL,bu];omega)]at z;rw[adz];obtain⟨C,u⟩:=abr (ax (NK d).reverse);have N:C.length=d.length:=by rw[<- u,abM,acL,bu]
 rw[u]at z h;have I:∀(a b c:Blk),(L++a::b::c::Z)[L.length+3+m]?=some (.cells C):=λa b c=>by rw[abN aeu,show L.length+3+m-L.length=m+1+1+1 by omega];simpa using z
 refine wk ?_;refine EG (i:=L.length+3+m) (l:=C) (I _ _ _) ?_;rw[show(AV.lsl (L.length+3+m) 0 d.length none 1).snap (L.length+3+m) C=.sl C d.length none from by simp[AV.snap,<- N],ach _ _ aeu];exact ae (by rw[<- u];simp only[AV.refs];exact jM _ _) h.o
theorem aaZ(O:rows.length<=1100000){Inv:Nat->List Blk->List Blk->Prop}{L:List Blk}{K:abx}(m:∀k A Z,Inv k A Z->A.length=L.length/\A[j]?=some (.cells [.sl rows rows.length cap]))(B:Inv rows.length L [])(J:∀k A Z X (Q:AV->List Blk->Prop),k<rows.length->X.length=3->Inv (k+1) A Z->(∀v D,Inv k v D->Q (.bool true) (v++(X++D)))->OL Tryz.prog i [rows.getD k .undef] (A++(X++Z)) Q)(G:∀A Z,Inv 0 A Z->∀X,X.length=3->Fin L (.tup []) (A++(X++Z)) K):
  abw 130 [.yld i,.ptr j 0] L K:=by
 have M:=(m _ _ _ B).2;have E:j<L.length:=(aby.1 M).1;have H:∀x:Blk,(L++[x])[j]?=some (.cells [.sl rows rows.length cap]):=λx=>by rw[abC E];exact M
 have kk1:Hid (∀{L:List Blk}{K:abx},K (.func 161 [.ptr L.length 0]) (L++[.cells [.sl rows rows.length cap]])->abw 131 [.sl rows rows.length cap] L K):=@hid _ (by intro L K q;exact aa0 q);replace m:=hid m;replace B:=hid B;replace J:=hid J;replace G:=hid G;refine abv Ev ?_;refine Kz (f:=161) (caps:=[.ptr (L.length+1) 0]) (λargs w=>rfl) rfl (λfn ca cb u n s r p=>?_);have C:∀(A:List Blk) (d:A.length=L.length) (a b c x y:Blk) (Z:List Blk),(A++([a,b,c]++Z))[(L++[x,y]).length]?=some c:=λA d a b c x y Z=>by rw[abN (by simp[d])];simp[d]
 have t:∀(A:List Blk) (d:A.length=L.length) (a b c c' x y:Blk) (Z:List Blk),(A++([a,b,c]++Z)).set (L++[x,y]).length c'=A++([a,b,c']++Z):=λA d a b c c' x y Z=>by rw[ach _ _ (by simp[d]),show(L++[x,y]).length-A.length=2 by simp[d]];rfl
 refine YT (rows:=rows) (cap:=cap) O (Inv:=λk L'=>∃A Z,L'=A++([.cells [.yld i],.cells [.sl rows rows.length cap],.lrec [(6,.func 161 [.ptr (L.length+1) 0]),(2,.ptr L.length 0),(0,.yld i),(1,.ptr j 0)] 13 fn [7,8] ca cb false]++Z)/\Inv k A Z) ?_ ?_ ?_ ?_;rintro k L' ⟨A,Z,rfl,h⟩;have d:=(m.o _ _ _ h).1;refine⟨?_,by simp[d]⟩;rw[abN aeu,d];simp;exact⟨L,[],aev,B.o⟩;rintro k L' Q N ⟨A,Z,rfl,h⟩ F;have d:=(m.o _ _ _ h).1;refine Qf (C A d _ _ _ _ _ _) u n s r rfl p ?_;simp only[G2];replace F:=hid F;replace h:=hid h;have e:∀(A:List Blk) (d:A.length=L.length) (a b c c':Blk) (Z:List Blk),(A++a::b::c::Z).set (L.length+2) c'=A++a::b::c'::Z:=λA d a b c c' Z=>by rw[ach _ _ aeu,show L.length+2-A.length=2 by omega];rfl
 have g:∀(A:List Blk) (d:A.length=L.length) (a b c:Blk) (Z:List Blk),(A++a::b::c::Z)[L.length+2]?=some c:=λA d a b c Z=>by rw[abN aeu,show L.length+2-A.length=2 by omega];rfl
 have I:∀(a:Blk) (Z:List Blk),(A++a::Z)[L.length]?=some a:=λa Z=>by rw[abN aeu,show L.length-A.length=0 by omega];rfl
 replace e:=hid e;replace g:=hid g;clear u n s r p kk1 C t M H;refine wk ?_;refine⟨g.o _ d _ _ _ _,?_⟩;rw[e.o _ d];refine wk ?_;rw[Oo];refine J.o k A Z [.cells [.yld i],.cells [.sl rows rows.length cap],.lrec [(6,.func 161 [.ptr (L.length+1) 0]),(2,.ptr L.length 0),(0,.yld i),(1,.ptr j 0)] 13 fn [7,8] ca cb true] _ N rfl h.o λv D l=>?_
 have z:=(m.o _ _ _ l).1;have P:∀(a:Blk) (Z:List Blk),(v++a::Z)[L.length]?=some a:=λa Z=>by rw[abN aeu,show L.length-v.length=0 by omega];rfl
 replace l:=hid l;clear I h d;refine aeC ?_;refine⟨rfl,g.o _ z _ _ _ _,?_⟩;rw[e.o _ z];exact F.o _ ⟨v,D,rfl,l.o⟩;rintro L' ⟨A,Z,rfl,h⟩;have d:=(m.o _ _ _ h).1;refine ag ⟨C A d _ _ _ _ _ _,?_⟩;rw[t A d];clear C t u n s r p kk1;exact⟨.inl rfl,True,[],rfl,trivial,G.o A Z h _ rfl⟩
theorem Qt{k:Nat}(a:k<p.length):p.reverse.take (p.length-k)=p.reverse.take (p.length-(k+1))++[p.getD k []]:=by rw[show p.length-k=p.length-(k+1)+1 by omega,ab6 (by rw[acL];omega)];congr 2;rw[List.getElem_reverse];simp only[abR];rw[ab0 a];simp only[acQ];congr 1;omega
theorem aa4(hn:p.length<=1000){L:List Blk}(N:L[j]?=some (.cells [.sl (ax p) p.length cap])){K:abx}(h:K (.sl (ax p.reverse) p.length none) L):
  abw 129 [.sl [] 0 (some 0),.func 130 [.ptr j 0]] L K:=by
 replace h:=hid h;have O:j<L.length:=(aby.1 N).1;refine abv jt ?_;refine Kz (f:=130) (caps:=[.ptr j 0]) (λargs w=>rfl) rfl (λfn ca cb D u B z y=>?_);have J:∀(a c x:Blk) (Z:List Blk),(L++[a,c]++Z)[(L++[x]).length]?=some c:=λa c x Z=>by rw[abK,abN aev];simp
 refine aaZ (rows:=ax p) (cap:=cap) (by simp;omega) (Inv:=λk A Z=>∃v:AV,A=L++[.cells [v],.lrec [(6,.func 130 [.ptr j 0]),(4,.sl [] 0 (some 0)),(2,.ptr L.length 0),(0,.sl [] 0 (some 0)),(1,.func 130 [.ptr j 0])] 13 fn [7] ca cb false]/\((k=p.length/\v=.sl [] 0 (some 0))\/∃m,v=.lsl (L.length+5+m) 0 (p.length-k) none 1/\Z[m]?=some (.cells (ax (p.reverse.take (p.length-k)))))) ?_ ?_ ?_ ?_;rintro k A Z ⟨v,rfl,_⟩;refine⟨aev,?_⟩;rw[abC O];simpa using N;exact⟨_,aev,.inl ⟨aev,rfl⟩⟩;rintro k A Z X Q P M ⟨v,rfl,R⟩ I;rw[abM]at P;obtain⟨x0,Y,x2,rfl⟩:∃a b c,X=[a,b,c]:=by
  match X,M with
  |[a,b,c],_=>exact⟨a,b,c,rfl⟩
 obtain⟨s,S⟩:=abr (p.getD k []);have U:(ax p).getD k .undef=.str s:=by rw[<- S];simp[P]
 have q:=Qt P;rw[S]at q;rw[U];refine Qf (J _ _ _ _) D u B z rfl y ?_;simp only[G2];replace I:=hid I;replace q:=hid q;clear S U D u B z y J h N;have g:∀(a c c':Blk) (Z:List Blk),(L++a::c::Z).set (L.length+1) c'=L++([a,c']++Z):=λa c c' Z=>by rw[ach _ _ aeu,show L.length+1-L.length=1 by omega];rfl
 have n:∀(a c:Blk) (Z:List Blk),(L++a::c::Z)[L.length+1]?=some c:=λa c Z=>by rw[abN aeu,show L.length+1-L.length=1 by omega];rfl
 replace g:=hid g;replace n:=hid n;rcases R with⟨V,rfl⟩|⟨m,rfl,t⟩;refine wk ?_;refine⟨rfl,n.o _ _ _,?_⟩;rw[g.o];have:=I.o _ (Z++[.cells [.str s]]) ⟨_,rfl,.inr ⟨Z.length,rfl,by rw[q.o,show p.length-(k+1)=0 by omega];simp⟩⟩;rw[show L.length+(Z.length+1+1+1+1+1)=L.length+5+Z.length by omega];rw[show p.length-k=1 by omega]at this;rw[abK]at this;exact this;obtain⟨d,hd⟩:=abr (p.length-(k+1));obtain⟨C,r⟩:=abr (ax (p.reverse.take (p.length-(k+1))));have H:C.length=d:=by rw[<- r,abM,acv,acL];omega
 have W:List.take d C=C:=ab7 aeu;rw[r]at t;rw[hd];have hm:m<Z.length:=(aby.1 t).1;have F:∀(a b c e f:Blk),(L++a::b::c::e::f::Z)[L.length+5+m]?=some (.cells C):=λa b c e f=>by rw[abN aeu,show L.length+5+m-L.length=m+1+1+1+1+1 by omega];simpa using t
 have ad:d<=1000:=aeu;have ab:∀(a b c e f:Blk),(L++a::b::c::e::f::Z).set (L.length+5+m) .dead=L++a::b::c::e::f::Z.set m .dead:=λa b c e f=>by rw[ach _ _ aeu,show L.length+5+m-L.length=m+1+1+1+1+1 by omega];rfl
 refine wk ?_;refine⟨rfl,n.o _ _ _,?_⟩;rw[g.o];have:=I.o _ (Z.set m .dead++[.cells (C++[.str s])]) ⟨_,rfl,.inr ⟨Z.length,rfl,by rw[q.o,<- r,abN aev];simp⟩⟩;rw[show L.length+(Z.length+1+1+1+1+1)=L.length+5+Z.length by omega];rw[show p.length-k=d+1 by omega]at this;rw[abK]at this;exact this;rintro A Z ⟨v,rfl,R⟩ X M;obtain⟨x0,Y,x2,rfl⟩:∃a b c,X=[a,b,c]:=by
  match X,M with
  |[a,b,c],_=>exact⟨a,b,c,rfl⟩
 have G:∀(a c c' x:Blk) (Z:List Blk),(L++[a,c]++Z).set (L++[x]).length c'=L++a::c'::Z:=λa c c' x Z=>by rw[abK,ach _ _ aev,show(L++[x]).length-L.length=1 by simp];rfl
 refine ag ⟨J _ _ _ _,?_⟩;rw[G];clear G J D u B z y M N;rcases R with⟨T,rfl⟩|⟨m,rfl,t⟩;have E:p=[]:=acm.1 T.symm;subst E;clear T hn;refine wk ?_;refine aB ?_;rw[show(AV.sl [] 0 (some 0)).frz=.sl (ax ([]:Pth).reverse) ([]:Pth).length none from rfl];exact ae rfl h.o;rw[adz,ab7 (by rw[acL];omega)]at t;rw[adz];obtain⟨C,r⟩:=abr (ax p.reverse);have H:C.length=p.length:=by rw[<- r,abM,acL]
 rw[r]at t h;have F:∀(a b c e f:Blk),(L++a::b::c::e::f::Z)[L.length+5+m]?=some (.cells C):=λa b c e f=>by rw[abN aeu,show L.length+5+m-L.length=m+1+1+1+1+1 by omega];simpa using t
 refine wk ?_;refine EG (i:=L.length+5+m) (l:=C) (F _ _ _ _ _) ?_;rw[show(AV.lsl (L.length+5+m) 0 p.length none 1).snap (L.length+5+m) C=.sl C p.length none from by simp[AV.snap,<- H],ach _ _ aeu];exact ae (by rw[<- r];simp only[AV.refs];exact jM _ _) h.o
theorem aac(b:p.length<=1000){L:List Blk}(a:L[j]?=some (.cells [.sl (ax p) p.length cap])){K:abx}(h:K (.sl (ax p.reverse) p.length none) L):
  abw 96 [.func 130 [.ptr j 0]] L K:=by
 have kk1:Hid (∀{K:abx},K (.sl (ax p.reverse) p.length none) L->abw 129 [.sl [] 0 (some 0),.func 130 [.ptr j 0]] L K):=@hid _ (by intro K q;exact aa4 b a q);replace h:=hid h;refine abv rX ?_;exact ag h.o
theorem aaY(h:K (.func 130 [.ptr L.length 0]) (L++[.cells [.sl rows n cap]])):
  abw 97 [.sl rows n cap] L K:=by
 replace h:=hid h;refine abv Hm ?_;exact ag h.o
theorem Yv(hd:OkD d)(h:K (.str (aN true d)) L):
  abw 95 [.sl (ax (NK d)) d.length cap,.str [44]] L K:=by
 obtain⟨i,b⟩:=PC hd;have c:∀r∈d,(cC true r).length<=200000:=λr hr=>HP (b r hr).1 (λa g=>((b r hr).2 a g).1) (λa g=>((b r hr).2 a g).2)
 have f:=HI aeu c;have e:aN true d=Lib.join (NK d) [44]:=rfl;rw[e]at h f;rw[show d.length=(NK d).length from(bu d).symm];exact JE (by rw[bu];omega) aeu h
theorem VH{L:List Blk}{it iv mn mi nb:Nat}{s lst a0 k a3:AV}{es:List (AV×AV×Nat)}{rs:List TKy}{ck ci O:Nat}{l1:List AV}{T:Option Nat}(hd:OkD d)(i:L[it]?=some (.cells [.ptr iv 0]))(f:L[iv]?=some (.cells [s,.lmap mn,.lmap mi,lst]))(v:L[mn]?=some (.map es ck))(P:bF (.int .i64 id) es 0=some (some (j,.ptr nb 0)))(a:L[nb]?=some (.cells [a0,.sl l1 O T,k,a3]))(g:L[mi]?=some (.map (rs.map kyA) ci))(I:bF (.str (aN true d)) (rs.map kyA) 0=some none){K:abx}(h:K (.tup []) ((L.set nb (.cells [dnA d,.sl (ax (NK d).reverse) d.length none,k,a3])).set mi (.map ((rs++[(aN true d,id,ci)]).map kyA) (ci+1))++[.cells [.sl (ax (NK d).reverse) d.length none]])):
  abw 69 [.ptr it 0,.int .i64 id,.sl (d.map aJ) d.length cap] L K:=by
 have N:aT .int (.int .i64 id)=true:=rfl;have F:=hd.len;have x:nb≠iv:=λe=>by rw[e,f]at a;simp at a
 have y:nb≠it:=λe=>by rw[e,i]at a;simp at a
 have R:nb≠mn:=λe=>by rw[e,v]at a;simp at a
 have A:nb≠mi:=λe=>by rw[e,g]at a;simp at a
 have w:nb<L.length:=(aby.1 a).1;have D:∀b,(L.set nb b)[it]?=some (.cells [.ptr iv 0]):=λb=>by rw[abE y];exact i
 have C:∀b,(L.set nb b)[iv]?=some (.cells [s,.lmap mn,.lmap mi,lst]):=λb=>by rw[abE x];exact f
 have B:∀b,(L.set nb b)[mi]?=some (.map (rs.map kyA) ci):=λb=>by rw[abE A];exact g
 have W:∀b,(L.set nb b)[nb]?=some b:=λb=>by simp[w]
 have V:∀b c,(L.set nb b).set nb c=L.set nb c:=λb c=>adE ..
 have kk1:Hid (∀{L:List Blk}{c:Option Nat}{K:abx},K (dnA d) L->abw 50 [.sl (d.map aJ) d.length cap,.sl [] 0 c] L K):=@hid _ (by intro L c K q;exact Ki hd.m.b.1 hd.m.b.2 q);have kk2:Hid (Ctr Tryz.prog 94 [.sl (d.map aJ) d.length cap] (.sl (ax (NK d).reverse) d.length none)):=@hid _ (by intro L K q;exact ZR hd q);replace h:=hid h;refine abv Ho ?_;have E:iv<L.length:=(aby.1 f).1;have z:it<L.length:=(aby.1 i).1;have r:mi<L.length:=(aby.1 g).1;have Q:∀b X,(L.set nb b++[X])[it]?=some (.cells [.ptr iv 0]):=λb X=>by rw[abC (by simpa using z)];exact D b
 have U:∀b X,(L.set nb b++[X])[iv]?=some (.cells [s,.lmap mn,.lmap mi,lst]):=λb X=>by rw[abC (by simpa using E)];exact C b
 have S:∀b X,(L.set nb b++[X])[mi]?=some (.map (rs.map kyA) ci):=λb X=>by rw[abC (by simpa using r)];exact B b
 have J:∀b X Y,(L.set nb b++[X]).set mi Y=(L.set nb b).set mi Y++[X]:=λb X Y=>by rw[adk _ _ (by simpa using r)]
 have kk3:Hid (∀{K:abx},K (.sl (ax (NK d)) d.length none) ((L.set nb (.cells [dnA d,.sl (ax (NK d).reverse) d.length none,k,a3]))++[.cells [.sl (ax (NK d).reverse) d.length none]])->abw 96 [.func 130 [.ptr (L.set nb (.cells [dnA d,.sl (ax (NK d).reverse) d.length none,k,a3])).length 0]] ((L.set nb (.cells [dnA d,.sl (ax (NK d).reverse) d.length none,k,a3]))++[.cells [.sl (ax (NK d).reverse) d.length none]]) K):=@hid _ (by intro K q;have G:(NK d).reverse.length=d.length:=(by rw[acL,bu]);have:=aac (p:=(NK d).reverse) (cap:=none) (j:=(L.set nb (.cells [dnA d,.sl (ax (NK d).reverse) d.length none,k,a3])).length) (L:=(L.set nb (.cells [dnA d,.sl (ax (NK d).reverse) d.length none,k,a3]))++[.cells [.sl (ax (NK d).reverse) d.length none]]) aeu (by rw[abN (abA _),G];simp) (K:=K);rw[List.reverse_reverse,G]at this;exact this q)
 have kk4:Hid (Ctr Tryz.prog 95 [.sl (ax (NK d)) d.length none,.str [44]] (.str (aN true d))):=@hid _ (by intro L K q;exact Yv hd q);have n:aT .str (.str (aN true d))=true:=rfl;obtain⟨H,l⟩:=abr (aN true d);rw[l]at kk4 I n h;obtain⟨M,u⟩:=abr (ax (NK d).reverse);rw[u]at kk3 h⊢;have t:(rs++[(H,id,ci)]).map kyA=rs.map kyA++[(.str H,.int .i64 id,ci)]:=by rw[abS];rfl
 rw[t]at h;clear kk1 kk2 i f v P a g l u t;refine⟨_,_,(show abw 97 [.sl M d.length none] _ _ from aaY ⟨rfl,rfl⟩),?_⟩;refine aeC ?_;exact⟨.inl rfl,True,[],rfl,trivial,ag h.o⟩
end Go.Proofs.YtajkbcmleihaoaaGreatDoor.Av
