/- Joined texts of the walk, made small by a program. -/
import Derived.Test.YtajkbcmleihaoaaGreatDoorWk4
import Derived.Test.YtajkbcmleihaoaaGreatDoorRows
import Derived.KernelRfl
import Derived.Test.YtajkbcmleihaoaaGreatDoorWk5
import Derived.Shelf.Strings.Builder1
import Derived.Shelf.Strings.Builder2
import Derived.Shelf.Strings.OnBuilder
import Derived.Shelf.Strings.Trim
import Derived.Shelf.Small.Utf8
import Derived.Shelf.Small.Bits
import Derived.Shelf.Small.Strs
import Derived.Shelf.Strings.BuilderF
import Derived.Shelf.Strings.BuilderK
import Derived.Shelf.Strings.Builder2Cap
import Derived.Shelf.Strconv.Itoa0
import Derived.Shelf.Strings.Search1
import Derived.Shelf.Strings.Search2
import Derived.Shelf.Strings.Cut
import Derived.Shelf.LaysM
import Derived.Shelf.Strings.Shaped
import Derived.Shelf.Sort.Plain
import Derived.Shelf.Strings.Prefix
import Derived.Shelf.Strings.Runes
import Derived.Shelf.Strings.AsciiSet
import Derived.Shelf.Bits.Mul64
import Derived.Shelf.Strings.Repeat
import Derived.Shelf.Unicode.DecodeSlow
import Derived.Shelf.Unicode.DecodeAny
import Derived.Shelf.Unicode.DecodeLast
import Derived.Shelf.Strings.BuilderCap
import Derived.Shelf.Slices.Equal
import Derived.Ground.Names2Prog
import Derived.Shelf.Slices.Clone
import Derived.Shelf.Slices.In.SortNone
import Derived.Shelf.Slices.Empties2
import Derived.Ground.SlsfProg
import Derived.Shelf.SlSortCmp.Insertion
import Derived.Shelf.SlSortCmp.SiftDown1
import Derived.Shelf.SlSortCmp.HeapSort1
import Derived.Shelf.SlSortCmp.Insertion1
import Derived.Shelf.SlSortCmp.Median1
import Derived.Shelf.SlSortCmp.Pivot1
import Derived.Shelf.SlSortCmp.ReverseRange1
import Derived.Shelf.SlSortCmp.PartialInsertion1
import Derived.Shelf.SlSortCmp.PartitionEqual1
import Derived.Shelf.SlSortCmp.Partition1
import Derived.Shelf.SlSortCmp.Pdq1
import Derived.Shelf.SlSortCmp.Whole1
import Derived.Test.YtajkbcmleihaoaaGreatDoorProg
set_option linter.unusedSimpArgs false
set_option linter.unusedVariables false
set_option maxRecDepth 100000
namespace Go.Proofs.YtajkbcmleihaoaaGreatDoor.Av
open Go
def E9:LSO:=[Al 4]
def E8:LSO:=[Aa 6 0,Af 7 6,Aa 8 1,Af 9 8,AT 10 7 9]
def E7:LSO:=[Al 4]
def E6:LSO:=[Aa 11 0,Af 12 11,Ab 13 0]
def E5:LSO:=[Ap 14 13 12]
def EZ:LSO:=[Aa 15 13,Aa 5 15]
def EY:LSO:=[Aa 16 0,Aa 17 5,Ak 18 3 16 17,Ad 19 1 18,Ac 20 1 19,Aa 21 1,Aa 22 5,Ak 23 3 21 22,Ad 24 1 23,Ac 25 1 24,Ax 26 46 20 25,A6 27 26,Aa 28 27,
 .grp none 28 false
 [Ah 29 28 0,Ah 30 28 5,Bx 31 28 3 29 30,A7 32 28 2 31,A4 33 28 1 32,Ah 34 28 1,Ah 35 28 5,Bx 36 28 3 34 35,A7 37 28 2 36,A4 38 28 1 37,Cb 39 28 47 33 38,Bo 40 28 39]
 41 (tm 40)]
def EX:LSO:=[Al 4]
def EW:LSO:=[Aj 42 13 1,Aa 13 42]
def EV:LSO:=[AA 4]
def yX:aI:=⟨43,(ag6 E9 [] (.seq (ag6 E8 Cf (ag8 10 (.sreg E7 []))) (.seq (ag6 E6 Ci (ag9 0 (ag6 E5 [] (.seq (aha 14 0) (.seq (.block 1 (ag6 EZ Cc (.seq (.sdreg EY [.pure,.pure,(.read 0 0),.pure,(.read 0 0),.pure,.pure,(.read 0 0),.pure,(.read 0 0),(.read 0 0),.pure,.pure,.pure,.pure,(.read 0 0),.pure,(.read 0 0),.pure,.pure,(.read 0 0),.pure,(.read 0 0)] CK) (ag8 41 (.sreg EX []))))) (.sreg EW Cc)))))) (ag6 EV [] .ret)))),[(.tmp 4)]⟩
attribute [push_cast] E9 E8 E7 E6 E5 EZ EY EX EW EV
theorem Ox:ahb 16=ahc yX:=ahf
attribute [push_cast] yX
set_option maxHeartbeats 8000000
set_option maxRecDepth 100000
abbrev Atr:=List UInt8×List (List UInt8)
theorem jI(p:Nat->Bool)(xs:List (List UInt8)):AV.refsL p (xs.map AV.str)=true:=AV.refsL_iff.2 λa b=>by obtain⟨x,_,rfl⟩:=ael.1 b;rfl
theorem YZ(xs:List (List UInt8)):(xs.map AV.str).all AV.one=true:=by rw[aev];intro a b;obtain⟨x,_,rfl⟩:=ael.1 b;rfl
abbrev atA(a:Atr):List AV:=[.str a.1,.sl (a.2.map AV.str) a.2.length none]
def bh(l:List Atr):List AV:=l.flatMap atA
theorem GT(a:Atr)(l:List Atr):bh (a::l)=.str a.1 :: .sl (a.2.map AV.str) a.2.length none::bh l:=rfl
theorem Qp(l m:List Atr):bh (l++m)=bh l++bh m:=by simp[bh]
theorem Gy(l:List Atr):(bh l).length=l.length*2:=by
 induction l with
 |nil=>rfl
 |cons a l ih=>rw[GT];simp only[aeB];omega
theorem qD(p:Nat->Bool):∀l:List Atr,AV.refsL p (bh l)=true
 |[]=>rfl
 |a::l=>by rw[GT];simp[AV.refsL,AV.refs,jI,qD p l]
theorem ji(l:List (List UInt8)):AV.frzL (l.map AV.str)=l.map AV.str:=by rw[AV.frzL_eq,aeH];rfl
theorem nB:∀l:List Atr,AV.frzL (bh l)=bh l
 |[]=>rfl
 |a::l=>by rw[GT];simp only[AV.frzL,AV.frz,ji,nB l]
theorem zd:∀{l:List Atr}{k:Nat},k<l.length->((bh l).drop (k*2)).take 2=atA (l.getD k ([],[]))
 |a::l,0,_=>rfl
 |a::l,k+1,h=>by have b:=@zd l k (by simpa using h);rw[show(k+1)*2=k*2+1+1 by omega,GT];simp[*]
abbrev aaW(l:List (List UInt8)):AV:=.sl (l.map AV.str) l.length none
theorem Z2{l:List Atr}{k:Nat}(a:k<l.length):(bh l).getD (k*2+1) .undef=aaW (l.getD k ([],[])).2:=by have b:=congrArg (λl=>l[1]?) (zd a);simp_all
end Go.Proofs.YtajkbcmleihaoaaGreatDoor.Av
set_option maxRecDepth 100000
namespace Go.Proofs.YtajkbcmleihaoaaGreatDoor.Av
open Go
def Fj:LSO:=[Al 4]
def Fi:LSO:=[Aa 7 0,Af 8 7,Aa 9 1,Af 10 9,AT 11 8 10]
def Fh:LSO:=[Al 4]
def Fg:LSO:=[Aa 12 0,Af 13 12,Ab 14 0]
def Ff:LSO:=[Ap 15 14 13]
def Fe:LSO:=[Aa 16 14,Aa 5 16]
def Fd:LSO:=[Aa 17 0,Aa 18 5,Ak 19 2 17 18,Ad 20 0 19,Ac 21 1 20,Aa 22 1,Aa 23 5,Ak 24 2 22 23,Ad 25 0 24,Ac 26 1 25,AT 27 21 26,Aa 28 27,.grp none 28 false
 [Ah 29 28 0,Ah 30 28 5,Bx 31 28 2 29 30,A7 32 28 1 31,A4 33 28 1 32,AI 34 28 33,Ah 35 28 1,Ah 36 28 5,Bx 37 28 2 35 36,A7 38 28 1 37,A4 39 28 1 38,AI 40 28 39,Bu 41 28 34 40]
 42 (tm 41)]
def Fc:LSO:=[Al 4]
def Fb:LSO:=[Aa 43 0,Aa 44 5,Ak 45 2 43 44,Ad 46 1 45,Ac 47 1 46,Af 48 47,Ab 49 0]
def Fa:LSO:=[Ap 50 49 48]
def zA:LSO:=[Aa 51 49,Aa 6 51]
def zy:LSO:=[Aa 52 0,Aa 53 5,Ak 54 2 52 53,Ad 55 1 54,Ac 56 1 55,Aa 57 6,Ak 58 1 56 57,Ac 59 1 58,Aa 60 1,Aa 61 5,Ak 62 2 60 61,Ad 63 1 62,Ac 64 1 63,Aa 65 6,
 Ak 66 1 64 65,Ac 67 1 66,AT 68 59 67]
def zx:LSO:=[Al 4]
def zw:LSO:=[Aj 69 49 1,Aa 49 69]
def zu:LSO:=[Aj 70 14 1,Aa 14 70]
def zt:LSO:=[AA 4]
def yY:aI:=⟨71,(ag6 Fj [] (.seq (ag6 Fi Cf (ag8 11 (.sreg Fh []))) (.seq (ag6 Fg Ci (ag9 0 (ag6 Ff [] (.seq (aha 15 0) (.seq (.block 1 (ag6 Fe Cc (.seq (.seq (.sdreg Fd [.pure,.pure,(.read 0 0),.pure,(.read 0 0),.pure,.pure,(.read 0 0),.pure,(.read 0 0),.pure,.pure,.pure,.pure,(.read 0 0),.pure,(.read 0 0),(.read 0 0),.pure,.pure,(.read 0 0),.pure,(.read 0 0),(.read 0 0)] CB) (ag8 42 (.sreg Fc []))) (ag6 Fb Ck (ag9 2 (ag6 Fa [] (.seq (aha 50 2) (.seq (.block 3 (ag6 zA Cc (.seq (.sdreg zy [.pure,.pure,(.read 0 0),.pure,(.read 0 0),.pure,(.read 0 0),(.read 0 0),.pure,.pure,(.read 0 0),.pure,(.read 0 0),.pure,(.read 0 0),(.read 0 0)] C8) (ag8 68 (.sreg zx []))))) (.sreg zw Cc))))))))) (.sreg zu Cc)))))) (ag6 zt [] .ret)))),[(.tmp 4)]⟩
attribute [push_cast] Fj Fi Fh Fg Ff Fe Fd Fc Fb Fa zA zy zx zw zu zt
theorem Oy:ahb 47=ahc yY:=ahf
def Ia:LSO:=[Al 2]
def H9:LSO:=[Aa 7 0,Af 8 7,Ab 9 0]
def H8:LSO:=[Ap 10 9 8]
def H7:LSO:=[Ak 11 2 7 9,Ay 12 2 11,B0 4,Ai 2 4 12]
def H6:LSO:=[Aa 13 0,Af 14 13,A8 15 14 60,Aa 16 15,.grp none 16 false
 [A7 17 16 1 4,A4 18 16 1 17,AI 19 16 18,AD 20 16 19 60]
 21 (tm 20)]
def H5:LSO:=[Al 2]
def H4:LSO:=[Ad 22 1 4,Ac 23 1 22,Af 24 23,Ab 25 0]
def H3:LSO:=[Ap 26 25 24]
def H2:LSO:=[Ak 27 1 23 25,Ac 28 1 27,Aa 6 28]
def H1:LSO:=[Aa 29 6,A5 30 29,A8 31 30 5000]
def F0:LSO:=[Al 2]
def FZ:LSO:=[Aj 32 25 1,Aa 25 32]
def FY:LSO:=[Aj 33 9 1,Aa 9 33]
def FX:LSO:=[AA 2]
def Gs:aI:=⟨34,(ag6 Ia [] (.seq (ag6 H9 [] (ag9 0 (ag6 H8 [] (.seq (aha 10 0) (.seq (.block 1 (ag6 H7 Cd (.seq (ag6 H6 Cf (ag8 21 (.sreg H5 []))) (ag6 H4 Co (ag9 2 (ag6 H3 [] (.seq (aha 26 2) (.seq (.block 3 (ag6 H2 Cd (ag6 H1 Cd (ag8 31 (.sreg F0 []))))) (.sreg FZ Cc))))))))) (.sreg FY Cc)))))) (ag6 FX [] .ret))),[(.tmp 2)]⟩
attribute [push_cast] Ia H9 H8 H7 H6 H5 H4 H3 H2 H1 F0 FZ FY FX
theorem Qi:ahb 27=ahc Gs:=ahf
attribute [push_cast] yY Gs
variable {L:List Blk}{K:aeh}
set_option maxHeartbeats 8000000
set_option maxRecDepth 100000
theorem acC{l:List Atr}{cap c:Option Nat}(A:l.length<=1100000)(u:∀a∈l,a.2.length<=1100000)(h:K (.bool true) L):
  aeg 47 [.sl (bh l) l.length cap,.sl (bh l) l.length c] L K:=by
 replace h:=hid h;refine aef Oy ?_;refine ao (λm T' L'=>∃k:Nat,m=l.length-k/\k<=l.length/\T'=[(14,.int .i64 (k:Int)),(13,.int .i64 l.length),(0,.sl (bh l) l.length cap),(1,.sl (bh l) l.length c)]/\L=L') (CutS (b:=aek _)) ⟨0,rfl,aep _,rfl,rfl⟩ ?_;rintro _ _ L' ⟨k,rfl,w,rfl,e⟩;subst e;by_cases d:k<l.length;have g1:(k:Int)<(l.length:Int):=ahd;have z:=aee k ahd;have x:k*2+1<(bh l).length:=by rw[Gy];omega
 have s:k*2<(bh l).length:=ahd;have n:=Z2 d;have r:(bh l).getD (k*2) .undef=.str (l.getD k ([],[])).1:=by have p:=congrArg (λl=>l[0]?) (zd d);simp only[aeS (show 0<2 by omega),aeX,afC]at p;rw[aeA,p];rfl
 obtain⟨⟨nm,vs⟩,g⟩:∃a,l.getD k ([],[])=a:=⟨_,rfl⟩;have i:=u (nm,vs) (by rw[<- g];simp[d]);simp only at i;rw[g]at n r;simp only[aaW]at n r;clear g;refine wk ?_;refine ao (λm T' L'=>∃j:Nat,m=vs.length-j/\j<=vs.length/\T'=[(49,.int .i64 (j:Int)),(48,.int .i64 vs.length),(5,.int .i64 (k:Int)),(14,.int .i64 (k:Int)),(13,.int .i64 l.length),(0,.sl (bh l) l.length cap),(1,.sl (bh l) l.length c)]/\L=L') (CutS (b:=aek _)) ⟨0,rfl,aep _,rfl,rfl⟩ ?_;rintro _ _ L' ⟨j,rfl,B,rfl,e⟩;subst e;by_cases f:j<vs.length;have t:(j:Int)<(vs.length:Int):=ahd;have y:=aee j ahd;obtain⟨v,q⟩:=aec (vs.getD j []);have g3:(vs.map AV.str).getD j .undef=.str v:=by rw[<- q];simp[f]
 clear q;refine wk ?_;exact ahi ahd ahg ⟨j+1,rfl,f,rfl,rfl⟩;have t:¬(j:Int)<(vs.length:Int):=ahd;refine wk ?_;exact ahi ahd ahg ⟨k+1,rfl,d,rfl,rfl⟩;have g1:¬(k:Int)<(l.length:Int):=ahd;refine wk ?_;exact ag h.o
def R6(n:Nat)(a:Atr):Bool:=decide (n<=60)&&decide (a.2.length<=60)&&a.2.all λv=>decide (v.length<=5000)
def XB(l:List Atr):Bool:=l.all (R6 l.length)
theorem Wh{l:List Atr}(h:XB l=true):l.length<=60/\∀a∈l,a.2.length<=60/\∀v∈a.2,v.length<=5000:=by simp only[XB,aev,R6,aeq,decide_eq_true_eq]at h;refine⟨?_,λa b=>⟨(h a b).1.2,(h a b).2⟩⟩;rcases l with _|⟨x,t⟩;simp;exact(h x ahe).1.1
theorem adC{l:List Atr}{cap:Option Nat}(M:(l.length:Int)<=9223372036854775807)(B:∀a∈l,(a.2.length:Int)<=9223372036854775807)(h:K (.bool (XB l)) L):
  aeg 27 [.sl (bh l) l.length cap] L K:=by
 obtain⟨R,r⟩:=aec (l.all (R6 l.length));rw[XB,r]at h;replace h:=hid h;replace r:=hid r;refine aef Qi ?_;refine ao (λm T' L'=>∃(k:Nat) (X:List Blk),m=l.length-k/\k<=l.length/\Hid ((l.drop k).all (R6 l.length)=R)/\T'=[(9,.int .i64 (k:Int)),(8,.int .i64 l.length),(7,.sl (bh l) l.length cap),(0,.sl (bh l) l.length cap)]/\L'=L++X) ahh ⟨0,[],rfl,aep _,hid (by simpa using r.o),rfl,ahe⟩ ?_;rintro _ _ _ ⟨k,X,rfl,G,s,rfl,rfl⟩;by_cases d:k<l.length;have g1:(k:Int)<(l.length:Int):=ahd;have F:=aee k ahd;have A:=zd d;have H:k*2+2<=(bh l).length:=by rw[Gy];omega
 obtain⟨⟨nm,vs⟩,u⟩:∃a,l.getD k ([],[])=a:=⟨_,rfl⟩;have f:l.drop k=(nm,vs)::l.drop (k+1):=by rw[ae3 d,<- u];simp[d]
 have y:=B (nm,vs) (by rw[<- u];simp[d]);simp only at y;rw[u]at A;simp only[atA]at A;have b:=s.o;rw[f,afl]at b;have no:R6 l.length (nm,vs)=false->K (.bool false) L:=λe=>by rw[e,afX]at b;have:=h.o;rwa[<- b]at this
 replace no:=hid no;clear s f u B r;by_cases D:(60:Int)<(l.length:Int);have g:=hid (no.o (by simp[R6];omega));clear b;refine wk ?_;exact af rfl g.o;by_cases I:(60:Int)<(vs.length:Int);have g:=hid (no.o (by simp[R6];omega));clear b;refine wk ?_;exact af rfl g.o;obtain⟨z,i⟩:=aec (vs.all (λv=>decide (v.length<=5000)));have q:R6 l.length (nm,vs)=z:=by rw[R6,i,decide_eq_true ahd,decide_eq_true (by simp only;omega)];rfl
 rw[q]at b;replace b:=hid b;replace i:=hid i;replace no:=hid (λe:z=false=>no.o (q.trans e));clear q;refine wk ?_;refine ao (λm T' L'=>∃j:Nat,m=vs.length-j/\j<=vs.length/\Hid ((vs.drop j).all (λv=>decide (v.length<=5000))=z)/\T'=[(25,.int .i64 (j:Int)),(24,.int .i64 vs.length),(23,.sl (vs.map AV.str) vs.length none),(9,.int .i64 (k:Int)),(8,.int .i64 l.length),(7,.sl (bh l) l.length cap),(0,.sl (bh l) l.length cap)]/\L'=L++(X++[.cells [.str nm,.sl (vs.map AV.str) vs.length none]])) ahh ⟨0,rfl,aep _,hid (by simpa using i.o),rfl,ahe⟩ ?_;rintro _ _ _ ⟨j,rfl,N,t,rfl,rfl⟩;by_cases n:j<vs.length;have C:(j:Int)<(vs.length:Int):=ahd;have E:=aee j ahd;obtain⟨v,w⟩:=aec (vs.getD j []);have g3:(vs.map AV.str).getD j .undef=.str v:=by rw[<- w];simp[n]
 have f:vs.drop j=v::vs.drop (j+1):=by rw[ae3 n,<- w];simp[n]
 have c:=t.o;rw[f,afl]at c;clear w f t;by_cases J:(5000:Int)<(v.length:Int);have g:=hid (no.o (by rw[<- c,decide_eq_false ahd,afX]));clear c;refine wk ?_;exact af rfl g.o;rw[decide_eq_true ahd,ae9]at c;replace c:=hid c;refine wk ?_;exact ahi ahd ahg ⟨j+1,rfl,n,c,rfl,rfl⟩;have C:¬(j:Int)<(vs.length:Int):=ahd;have c:=t.o;rw[agy ahd,af4]at c;have p:=b.o;rw[<- c,ae9]at p;replace p:=hid p;clear t c;refine wk ?_;exact ahi ahd ahg ⟨k+1,_,rfl,d,p,rfl,rfl⟩;have x:k=l.length:=ahd;subst x;have g1:¬(l.length:Int)<(l.length:Int):=ahd;have b:=s.o;rw[afR,af4]at b;have g:=h.o;rw[<- b]at g;replace g:=hid g;clear s b r;refine wk ?_;exact af rfl g.o
end Go.Proofs.YtajkbcmleihaoaaGreatDoor.Av
set_option maxRecDepth 100000
namespace Go.Proofs.YtajkbcmleihaoaaGreatDoor.Av
open Go
def FW:LSO:=[As 2]
def FV:LSO:=[Aa 6 0,o1 7 (.s2bO (tm 6)),Aa 3 7]
def FU:LSO:=[Aa 8 3,Af 9 8,Ab 10 0]
def FT:LSO:=[Ap 11 10 9]
def FS:LSO:=[Aa 12 10,Ak 13 1 8 10,Ac 14 1 13,Aa 4 12,Aa 5 14]
def FR:LSO:=[Aa 15 5,o1 16 (.bin .geq (tm 15) (.av (.int .u8 65))),Aa 17 16,.grp none 17 true
 [Ao 18 17 5,og 19 17 true (.bin .leq (tm 18) (.av (.int .u8 90)))]
 20 (tm 19)]
def FQ:LSO:=[Aa 21 3,Aa 22 4,Aa 23 5,o1 24 (.bin .add (tm 23) (.av (.int .u8 32))),Ak 25 1 21 22,Ai 1 25 24]
def FP:LSO:=[Aj 26 10 1,Aa 10 26]
def FO:LSO:=[Aa 27 3,Bh 28 27,Aa 2 28]
def za:aI:=⟨29,(ag6 FW [] (ag6 FV Cd (.seq (ag6 FU [] (ag9 0 (ag6 FT [] (.seq (aha 11 0) (.seq (.block 1 (ag6 FS Cm (ag6 FR Ce (ag7 20 (.sreg FQ Cy) .skip)))) (.sreg FP Cc)))))) (ag6 FO Cd .ret)))),[(.tmp 2)]⟩
attribute [push_cast] FW FV FU FT FS FR FQ FP FO
theorem OC:aL Tryz.prog (λr i=>if r=1/\i=1 then 2 else 1) 103=some za.raw:=ahf
def FN:LSO:=[As 2]
def FM:LSO:=[Aq 3]
def FL:LSO:=[Aa 6 0,Ag 7 103 6,o1 8 (.s2b (tm 7)),Af 9 8,Ab 10 0]
def FK:LSO:=[Ap 11 10 9]
def FJ:LSO:=[Ak 12 1 8 10,Ac 13 1 12,Aa 5 13]
def FI:LSO:=[Aa 14 5,o1 15 (.bin .eql (tm 14) (.av (.int .u8 32))),Aa 16 15,.grp none 16 true
 [Ao 17 16 3,Bm 18 16 17,AU 19 16 18 0,Ao 20 16 19,.grp (some (16,true)) 20 false
 [Ah 21 20 3,Ah 22 20 3,AI 23 20 22,og 24 20 false (.bin .sub (tm 23) (iv 1)),Bx 25 20 1 21 24,A4 26 20 1 25,og 27 20 false (.bin .eql (tm 26) (.av (.int .u8 32)))]
 28 (tm 27)]
 29 (tm 28)]
def FH:LSO:=[Aa 30 3,Aa 31 5,BB 32 31,Bn 33 30 32,Aa 3 33]
def FG:LSO:=[Aj 34 10 1,Aa 10 34]
def FF:LSO:=[Aa 35 3,Af 36 35,A8 37 36 0,Aa 38 37,.grp none 38 true
 [Ao 39 38 3,Ao 40 38 3,Bm 41 38 40,BT 42 38 41 1,og 43 38 true (.iaddr 1 (tm 39) (tm 42)),AN 44 38 1 43,BC 45 38 44]
 46 (tm 45)]
def FE:LSO:=[Aa 47 3,Aa 48 3,Af 49 48,AM 50 49 1,o1 51 (.slV 1 (tm 47) none (some (tm 50)) none),Aa 3 51]
def Do:LSO:=[Aa 52 3,Bh 53 52,Aa 2 53]
def y9:aI:=⟨54,(ag6 FN [] (ag6 FM [] (.seq (ag6 FL C7 (ag9 0 (ag6 FK [] (.seq (aha 11 0) (.seq (.block 1 (ag6 FJ Cd (.seq (ag6 FI Ce (ag7 29 (.exit 1) .skip)) (.sreg FH Cf)))) (.sreg FG Cc)))))) (.seq (ag6 FF Cf (ag7 46 (.sreg FE Ch) .skip)) (ag6 Do Cd .ret))))),[(.tmp 2)]⟩
attribute [push_cast] FN FM FL FK FJ FI FH FG FF FE Do
theorem OB:ahb 104=ahc y9:=ahf
def FC:LSO:=[o1 2 (.mv (.av (.int .u8 0))),Al 3]
def FB:LSO:=[Aa 5 0,o1 6 (.bin .geq (tm 5) (.av (.int .u8 48))),Aa 7 6,.grp none 7 true
 [Ao 8 7 0,og 9 7 true (.bin .leq (tm 8) (.av (.int .u8 57)))]
 10 (tm 9),Aa 4 10]
def FA:LSO:=[Aa 11 0,o1 12 (.bin .sub (tm 11) (.av (.int .u8 48))),Aa 2 12,AA 3]
def Fz:LSO:=[Aa 14 0,o1 15 (.bin .geq (tm 14) (.av (.int .u8 97))),Aa 16 15,.grp none 16 true
 [Ao 17 16 0,og 18 16 true (.bin .leq (tm 17) (.av (.int .u8 102)))]
 19 (tm 18),Aa 13 19]
def Fy:LSO:=[Aa 20 0,o1 21 (.bin .sub (tm 20) (.av (.int .u8 97))),o1 22 (.bin .add (tm 21) (.av (.int .u8 10))),Aa 2 22,AA 3]
def Fx:LSO:=[Aa 24 0,o1 25 (.bin .geq (tm 24) (.av (.int .u8 65))),Aa 26 25,.grp none 26 true
 [Ao 27 26 0,og 28 26 true (.bin .leq (tm 27) (.av (.int .u8 70)))]
 29 (tm 28),Aa 23 29]
def Fw:LSO:=[Aa 30 0,o1 31 (.bin .sub (tm 30) (.av (.int .u8 65))),o1 32 (.bin .add (tm 31) (.av (.int .u8 10))),Aa 2 32,AA 3]
def Fv:LSO:=[o1 2 (.mv (.av (.int .u8 0))),Al 3]
def y8:aI:=⟨33,(ag6 FC [] (.seq (.block 0 (ag6 FB Cf (ag7 4 (ag6 FA Cs .ret) (ag6 Fz Cf (ag7 13 (ag6 Fy Cm .ret) (ag6 Fx Cf (ag8 23 (.sreg Fw Cm)))))))) (ag6 Fv [] .ret))),[(.tmp 2),(.tmp 3)]⟩
attribute [push_cast] FC FB FA Fz Fy Fx Fw Fv
theorem OA:ahb 195=ahc y8:=ahf
def Dn:LSO:=[As 2,Al 3]
def Dm:LSO:=[Aa 10 0,A5 11 10,o1 12 (.bin .rem (tm 11) (iv 2)),A0 13 12 1]
def Dl:LSO:=[As 2,Al 3]
def Dk:LSO:=[Aa 14 0,A5 15 14,o1 16 (.bin .quo (tm 15) (iv 2)),o1 17 (.mkslice 1 1 [(.int .u8 0)] (iv 0) (tm 16)),Aa 4 17]
def Dj:LSO:=[Ab 5 0]
def Di:LSO:=[Aa 18 5,Aa 19 0,A5 20 19,Ap 21 18 20]
def Dh:LSO:=[Aa 25 0,Aa 26 5,BD 27 25 26,Ag 28 195 27,Aa 24 28,Am 29 24,An 30 24,Aa 6 29,Aa 7 30]
def Dg:LSO:=[Aa 32 0,Aa 33 5,Aj 34 33 1,BD 35 32 34,Ag 36 195 35,Aa 31 36,Am 37 31,An 38 31,Aa 8 37,Aa 9 38]
def Df:LSO:=[Aa 39 7,A6 40 39,Aa 41 40,.grp none 41 false
 [Ah 42 41 9,Bo 43 41 42]
 44 (tm 43)]
def De:LSO:=[As 2,Al 3]
def xf:LSO:=[Aa 45 4,Aa 46 6,o1 47 (.bin .shl (tm 46) (.av (.int .u64 4))),Aa 48 8,o1 49 (.bin .or (tm 47) (tm 48)),BB 50 49,Bn 51 45 50,Aa 4 51]
def xe:LSO:=[Aa 22 5,Aj 23 22 2,Aa 5 23]
def xd:LSO:=[Aa 52 4,Bh 53 52,Aa 2 53,AA 3]
def vQ:aI:=⟨54,(ag6 Dn [] (.seq (ag6 Dm Ce (ag8 13 (.sreg Dl []))) (ag6 Dk Cf (.seq (ag6 Dj [] (ag9 0 (.seq (ag6 Di Ce (aha 21 0)) (.seq (.block 1 (ag6 Dh Cv (ag6 Dg Cz (.seq (ag6 Df Ce (ag8 44 (.sreg De []))) (.sreg xf Cj))))) (.sreg xe Cd))))) (ag6 xd Cs .ret))))),[(.tmp 2),(.tmp 3)]⟩
attribute [push_cast] Dn Dm Dl Dk Dj Di Dh Dg Df De xf xe xd
theorem MA:ahb 183=ahc vQ:=ahf
attribute [push_cast] za vQ
variable {L:List Blk}{K:aeh}
set_option maxHeartbeats 8000000
set_option maxRecDepth 100000
def qw(c:UInt8):UInt8:=if 65<=c.toNat/\c.toNat<=90 then c+32 else c
def aE(s:List UInt8):List UInt8:=s.map qw
theorem Wa{c:UInt8}(a:65<=c.toNat)(b:c.toNat<=90):((qw c).toNat:Int)=(c.toNat:Int)+32:=by rw[qw,if_pos ⟨a,b⟩,UInt8.toNat_add];have:(32:UInt8).toNat=32:=rfl;omega
theorem LA{c:UInt8}(h:¬(65<=c.toNat/\c.toNat<=90)):qw c=c:=by rw[qw,if_neg h]
theorem GI(l:List UInt8):(u8s l).all QI=true:=by simp only[u8s,List.all_map,aev];intro x _;have:=x.toNat_lt;simp[QI]
theorem D0(l:List UInt8):(u8s l).map Ob=l:=by
 induction l with
 |nil=>rfl
 | cons x l ih =>
   simp only[u8s,aex,aeH]at ih⊢;rw[ih];simp[Ob]
theorem VH(l:List UInt8)(c:UInt8):u8s (l++[c])=u8s l++[.int .u8 c.toNat]:=by simp[u8s]
theorem Vk{s:List UInt8}{k:Nat}(h:k<s.length):aE (s.take (k+1))=aE (s.take k)++[qw (s.getD k 0)]:=by rw[aeM h,aE,aeD];simp[aE,h]
theorem abp{s:List UInt8}(B:(s.length:Int)<=140737488351232)(h:K (.str (aE s)) L):aeg 103 [.str s] L K:=by
 replace h:=hid h;refine aef OC ?_;refine ao (λn T' L'=>∃(k:Nat) (v:List AV),n=s.length-k/\k<=s.length/\v=u8s (aE (s.take k)++s.drop k)/\T'=[(10,.int .i64 (k:Int)),(9,.int .i64 s.length),(8,.lsl L.length 0 s.length none 1),(3,.lsl L.length 0 s.length none 1),(2,.str [])]/\L'=L++[.bytes v]) ahh ⟨0,_,rfl,aep _,rfl,rfl,rfl⟩ ?_;rintro _ _ _ ⟨k,v,rfl,C,j,rfl,rfl⟩;by_cases g:k<s.length
 .have y:(k:Int)<(s.length:Int):=ahd;have J:=aee k ahd;obtain⟨c,t⟩:=aec (s.getD k 0);have hd:s.drop k=c::s.drop (k+1):=by rw[ae3 g,<- t,aeA,aeF g];rfl
  have l:(aE (s.take k)).length=k:=(by simp[aE];omega);have a:v=u8s (aE (s.take k)) ++ .int .u8 c.toNat::u8s (s.drop (k+1)):=(by rw[j,hd];simp[u8s]);have i:(u8s (aE (s.take k))).length=k:=(by simp[u8s,l]);have A:v.length=s.length:=(by rw[j];simp[u8s,aE];omega);have z:k<v.length:=ahd;have w:v.getD k .undef=.int .u8 c.toNat:=(by rw[a];simp[aeA,aey,i]);have d:=Vk g;rw[t]at d;have e:u8s (aE (s.take (k+1))++s.drop (k+1))=u8s (aE (s.take k)) ++ .int .u8 (qw c).toNat::u8s (s.drop (k+1)):=(by rw[d];simp[u8s]);have f:∀x,v.take k++x::v.drop (k+1)=u8s (aE (s.take k))++x::u8s (s.drop (k+1)):=λx=>by rw[a,List.take_left' i,List.drop_append,i,agy ahd,show k+1-k=1 by omega];rfl
  clear j hd l d;replace a:=hid a;replace e:=hid e;replace f:=hid f;have q:=c.toNat_lt;by_cases m:65<=c.toNat/\c.toNat<=90;have u1:(65:Int)<=(c.toNat:Int):=ahd;have G:(c.toNat:Int)<=90:=ahd;have r:=hid (Wa m.1 m.2);have D:IntKind.u8.wrap ((c.toNat:Int)+32)=(c.toNat:Int)+32:=qA ahd ahd;clear m;refine wk ?_;refine ahi ahd ahh ⟨k+1,_,rfl,g,?_,rfl,rfl⟩;rw[e.o,r.o];exact f.o _
  .have r:=hid (LA m);have E:(decide ((65:Int)<=(c.toNat:Int))&&decide ((c.toNat:Int)<=90))=false:=(by simp;omega);clear m;refine wk ?_
   all_goals first
    |omega
    | (refine ahi ahd (CutS (b := by simp)) ⟨k + 1, _, rfl, g, ?_, rfl, rfl⟩
       rw[e.o,r.o];exact a.o)
 have p:k=s.length:=ahd;subst p;have y:¬(s.length:Int)<(s.length:Int):=ahd;have a:v=u8s (aE s):=by rw[j];simp
 clear j;subst a;have F:=GI (aE s);have H:=D0 (aE s);have u:(u8s (aE s)).length=s.length:=by simp[u8s,aE]
 have I:(u8s (aE s)).take s.length=u8s (aE s):=by rw[<- u];exact aeI
 refine wk ?_;exact af rfl h.o
theorem Gf{s:List UInt8}(a:(s.length:Int)<=100000)(h:K (.str (aE s)) L):aeg 103 [.str s] L K:=abp ahd h
def yN(c:UInt8):Option Nat:=if 48<=c.toNat/\c.toNat<=57 then some (c.toNat-48)else if 97<=c.toNat/\c.toNat<=102 then some (c.toNat-87)else if 65<=c.toNat/\c.toNat<=70 then some (c.toNat-55)else none
theorem OW{c:UInt8}{x:Nat}(h:yN c=some x):x<16:=by unfold yN at h;split at h;cases h;omega;split at h;cases h;omega;split at h;cases h;omega;cases h
theorem U3{c:UInt8}{L:List Blk}{K:aeh}(h:K (.tup [.int .u8 ((yN c).getD 0:Nat),.bool (yN c).isSome]) L):aeg 195 [.int .u8 c.toNat] L K:=by
 have m:=c.toNat_lt;obtain⟨n,g⟩:=aec (c.toNat);unfold yN at h;rw[g]at h m⊢;clear g;refine aa OA (by simp[y8]) ?_;simp only[y8,am];by_cases a:48<=n/\n<=57;rw[if_pos a]at h;replace h:=hid h;obtain⟨b,d⟩:=a;have j:(48:Int)<=(n:Int):=ahd;have i:(n:Int)<=57:=ahd;have s:IntKind.u8.wrap ((n:Int)-48)=(n:Int)-48:=qA ahd ahd;clear b d;refine wk ?_;refine ag ?_;have:=h.o;simpa[show((n-48:Nat):Int)=(n:Int)-48 by omega]using this
 .rw[if_neg a]at h;have q:(decide ((48:Int)<=(n:Int))&&decide ((n:Int)<=57))=false:=(by simp;omega);by_cases e:97<=n/\n<=102;rw[if_pos e]at h;replace h:=hid h;obtain⟨b,d⟩:=e;have j:(97:Int)<=(n:Int):=ahd;have i:(n:Int)<=102:=ahd;have k:IntKind.u8.wrap ((n:Int)-97)=(n:Int)-97:=qA ahd ahd;have l:IntKind.u8.wrap ((n:Int)-97+10)=(n:Int)-97+10:=qA ahd ahd;clear b d a;refine wk ?_;refine ag ?_;have:=h.o;simpa[show((n-87:Nat):Int)=(n:Int)-97+10 by omega]using this
  .rw[if_neg e]at h;have p:(decide ((97:Int)<=(n:Int))&&decide ((n:Int)<=102))=false:=(by simp;omega);by_cases f:65<=n/\n<=70;rw[if_pos f]at h;replace h:=hid h;obtain⟨b,d⟩:=f;have j:(65:Int)<=(n:Int):=ahd;have i:(n:Int)<=70:=ahd;have k:IntKind.u8.wrap ((n:Int)-65)=(n:Int)-65:=qA ahd ahd;have l:IntKind.u8.wrap ((n:Int)-65+10)=(n:Int)-65+10:=qA ahd ahd;clear b d a e;refine wk ?_;refine ag ?_;have:=h.o;simpa[show((n-55:Nat):Int)=(n:Int)-65+10 by omega]using this
   .rw[if_neg f]at h;have r:(decide ((65:Int)<=(n:Int))&&decide ((n:Int)<=70))=false:=(by simp;omega);replace h:=hid h;clear a e f
    repeat' first
     |refine kX ?_
     | (first|refine ju ahf ?_|refine fO ahf ?_|refine fR ?_|refine DR ?_|refine nQ (fun _=>?_)|refine dS ?_|refine jw ?_)
       refine sm ?_
     | (first|refine jo ahf ?_|refine iF ?_|refine fQ ?_|refine jv ?_|refine nW (dR ?_))
       refine sl ?_
     |exact nR
     |first|apply nS|apply jq|apply nT|apply jr|apply nV|apply jt
     |refine fU ?_
     |refine fP ?_
     |first|refine fS rfl ?_|refine fT rfl ?_|refine cG rfl ?_ ?_|refine ir rfl (λ_=>?_) (λ_=>?_)|refine iq rfl (λ_=>?_) (λ_=>?_)
     |((first|refine cF (λ_=>?_) (λ_=>?_)|refine dQ (λ_=>?_) (λ_=>?_))<;>try refine sm ?_)
     |refine And.intro trivial ?_
     |refine And.intro ahd ?_
     |refine eQ rfl (λ_=>?_) (λ_=>?_)
     |refine And.intro ?_ ?_
    all_goals first
     |omega
     |(refine ag ?_;simpa using h.o)
def U1(a b:UInt8):Option UInt8:=match yN a,yN b with
 |some x,some y=>some (UInt8.ofNat (16*x+y))
 |_,_=>none
def TA(a b:UInt8):AV:=match U1 a b with
 |some c=>.tup [.str [c],.bool true]
 |none=>.tup [.str [],.bool false]
theorem acx:∀x y:_root_.Fin 16,IntKind.u8.wrap (((BitVec.ofInt IntKind.u8.bits (IntKind.u8.wrap ((x.val:Int)*2^min 4 IntKind.u8.bits)) |||BitVec.ofInt IntKind.u8.bits (y.val:Int)).toNat:Nat):Int)=16*(x.val:Int)+(y.val:Int):=by decide +kernel
theorem Yd{a b:UInt8}(h:K (TA a b) L):aeg 183 [.str [a,b]] L K:=by
 have A:[a,b].length=2:=rfl;have w:[a,b].getD 0 0=a:=rfl;have z:[a,b].getD 1 0=b:=rfl;have t:IntKind.i64.wrap (Int.tdiv 2 2)=1:=by decide
 have r:Int.tmod 2 2=0:=by decide
 have p:cY [AV.int IntKind.u8 0] 1=[AV.int IntKind.u8 0]:=rfl;have B:IntKind.i64.wrap 1=1:=by decide
 have s:IntKind.i64.wrap 2=2:=by decide
 replace h:=hid h;refine aef MA ?_;refine ao (λn T' L'=>(n=1/\T'=[(5,.int .i64 0),(4,.lsl L.length 0 0 (some 1) 1),(0,.str [a,b])]/\L'=L++[.cells [.int .u8 0]])\/(n=0/\∃x y:Nat,Hid (yN a=some x)/\Hid (yN b=some y)/\T'=[(5,.int .i64 2),(4,.lsl (L.length+1) 0 1 none 1),(0,.str [a,b])]/\L'=L++[.dead,.cells [.int .u8 ((16*x+y:Nat):Int)]])) (n0:=1) (T0:=[(5,.int .i64 0),(4,.lsl L.length 0 0 (some 1) 1),(0,.str [a,b])]) (L0:=L++[.cells [.int .u8 0]]) ahh (.inl ⟨rfl,rfl,rfl⟩) ?_;rintro _ _ _ (⟨rfl,rfl,rfl⟩|⟨rfl,x,y,d,e,rfl,rfl⟩);rcases d:yN a with _|x;have c:=h.o;simp only[TA,U1,d]at c;replace c:=hid c;have l:(yN a).getD 0=0:=by rw[d];rfl
 have m:(yN a).isSome=false:=by rw[d];rfl
 clear d;have kk1:=@hid _ @U3;refine wk ?_;exact af rfl c.o;have l:(yN a).getD 0=x:=by rw[d];rfl
 have m:(yN a).isSome=true:=by rw[d];rfl
 have k:=hid d;rcases e:yN b with _|y;have c:=h.o;simp only[TA,U1,d,e]at c;replace c:=hid c;have j:(yN b).getD 0=0:=by rw[e];rfl
 have g:(yN b).isSome=false:=by rw[e];rfl
 clear d e;have kk1:=@hid _ @U3;refine wk ?_;exact af rfl c.o;have j:(yN b).getD 0=y:=by rw[e];rfl
 have g:(yN b).isSome=true:=by rw[e];rfl
 have i:=hid e;have f:=acx ⟨x,OW d⟩ ⟨y,OW e⟩;simp only at f;clear d e;have kk1:=@hid _ @U3;refine wk ?_;refine au 0 _ _ ahd ahg (.inr ⟨rfl,x,y,hid rfl,hid rfl,rfl,?_⟩)
 first|rfl|rw[f]
 have c:=h.o;simp only[TA,U1,d.o,e.o]at c;replace c:=hid c;have q:=OW d.o;have u:=OW e.o;have u1:QI (.int .u8 (16*(x:Int)+(y:Int)))=true:=rfl;have v:Ob (.int .u8 (16*(x:Int)+(y:Int)))=UInt8.ofNat (16*x+y):=by simp only[Ob];rw[show(16*(x:Int)+(y:Int)).toNat=16*x+y by omega]
 refine wk ?_;exact af rfl c.o
def PX(b:List UInt8):Bool:=b.isEmpty ||b.getLast? == some 32
def aK(b:List UInt8)(c:UInt8):List UInt8:=if c=32/\PX b=true then b else b++[c]
def bL(s:List UInt8):List UInt8:=s.foldl aK []
def eA(b:List UInt8):List UInt8:=if b.getLast?=some 32 then b.dropLast else b
def bC(s:List UInt8):List UInt8:=eA (bL (aE s))
theorem Lu(b:List UInt8)(c:UInt8):(aK b c).length<=b.length+1:=by unfold aK;split<;>simp
theorem Pk{s:List UInt8}{k:Nat}(h:k<s.length):bL (s.take (k+1))=aK (bL (s.take k)) (s.getD k 0):=by rw[aeM h,bL,List.foldl_append];simp[bL,h]
theorem yg(s:List UInt8):∀k,(bL (s.take k)).length<=k
 |0=>by simp[bL]
 | k+1=>by
   have a:=yg s k;by_cases h:k<s.length
   .rw[Pk h];have:=Lu (bL (s.take k)) (s.getD k 0);omega
   .rw[aeO ahd,<- aeO (l:=s) (i:=k) ahd];omega
theorem Pj{s:List UInt8}(I:(s.length:Int)<=100000)(h:K (.str (bC s)) L):aeg 104 [.str s] L K:=by
 replace h:=hid h;refine aa OB (by simp[y9]) ?_;simp only[y9,am];obtain⟨t,J⟩:=aec (aE s);have P:(t.length:Int)<=100000:=by rw[<- J];simpa[aE]using I
 have kk1:=@ahk _ _ _ _ (Gf I);refine wk ?_;refine cB (l:=[]) (n:=0) 3 1 rfl (aeW 1).symm ?_;refine ao (λn T' L'=>∃(k:Nat) (b:List UInt8) (v:List AV) (m:Nat),n=t.length-k/\k<=t.length/\b=bL (t.take k)/\v=u8s b/\m=b.length/\T'=[(10,.int .i64 (k:Int)),(9,.int .i64 t.length),(8,.sl (u8s t) t.length none),(3,.gsl v m L.length 1),(2,.str [])]/\L'=L++[.spare m 1]) ahh ⟨0,[],[],0,rfl,aep _,rfl,rfl,rfl,rfl,rfl⟩ ?_;rintro _ _ _ ⟨k,b,v,m,rfl,U,q,rfl,rfl,rfl,rfl⟩;replace q:=hid q;by_cases i:k<t.length;have M:(k:Int)<(t.length:Int):=ahd;have X:=aee k ahd;have j:=hid (Pk i);obtain⟨c,z⟩:=aec (t.getD k 0);have T:(u8s t).getD k .undef=.int .u8 c.toNat:=by simp[u8s,i,<- z]
 have R:k<(u8s t).length:=by simpa[u8s]using i
 rw[z]at j;have G:b.length<=k:=by rw[q.o];exact yg t k
 have f:∀A,A=aK b c->A=bL (t.take (k+1)):=λA e=>by rw[j.o,<- q.o];exact e
 have u:((c.toNat:Int)=32)↔c=32:=⟨λe=>agk.1 (by have:(32:UInt8).toNat=32:=rfl;omega),λe=>by rw[e];rfl⟩;replace f:=hid f;replace u:=hid u;clear j q z;have F:(u8s b).length=b.length:=by simp[u8s]
 have rest:∀A,A=aK b c->A.length<=b.length+1:=λA e=>by rw[e];exact Lu b c
 clear rest;by_cases z:(c.toNat:Int)=32;rcases af6 b with a|⟨d,x,a⟩;have H:(b.length:Int)=0:=by rw[a];rfl
 have C:=hid (f.o b (by rw[aK,if_pos ⟨u.o.1 z,by rw[a];rfl⟩]));clear a;refine wk ?_;exact ahi ahd ahh ⟨k+1,b,_,_,rfl,i,C.o,rfl,rfl,rfl,rfl⟩;have H:¬(b.length:Int)=0:=by rw[a];simp;omega
 have C:IntKind.i64.wrap ((b.length:Int)-1)=(d.length:Int):=by rw[ac ahd ahd,a];simp
 have N:(u8s b).getD d.length .undef=.int .u8 x.toNat:=by rw[a];simp[u8s,aeA]
 have E:d.length<(u8s b).length:=by rw[a];simp[u8s]
 have O:(d.length:Int)<(b.length:Int):=by rw[a];simp;omega
 have g:x=32↔(x.toNat:Int)=32:=⟨λe=>by rw[e];rfl,λe=>agk.1 (by have:(32:UInt8).toNat=32:=rfl;omega)⟩;have p:PX b=true↔x=32:=by rw[a];simp[PX]
 replace a:=hid a;replace g:=hid g;replace p:=hid p;by_cases B:(x.toNat:Int)=32;have D:=hid (f.o b (by rw[aK,if_pos ⟨u.o.1 z,p.o.2 (g.o.2 B)⟩]));refine wk ?_;exact ahi ahd ahh ⟨k+1,b,_,_,rfl,i,D.o,rfl,rfl,rfl,rfl⟩;have D:=hid (f.o (b++[c]) (by rw[aK,if_neg λe=>B (g.o.1 (p.o.1 e.2))]));refine wk ?_;exact ahi ahd ahh ⟨k+1,b++[c],_,_,rfl,i,D.o,(by rw[VH,z]),ahe,rfl,rfl⟩;have C:=hid (f.o (b++[c]) (by rw[aK,if_neg λe=>z (u.o.2 e.1)]));refine wk ?_;exact ahi ahd ahh ⟨k+1,b++[c],_,_,rfl,i,C.o,(VH b c).symm,ahe,rfl,rfl⟩
 .have hke:k=t.length:=ahd;subst hke;have M:¬(t.length:Int)<(t.length:Int):=ahd;have G:b.length<=t.length:=(by rw[q.o];exact yg t _);have F:(u8s b).length=b.length:=(by simp[u8s]);have y:eA b=bC s:=(by rw[bC,J,q.o,aeI]);have C:=GI b;have N:=D0 b;replace q:=hid y;clear y;rcases af6 b with a|⟨d,x,a⟩;have H:¬(0:Int)<(b.length:Int):=(by rw[a];simp);have E:=hid (show b=bC s by rw[<- q.o,a];rfl);clear a;refine wk ?_;refine af rfl ?_;rw[E.o];exact h.o
  .have H:(0:Int)<(b.length:Int):=(by rw[a];simp;try omega);have E:IntKind.i64.wrap ((b.length:Int)-1)=(d.length:Int):=(by rw[ac ahd ahd,a];simp);have O:(u8s b).getD d.length .undef=.int .u8 x.toNat:=(by rw[a];simp[u8s,aeA]);have D:d.length<(u8s b).length:=(by rw[a];simp[u8s]);have Y:(d.length:Int)<(b.length:Int):=(by rw[a];simp;omega);have W:(u8s b).take d.length=u8s d:=(by rw[a];simp[u8s]);have Q:(u8s d).length=d.length:=(by simp[u8s]);have V:=GI d;have S:=D0 d;have g:x=32↔(x.toNat:Int)=32:=⟨λe=>by rw[e];rfl,λe=>agk.1 (by have:(32:UInt8).toNat=32:=rfl;omega)⟩;have w:eA b=if x=32 then d else b:=by rw[a];simp[eA]
   replace a:=hid a;replace w:=hid w;by_cases B:(x.toNat:Int)=32;have r:=hid (show d=bC s by rw[<- q.o,w.o,if_pos (g.2 B)]);replace g:=hid g;refine wk ?_;refine af rfl ?_;rw[r.o];exact h.o;have r:=hid (show b=bC s by rw[<- q.o,w.o,if_neg λe=>B (g.1 e)]);replace g:=hid g;refine wk ?_;refine af rfl ?_;rw[r.o];exact h.o
inductive Nd where
 |mk (tag:Int) (data:List UInt8) (kids:List Nd)
def Nd.tag:Nd->Int
 |.mk t _ _=>t
def Nd.data:Nd->List UInt8
 |.mk _ d _=>d
def Nd.kids:Nd->List Nd
 |.mk _ _ k=>k
abbrev ce:Nd:=.mk 0 [] []
instance:Inhabited Nd:=⟨ce⟩
def b8(n:Nat):UInt8:=UInt8.ofNat n
def yM(n:Nat):List UInt8 :=
 if n<128 then[b8 n]else if n<256 then[129,b8 n]else if n<65536 then[130,b8 (n/256),b8 n]else[131,b8 (n/65536),b8 (n/256),b8 n]
def sy(p:Nd->List UInt8×Int):List UInt8->List Nd->List UInt8×Int
 |acc,[]=>(acc,0)
 |acc,n::l=>if(p n).2≠0 then([],(p n).2)else sy p (acc++(p n).1) l
def fe:Nat->Nd->List UInt8×Int
 |0,.mk t d _=>if 1048576<d.length then([],5)else(b8 t.toNat::(yM d.length++d),0)
 |h+1,.mk t d ks=>if(sy (fe h) d ks).2≠0 then([],(sy (fe h) d ks).2)else if 1048576<(sy (fe h) d ks).1.length then([],5)else(b8 t.toNat::(yM (sy (fe h) d ks).1.length++(sy (fe h) d ks).1),0)
def okN:Nat->Nd->Prop
 |0,.mk t d ks=>(t=2\/t=4)/\ks=[]/\(d.length:Int)<=140737488351232
 |h+1,.mk t d ks=>((t=2\/t=4)/\ks=[]/\(d.length:Int)<=140737488351232)\/((t=48\/t=49)/\d=[]/\ks.length<=1100000/\∀k∈ks,okN h k)
def bA(s:List UInt8):Nd:=.mk 4 s []
def bW(s:List UInt8):Nat:=s.foldl (λn c=>256*n+c.toNat) 0
def MH(s:List UInt8):Except Int (Nat×Nat):=
 if s.length<2 then .error 3 else
 let k:=(s.getD 1 0).toNat
 if k<128 then .ok (k,2)else if k=128\/132<k then .error 8 else
 if s.length<k-126 then .error 3 else
 if 1048576<bW ((s.drop 2).take (k-128))then .error 5 else .ok (bW ((s.drop 2).take (k-128)),k-126)
def qq(p:List UInt8->Except Int (Nd×List UInt8)):Nat->List UInt8->Except Int (List Nd)
 |_,[]=>.ok []
 |0,_=>.ok []
 | f+1,s=>match p s with
   |.error e=>.error e
   | .ok (n,r)=>match qq p f r with
     |.error e=>.error e
     |.ok l=>.ok (n::l)
def ng:Nat->List UInt8->Except Int (Nd×List UInt8)
 |0,_=>.error 6
 | f+1,s=>if s=[] then .error 3 else
   let t:=(s.getD 0 0).toNat
   if t%32=31 then .error 7 else
   match MH s with
   |.error e=>.error e
   | .ok (size,a)=>if s.length<a+size then .error 3 else
     if t/32%2=0 then .ok (.mk t ((s.drop a).take size) [],s.drop (a+size))
     else match qq (ng f) size ((s.drop a).take size)with
      |.error e=>.error e
      |.ok ks=>.ok (.mk t [] ks,s.drop (a+size))
def Oa(s:List UInt8):Except Int Nd:=match ng 64 s with
 |.error e=>.error e
 |.ok (n,r)=>if r=[]then .ok n else .error 4
def ev(n:Nat):Nat->List UInt8
 |0=>[]
 |k+1=>ev (n/256) k++[b8 n]
def Xn(n:Int):Nat->Nat->Nat
 |0,k=>k
 |f+1,k=>if n.fdiv (2^(8*k-1))=0\/n.fdiv (2^(8*k-1))=-1 then k else Xn n f (k+1)
def UY(n:Int):List UInt8:=ev (n%18446744073709551616).toNat (Xn n 7 1)
def aaS(s:List UInt8):Int:=if bW s<2^(8*s.length-1)then(bW s:Int)else(bW s:Int)-2^(8*s.length)
def UK(s:List UInt8):Option Int:=if 1<=s.length/\s.length<=8/\UY (aaS s)=s then some (aaS s)else none
mutual
def ndA:Nd->List AV
 |.mk t d ks=>[.int .i64 t,.str d,.sl (aC ks) (aa5 ks) none]
def aC:List Nd->List AV
 |[]=>[]
 |n::l=>ndA n++aC l
def aa5:List Nd->Nat
 |[]=>0
 |_::l=>aa5 l+1
end
theorem V4:∀l:List Nd,aa5 l=l.length
 |[]=>rfl
 |_::l=>by simp only[aa5,aeB,V4 l]
theorem bQ(t:Int)(d:List UInt8)(a:List Nd):ndA (.mk t d a)=[.int .i64 t,.str d,.sl (aC a) a.length none]:=by rw[ndA,V4]
theorem dP(n:Nd):ndA n=[.int .i64 n.tag,.str n.data,.sl (aC n.kids) n.kids.length none]:=by obtain⟨t,d,a⟩:=n;exact bQ t d a
theorem ic:∀l:List Nd,(aC l).length=l.length*3
 |[]=>rfl
 |n::l=>by simp only[aC,aez,ic l,dP,aeB,aeY];omega
theorem sn:∀l m:List Nd,aC (l++m)=aC l++aC m
 |[],m=>rfl
 |n::l,m=>by simp only[ae6,aC,sn l m,aew]
theorem yH:∀{l:List Nd}{k:Nat},k<l.length->((aC l).drop (k*3)).take 3=ndA (l.getD k ce)
 |n::l,0,_=>by simp[aC,dP]
 | n::l,k+1,h=>by
   have a:=@yH l k (by simpa using h);have e:(aC (n::l)).drop ((k+1)*3)=(aC l).drop (k*3):=by
    rw[aC,List.drop_append,dP]
    grind
   simp[*]
mutual
theorem aa6:∀n:Nd,AV.frzL (ndA n)=ndA n
 |.mk t d ks=>by have a:=cT ks;simp only[ndA,AV.frzL,AV.frz,a]
theorem cT:∀l:List Nd,AV.frzL (aC l)=aC l
 |[]=>rfl
 |n::l=>by have a:=aa6 n;have b:=cT l;rw[AV.frzL_eq]at a b⊢;rw[aC,aeD,a,b]
end
mutual
theorem Y5(p:Nat->Bool):∀n:Nd,AV.refsL p (ndA n)=true
 |.mk t d ks=>by have a:=fX p ks;simp only[ndA,AV.refsL,AV.refs,a,af1]
theorem fX(p:Nat->Bool):∀l:List Nd,AV.refsL p (aC l)=true
 |[]=>rfl
 |n::l=>by have c:=Y5 p n;have d:=fX p l;rw[AV.refsL_iff]at c d⊢;intro a b;rw[aC,aen]at b;exact b.elim (c a) (d a)
end
theorem JD{n:Nat}:(b8 n).toNat=n%256:=by simp[b8]
theorem Rb(n:Nat):∀k:Nat,ev n (k+1)=b8 (n/256^k)::ev n k:=by
 intro k;induction k generalizing n with
 |zero=>simp[ev]
 | succ k ih =>
   rw[ev,ih (n/256),ev,ae6];congr 2;rw[agY,Nat.pow_succ,Nat.mul_comm]
theorem ff(n:Nat):∀k:Nat,(ev n k).length=k
 |0=>rfl
 |k+1=>by rw[Rb,aeB,ff n k]
theorem PQ(s:List UInt8)(c:UInt8):bW (s++[c])=256*bW s+c.toNat:=by simp[bW]
theorem OX:∀s:List UInt8,bW s<256^s.length:=by
 intro s;rw[<- List.reverse_reverse s];generalize s.reverse=r;induction r with
 |nil=>simp[bW]
 | cons c r ih =>
   rw[List.reverse_cons,PQ,aez,List.length_singleton,Nat.pow_succ];have:=c.toNat_lt;omega
theorem aa4{n:Nat}{c:UInt8}(g:n<2^56):
  IntKind.u64.wrap (BitVec.ofInt 64 (IntKind.u64.wrap ((n:Int)*256)) |||BitVec.ofInt 64 (c.toNat:Int)).toNat=((256*n+c.toNat:Nat):Int):=by
 have h:=c.toNat_lt;have d:IntKind.u64.wrap ((n:Int)*256)=((n*256:Nat):Int):=by rw[show(n:Int)*256=((n*256:Nat):Int)by simp];simp only[IntKind.wrap,IntKind.signed,IntKind.bits];simp;omega
 rw[d];have e:(BitVec.ofInt 64 ((n*256:Nat):Int) |||BitVec.ofInt 64 (c.toNat:Int)).toNat=n*256+c.toNat:=by rw[BitVec.toNat_or,BitVec.toNat_ofInt,BitVec.toNat_ofInt];have f:(((n*256:Nat):Int)%((2^64:Nat):Int)).toNat=n*256:=ahd;have a:(((c.toNat:Nat):Int)%((2^64:Nat):Int)).toNat=c.toNat:=ahd;rw[f,a];have:=Nat.two_pow_add_eq_or_of_lt (i:=8) (b:=c.toNat) ahd n;rw[show 2^8*n=n*256 by omega]at this;exact this.symm
 rw[e];simp only[IntKind.wrap,IntKind.signed,IntKind.bits];simp;omega
theorem WP{u l:Nat}(c:1<=l)(d:l<=8)(a:u<256^l):
  (IntKind.i64.wrap (IntKind.u64.wrap ((u:Int)*2^(64-8*l)))).fdiv (2^(64-8*l))=if u<2^(8*l-1)then(u:Int)else(u:Int)-2^(8*l):=by
 have b:l=1\/l=2\/l=3\/l=4\/l=5\/l=6\/l=7\/l=8:=ahd;rcases b with rfl|rfl|rfl|rfl|rfl|rfl|rfl|rfl<;>simp at a⊢<;>(try rw[agZ _ (by decide)])<;>simp only[IntKind.wrap,IntKind.signed,IntKind.bits]<;>simp<;>split<;>split<;>omega
theorem Wn{s:List UInt8}{n a:Nat}(h:MH s=.ok (n,a)):2<=a/\a<=6/\n<=1048576/\a<=s.length:=by unfold MH at h;simp only at h;split at h;cases h;rename_i e;split at h;cases h;exact⟨ahd,ahd,ahd,ahd⟩;split at h;cases h;split at h;cases h;split at h;cases h;rename_i f c b d;cases h;exact⟨ahd,ahd,ahd,ahd⟩
theorem Wm{s:List UInt8}{e:Int}(h:MH s=.error e):e≠0:=by
 unfold MH at h;simp only at h
 repeat' split at h
 all_goals first|(cases h;decide)|cases h
theorem YV{f:Nat}{s:List UInt8}{n:Nd}{r:List UInt8}(h:ng f s=.ok (n,r)):r.length<s.length:=by
 cases f with
 |zero=>cases h
 | succ f =>
   rw[ng]at h;split at h
   .cases h
   simp only at h;split at h
   .cases h
   split at h
   .cases h
   rename_i size a b;obtain⟨g,c,e,d⟩:=Wn b;split at h
   .cases h
   split at h
   .cases h;simp;omega
   split at h
   .cases h
   .cases h;simp;omega
theorem Tp{p:List UInt8->Except Int (Nd×List UInt8)}(a:∀s e,p s=.error e->e≠0):∀(f:Nat) (s:List UInt8) (e:Int),qq p f s=.error e->e≠0
 |0,[],e,h=>by cases h
 |0,_::_,e,h=>by cases h
 |f+1,[],e,h=>by cases h
 | f+1,c::s,e,h=>by
   rw[qq]at h
   .split at h
    .rename_i hh;cases h;exact a _ _ hh
    .split at h
     .rename_i hh;cases h;exact Tp a f _ _ hh
     .cases h
   .simp
theorem OQ:∀(f:Nat) (s:List UInt8) (e:Int),ng f s=.error e->e≠0
 |0,s,e,h=>by cases h;decide
 | f+1,s,e,h=>by
   rw[ng]at h;split at h
   .cases h;decide
   simp only at h;split at h
   .cases h;decide
   split at h
   .rename_i hh;cases h;exact Wm hh
   split at h
   .cases h;decide
   split at h
   .cases h
   split at h
   .rename_i hh;cases h;exact Tp (OQ f) _ _ _ hh
   .cases h
end Go.Proofs.YtajkbcmleihaoaaGreatDoor.Av
set_option maxRecDepth 100000
namespace Go.Proofs.YtajkbcmleihaoaaGreatDoor.Av
open Go
variable {n k:Nat}{s d:List UInt8}{t:Int}{cap:Option Nat}
def HQ:LSO:=[As 4]
def HP:LSO:=[Aa 7 1,AH 8 7 1,Aa 9 8,.grp none 9 false
 [Ah 10 9 1,AD 11 9 10 8]
 12 (tm 11)]
def HO:LSO:=[As 4]
def HN:LSO:=[Aa 13 1,o1 14 (.mkslice 1 1 [(.int .u8 0)] (tm 13) (tm 13)),Aa 5 14]
def HM:LSO:=[Aa 15 5,Af 16 15,Ab 17 0]
def HL:LSO:=[Ap 18 17 16]
def HK:LSO:=[Aa 19 17,Aa 6 19]
def HJ:LSO:=[Aa 20 5,Aa 21 1,AM 22 21 1,Aa 23 6,Bl 24 22 23,Aa 25 0,o1 26 (.conv .u8 (tm 25)),Ak 27 1 20 24,Ai 1 27 26]
def HI:LSO:=[Aa 28 0,o1 29 (.bin .shr (tm 28) (.av (.int .u64 8))),Aa 0 29]
def HH:LSO:=[Aj 30 17 1,Aa 17 30]
def FD:LSO:=[Aa 31 5,Bh 32 31,Aa 4 32]
def Gp:aI:=⟨33,(ag6 HQ [] (.seq (ag6 HP Ce (ag8 12 (.sreg HO []))) (ag6 HN Cd (.seq (ag6 HM Ci (ag9 0 (ag6 HL [] (.seq (aha 18 0) (.seq (.block 1 (ag6 HK Cc (ag6 HJ C0 (.sreg HI Cd)))) (.sreg HH Cc)))))) (ag6 FD Cd .ret))))),[(.tmp 4)]⟩
attribute [push_cast] HQ HP HO HN HM HL HK HJ HI HH FD
theorem Qh:ahb 67=ahc Gp:=ahf
def H0:LSO:=[BU 6,Al 7]
def HZ:LSO:=[Aa 11 2,AH 12 11 1,Aa 13 12,.grp none 13 false
 [Ah 14 13 2,AD 15 13 14 8]
 16 (tm 15),Aa 17 16,.grp none 17 false
 [Ah 18 17 1,BQ 19 17 18 0]
 20 (tm 19),Aa 21 20,.grp none 21 false
 [Ah 22 21 1,Ah 23 21 0,By 24 21 23,Ah 25 21 2,og 26 21 false (.bin .sub (tm 24) (tm 25)),og 27 21 false (.bin .gtr (tm 22) (tm 26))]
 28 (tm 27)]
def HY:LSO:=[BU 6,Al 7]
def HX:LSO:=[BU 8]
def HW:LSO:=[Aa 29 0,Aa 30 1,Aa 31 1,Aa 32 2,A9 33 31 32,o1 34 (.slS (tm 29) (some (tm 30)) (some (tm 33))),o1 35 (.s2b (tm 34)),Af 36 35,Ab 37 0]
def HV:LSO:=[Ap 38 37 36]
def HU:LSO:=[Ak 39 1 35 37,Ac 40 1 39,Aa 10 40]
def HT:LSO:=[Aa 41 8,o1 42 (.bin .shl (tm 41) (.av (.int .u64 8))),Aa 43 10,AC 44 43,o1 45 (.bin .or (tm 42) (tm 44)),Aa 8 45]
def HS:LSO:=[Aj 46 37 1,Aa 37 46]
def HR:LSO:=[Aa 47 8,Aa 6 47,AA 7]
def ny:aI:=⟨48,(ag6 H0 [] (.seq (ag6 HZ Cj (ag8 28 (.sreg HY []))) (ag6 HX [] (.seq (ag6 HW Cr (ag9 0 (ag6 HV [] (.seq (aha 38 0) (.seq (.block 1 (ag6 HU Cd (.sreg HT Ch))) (.sreg HS Cc)))))) (ag6 HR Ci .ret))))),[(.tmp 6),(.tmp 7)]⟩
attribute [push_cast] H0 HZ HY HX HW HV HU HT HS HR
theorem Gq:ahb 83=ahc ny:=ahf
def EA:LSO:=[Ab 2 0,Ab 3 0,Ab 4 0]
def Ez:LSO:=[Aa 8 0,A5 9 8,AH 10 9 2]
def Ey:LSO:=[Ab 2 0,Ab 3 0,Ab 4 3]
def Ex:LSO:=[Aa 11 0,Bc 12 11 1,Bd 13 12,Aa 5 13]
def Ew:LSO:=[Aa 15 5,AH 16 15 128,Aa 14 16]
def Ev:LSO:=[Aa 17 5,Aa 2 17,Ab 3 2,Ab 4 0]
def Eu:LSO:=[Aa 19 5,A0 20 19 128,Aa 21 20,.grp none 21 false
 [Ah 22 21 5,AD 23 21 22 132]
 24 (tm 23),Aa 18 24]
def Et:LSO:=[Ab 2 0,Ab 3 0,Ab 4 8]
def Es:LSO:=[Aa 26 0,Aa 27 5,AM 28 27 128,o1 29 (.call 83 [(tm 26),(iv 2),(tm 28)]),Aa 25 29,Am 30 25,An 31 25,Aa 6 30,Aa 7 31]
def Er:LSO:=[Aa 33 7,A6 34 33,Aa 32 34]
def zo:LSO:=[Ab 2 0,Ab 3 0,Ab 4 3]
def zn:LSO:=[Aa 36 6,o1 37 (.bin .gtr (tm 36) (.av (.int .u64 1048576))),Aa 35 37]
def zm:LSO:=[Ab 2 0,Ab 3 0,Ab 4 5]
def zl:LSO:=[Aa 38 6,Bd 39 38,Aa 40 5,AM 41 40 126,Aa 2 39,Aa 3 41,Ab 4 0]
def yU:aI:=⟨42,(ag6 EA [] (.seq (ag6 Ez Cd (ag8 10 (.sreg Ey []))) (ag6 Ex Ce (.seq (.block 0 (ag6 Ew Cd (ag7 14 (ag6 Ev Co .ret) (ag6 Eu Cf (ag8 18 (.sreg Et [])))))) (ag6 Es Cv (.seq (.block 1 (ag6 Er Cd (ag7 32 (ag6 zo [] .ret) (ag6 zn Cd (ag8 35 (.sreg zm [])))))) (ag6 zl C9 .ret))))))),[(.tmp 2),(.tmp 3),(.tmp 4)]⟩
attribute [push_cast] EA Ez Ey Ex Ew Ev Eu Et Es Er zo zn zm zl
theorem Ou:ahb 181=ahc yU:=ahf
def HG:LSO:=[AF 2,As 3,Ab 4 0]
def HF:LSO:=[Aa 5 0,AE 6 152 5 1,Am 7 6,An 8 6,AO 9 6,Ai 3 2 7,Aa 3 8,Aa 4 9]
def nw:aI:=⟨10,(ag6 HG [] (ag6 HF Ck .ret)),[(.cell true 3 2),(.tmp 3),(.tmp 4)]⟩
attribute [push_cast] HG HF
theorem Gn:ahb 116=ahc nw:=ahf
def Hx:LSO:=[AF 4,As 5,Ab 6 0]
def Hw:LSO:=[Aa 16 1,A8 17 16 64,Aa 15 17]
def Hv:LSO:=[Bp 18,Ai 3 4 18,As 5,Ab 6 6]
def Hu:LSO:=[Aa 20 0,BE 21 20,Aa 19 21]
def Ht:LSO:=[Bp 22,Ai 3 4 22,As 5,Ab 6 3]
def Hs:LSO:=[Aa 24 0,Bc 25 24 0,o1 26 (.bin .and (tm 25) (.av (.int .u8 31))),o1 27 (.bin .eql (tm 26) (.av (.int .u8 31))),Aa 23 27]
def Hr:LSO:=[Bp 28,Ai 3 4 28,As 5,Ab 6 7]
def Hq:LSO:=[Aa 30 0,Ag 31 181 30,Aa 29 31,Am 32 29,An 33 29,AO 34 29,Aa 7 32,Aa 8 33,Aa 9 34]
def Hp:LSO:=[Aa 35 9,A0 36 35 0,Aa 37 36,.grp none 37 true
 [Ao 38 37 7,Ao 39 37 0,og 40 37 true (.len true (tm 39)),Ao 41 37 8,og 42 37 true (.bin .sub (tm 40) (tm 41)),og 43 37 true (.bin .gtr (tm 38) (tm 42))]
 44 (tm 43)]
def Ho:LSO:=[Ab 9 3]
def Ei:LSO:=[Aa 45 9,Az 46 45 0]
def Eh:LSO:=[Bp 47,Aa 48 9,Ai 3 4 47,As 5,Aa 6 48]
def Eg:List (aj×Kd):=
 [Ar 49 0,od 50 (.idxS (tm 49) (iv 0)) (.read 0 1),od 51 (.conv .i64 (tm 50)) .pure,od 52 (.build [(.int .i64 0),(.str []),(.sl [] 0 (some 0))] [(0,(1,(tm 51)))]) .pure,Ar 53 0,
 Ar 54 8,Ar 55 8,Ar 56 7,Bg 57 55 56,od 58 (.slS (tm 53) (some (tm 54)) (some (tm 57))) (.read 0 2),od 10 (.alloc [(.int .i64 0),(.str []),(.sl [] 0 (some 0))]) .eff,
 (⟨none,(.store 3 (tm 10) (tm 52)),none⟩,.eff)]
def zk:List aj :=
 [⟨(some 11),(.mv (tm 58)),none⟩]
def Ef:LSO:=[Aa 59 0,Bc 60 59 0,o1 61 (.bin .and (tm 60) (.av (.int .u8 32))),BV 62 61]
def Ee:LSO:=[Aa 63 11,Ad 64 1 10,Ai 1 64 63]
def Ed:List (aj×Kd):=
 [BW 65 3 10 0 0,Ar 66 0,Ar 67 8,Ar 68 7,Bg 69 67 68,BX 70 66 69 0 1,
 (⟨none,(.store 3 (tm 4) (tm 65)),none⟩,.eff)]
def zj:List aj :=
 [⟨(some 5),(.mv (tm 70)),none⟩,⟨(some 6),(.mv (iv 0)),none⟩]
def Ec:LSO:=[Aa 71 11,o1 72 (.bin .neq (tm 71) (.av (.str [])))]
def Eb:LSO:=[Aa 74 11,Aa 75 1,Aj 76 75 1,Ax 77 152 74 76,Aa 73 77,Am 78 73,An 79 73,AO 80 73,AF 12,Ai 3 12 78,Aa 13 79,Aa 14 80]
def Ea:LSO:=[Aa 81 14,Az 82 81 0]
def D9:LSO:=[Bp 83,Aa 84 14,Ai 3 4 83,As 5,Aa 6 84]
def D8:LSO:=[Ad 85 2 10,Ac 86 1 85,Ay 87 3 12,Bq 88 87,Bz 89 86 88,Ad 90 2 10,Ai 1 90 89]
def D7:LSO:=[Aa 91 13,Aa 11 91]
def D6:List (aj×Kd):=
 [BW 92 3 10 0 0,Ar 93 0,Ar 94 8,Ar 95 7,Bg 96 94 95,BX 97 93 96 0 1,
 (⟨none,(.store 3 (tm 4) (tm 92)),none⟩,.eff)]
def zi:List aj :=
 [⟨(some 5),(.mv (tm 97)),none⟩,⟨(some 6),(.mv (iv 0)),none⟩]
def bt:aI:=⟨98,(ag6 Hx [] (.seq (.block 0 (ag6 Hw Cd (ag7 15 (ag6 Hv Ci .ret) (ag6 Hu Cd (ag7 19 (ag6 Ht Ci .ret) (ag6 Hs Cf (ag8 23 (.sreg Hr Ci)))))))) (ag6 Hq Cr (.seq (ag6 Hp Ce (ag7 44 (.sreg Ho []) .skip)) (.seq (ag6 Ei Cc (ag8 46 (.sreg Eh Cs))) (.seq (.dregM Eg zk CA) (.seq (ag6 Ef Ce (ag7 62 (ag6 Ee Cw (.seq (.dregM Ed zj Cq) .ret)) .skip)) (.seq (ag9 1 (.seq (ag6 Ec Cc (aha 72 1)) (.block 2 (ag6 Eb CD (.seq (ag6 Ea Cc (ag8 82 (.sreg D9 Cs))) (ag6 D8 C3 (.sreg D7 Cc))))))) (.seq (.dregM D6 zi Cq) .ret))))))))),[(.cell true 3 4),(.tmp 5),(.tmp 6)]⟩
attribute [push_cast] Hx Hw Hv Hu Ht Hs Hr Hq Hp Ho Ei Eh Eg zk Ef Ee Ed zj Ec Eb Ea D9 D8 D7 D6 zi
theorem du:ahb 152=ahc bt:=ahf
def HE:LSO:=[AF 2,Ab 3 0]
def HD:LSO:=[Aa 8 0,Ag 9 116 8,Aa 7 9,Am 10 7,An 11 7,AO 12 7,AF 4,Ai 3 4 10,Aa 5 11,Aa 6 12]
def HC:LSO:=[Aa 13 6,A0 14 13 0,Aa 15 14,.grp none 15 true
 [Ao 16 15 5,og 17 15 true (.bin .neq (tm 16) (.av (.str [])))]
 18 (tm 17)]
def HB:LSO:=[Ab 6 4]
def HA:LSO:=[Aa 19 6,Az 20 19 0]
def Hz:LSO:=[Bp 21,Aa 22 6,Ai 3 2 21,Aa 3 22]
def Hy:LSO:=[Ay 23 3 4,Ai 3 2 23,Ab 3 0]
def ii:aI:=⟨24,(ag6 HE [] (ag6 HD Cr (.seq (ag6 HC Ce (ag7 18 (.sreg HB []) .skip)) (.seq (ag6 HA Cc (ag8 20 (.sreg Hz Cd))) (ag6 Hy Cc .ret))))),[(.cell true 3 2),(.tmp 3)]⟩
attribute [push_cast] HE HD HC HB HA Hz Hy
theorem sA:ahb 85=ahc ii:=ahf
def Ep:LSO:=[As 2]
def Eo:LSO:=[Aa 4 0,AH 5 4 128]
def En:LSO:=[Aa 6 0,AC 7 6,AE 8 67 7 1,Aa 2 8]
def Em:LSO:=[Ab 3 1]
def El:LSO:=[Aa 9 0,Aa 10 3,o1 11 (.bin .mul (iv 8) (tm 10)),o1 12 (.bin .shr (tm 9) (tm 11)),A8 13 12 0]
def Ek:LSO:=[Aa 14 3,Aj 15 14 1,Aa 3 15]
def Ej:LSO:=[Aa 16 3,B8 17 128 16,AC 18 17,AE 19 67 18 1,Aa 20 0,AC 21 20,Aa 22 3,Ax 23 67 21 22,A9 24 19 23,Aa 2 24]
def yT:aI:=⟨25,(ag6 Ep [] (.seq (ag6 Eo Cc (ag8 5 (.sreg En Ce))) (ag6 Em [] (.seq (ag9 0 (.seq (ag6 El Cf (aha 13 0)) (.block 1 (.sreg Ek Cd)))) (ag6 Ej Cl .ret))))),[(.tmp 2)]⟩
attribute [push_cast] Ep Eo En Em El Ek Ej
theorem Ot:ahb 107=ahc yT:=ahf
def MY:LSO:=[A1 1 0,As 2,Ab 3 0]
def MX:LSO:=[Ay 4 3 1,AE 5 79 4 1,Am 6 5,An 7 5,Aa 2 6,Aa 3 7]
def Mv:aI:=⟨8,(ag6 MY [] (ag6 MX Cx .ret)),[(.tmp 2),(.tmp 3)]⟩
attribute [push_cast] MY MX
theorem Sg:ahb 45=ahc Mv:=ahf
def MU:LSO:=[A1 2 0,As 4,Ab 5 0]
def MT:LSO:=[Aa 12 1,A8 13 12 64,Aa 11 13]
def MS:LSO:=[As 4,Ab 5 6]
def MR:LSO:=[Ad 15 0 2,Ac 16 1 15,AH 17 16 0,Aa 18 17,.grp none 18 false
 [A7 19 18 0 2,A4 20 18 1 19,AD 21 18 20 255]
 22 (tm 21),Aa 23 22,.grp none 23 false
 [A7 24 23 0 2,A4 25 23 1 24,og 26 23 false (.bin .and (tm 25) (iv 31)),AY 27 23 26 31]
 28 (tm 27),Aa 14 28]
def MQ:LSO:=[As 4,Ab 5 7]
def MP:LSO:=[Ad 30 0 2,Ac 31 1 30,o1 32 (.bin .and (tm 31) (iv 32)),Az 33 32 0,Aa 34 33,.grp none 34 true
 [AS 35 34 1 2,AN 36 34 1 35,og 37 34 true (.bin .neq (tm 36) (.av (.str [])))]
 38 (tm 37),Aa 39 38,.grp none 39 false
 [A7 40 39 0 2,A4 41 39 1 40,og 42 39 false (.bin .and (tm 41) (iv 32)),AY 43 39 42 0,Ah 44 39 43,.grp (some (39,false)) 44 true
 [AS 45 44 2 2,AN 46 44 1 45,Bm 47 44 46,og 48 44 true (.bin .gtr (tm 47) (iv 0))]
 49 (tm 48)]
 50 (tm 49),Aa 29 50]
def MO:LSO:=[As 4,Ab 5 4]
def MN:LSO:=[Ad 51 1 2,Ac 52 1 51,o1 53 (.s2bG (tm 52)),Aa 6 53]
def MM:LSO:=[Ad 54 2 2,Ac 55 1 54,Af 56 55,Ab 57 0]
def ML:LSO:=[Ap 58 57 56]
def Kj:LSO:=[Ak 59 3 55 57,Ay 60 3 59,AF 8,Ai 3 8 60]
def Ki:LSO:=[Ay 62 3 8,Aa 63 1,Aj 64 63 1,Ax 65 79 62 64,Aa 61 65,Am 66 61,An 67 61,Aa 9 66,Aa 10 67]
def Kh:LSO:=[Aa 68 10,Az 69 68 0]
def Kg:LSO:=[Aa 70 10,As 4,Aa 5 70]
def Kf:LSO:=[Aa 71 6,Aa 72 9,Bn 73 71 72,Aa 6 73]
def Ke:LSO:=[Aj 74 57 1,Aa 57 74]
def Kc:LSO:=[Aa 75 6,Af 76 75,A8 77 76 1048576]
def Kb:LSO:=[As 4,Ab 5 5]
def Ka:LSO:=[Ad 78 0 2,Ac 79 1 78,AC 80 79,AE 81 67 80 1,Aa 82 6,Af 83 82,Ag 84 107 83,A9 85 81 84,Aa 86 6,Bh 87 86,A9 88 85 87,Aa 4 88,Ab 5 0]
def lT:aI:=⟨89,(ag6 MU [] (.seq (.block 0 (ag6 MT Cd (ag7 11 (ag6 MS [] .ret) (ag6 MR Cj (ag7 14 (ag6 MQ [] .ret) (ag6 MP C4 (ag8 29 (.sreg MO [])))))))) (ag6 MN Ce (.seq (ag6 MM Co (ag9 1 (ag6 ML [] (.seq (aha 58 1) (.seq (.block 2 (ag6 Kj Cd (ag6 Ki Cv (.seq (ag6 Kh Cc (ag8 69 (.sreg Kg Ci))) (.sreg Kf Ce))))) (.sreg Ke Cc)))))) (.seq (ag6 Kc Cd (ag8 77 (.sreg Kb []))) (.seq (.sdreg Ka [.pure,(.read 0 0),.pure,(.read 0 0),.pure,(.read 0 0),(.read 0 0),.pure,.pure,(.read 0 0)] [true,true,false,false,false,false,false,false,false,false,false,false,false]) .ret)))))),[(.tmp 4),(.tmp 5)]⟩
attribute [push_cast] MU MT MS MR MQ MP MO MN MM ML Kj Ki Kh Kg Kf Ke Kc Kb Ka
theorem yS:aL Tryz.prog (λr i=>if r=7/\i=2 then 5 else 1) 79=some lT.raw:=ahf
def Na:LSO:=[As 2]
def M9:LSO:=[Ab 3 1]
def M8:LSO:=[Aa 4 3,AH 5 4 8,Aa 6 5,.grp none 6 true
 [Ao 7 6 0,Ao 8 6 3,og 9 6 true (.bin .mul (iv 8) (tm 8)),BT 10 6 9 1,og 11 6 true (.bin .shr (tm 7) (tm 10)),BF 12 6 11 0]
 13 (tm 12),Aa 14 13,.grp none 14 true
 [Ao 15 14 0,Ao 16 14 3,og 17 14 true (.bin .mul (iv 8) (tm 16)),BT 18 14 17 1,og 19 14 true (.bin .shr (tm 15) (tm 18)),BF 20 14 19 (-1)]
 21 (tm 20)]
def M7:LSO:=[Aa 22 3,Aj 23 22 1,Aa 3 23]
def MZ:LSO:=[Aa 24 0,AC 25 24,Aa 26 3,Ax 27 67 25 26,Aa 2 27]
def Mw:aI:=⟨28,(ag6 Na [] (ag6 M9 [] (.seq (ag9 0 (.seq (ag6 M8 Ch (aha 21 0)) (.block 1 (.sreg M7 Cd)))) (ag6 MZ Cf .ret)))),[(.tmp 2)]⟩
attribute [push_cast] Na M9 M8 M7 MZ
theorem Sh:ahb 39=ahc Mw:=ahf
def EJ:LSO:=[Ab 2 0,Al 3]
def EI:LSO:=[Aa 9 0,Aa 10 0,A5 11 10,o1 12 (.call 83 [(tm 9),(iv 0),(tm 11)]),Aa 8 12,Am 13 8,An 14 8,Aa 4 13,Aa 5 14]
def EH:LSO:=[Aa 15 5,A6 16 15]
def EG:LSO:=[Ab 2 0,Al 3]
def EF:LSO:=[Aa 17 0,A5 18 17,o1 19 (.bin .mul (iv 8) (tm 18)),o1 20 (.bin .sub (iv 64) (tm 19)),Aa 6 20]
def EE:LSO:=[Aa 21 4,Aa 22 6,o1 23 (.bin .shl (tm 21) (tm 22)),Bd 24 23,Aa 25 6,o1 26 (.bin .shr (tm 24) (tm 25)),Aa 7 26]
def ED:LSO:=[Aa 27 7,Ag 28 39 27,Aa 29 0,AT 30 28 29]
def EC:LSO:=[Ab 2 0,Al 3]
def EB:LSO:=[Aa 31 7,Aa 2 31,AA 3]
def yV:aI:=⟨32,(ag6 EJ [] (ag6 EI Cv (.seq (ag6 EH Cc (ag8 16 (.sreg EG []))) (ag6 EF Cf (ag6 EE Cg (.seq (ag6 ED Ce (ag8 30 (.sreg EC []))) (ag6 EB Ci .ret))))))),[(.tmp 2),(.tmp 3)]⟩
attribute [push_cast] EJ EI EH EG EF EE ED EC EB
theorem Ov:ahb 117=ahc yV:=ahf
def MW:LSO:=[AF 4]
def MV:LSO:=[Aa 5 0,Aa 6 1,Ag 7 78 6,o1 8 (.build [(.int .i64 0),(.str []),(.sl [] 0 (some 0))] [(0,(1,(tm 5))),(2,(1,(tm 7)))]),Ai 3 4 8]
def Mu:aI:=⟨9,(ag6 MW [] (ag6 MV Cp .ret)),[(.cell true 3 4)]⟩
attribute [push_cast] MW MV
theorem Sf:ahb 43=ahc Mu:=ahf
def J9:LSO:=[Aq 2]
def J8:LSO:=[Aq 3]
def J7:LSO:=[Aa 6 0,Af 7 6,Ab 8 0]
def J6:LSO:=[Ap 9 8 7]
def J5:LSO:=[Ak 10 3 6 8,Ay 11 3 10,AF 5,Ai 3 5 11]
def J4:List (aj×Kd):=
 [Ar 12 3,Au 13 0 5,Aw 14 1 13 0 0,Au 15 1 5,Aw 16 1 15 0 0,Au 17 2 5,Aw 18 1 17 0 0,AP 19 78 18 0 0,
 od 20 (.build [(.int .i64 0),(.str []),(.sl [] 0 (some 0))] [(0,(1,(tm 14))),(1,(1,(tm 16))),(2,(1,(tm 19)))]) .pure,
 od 21 (.bslice false 3 1 [(.int .i64 0),(.str []),(.sl [] 0 (some 0))] [(0,(3,(tm 20)))]) (.read 0 0)]
def Hn:List aj :=
 [⟨(some 22),(.app 1 3 48 [(.int .i64 0),(.str []),(.sl [] 0 (some 0))] (tm 12) (tm 21)),none⟩,⟨(some 3),(.mv (tm 22)),none⟩]
def J3:LSO:=[Aj 23 8 1,Aa 8 23]
def J2:LSO:=[Aa 24 3,Aa 2 24]
def Jq:aI:=⟨25,(ag6 J9 [] (ag6 J8 [] (.seq (ag6 J7 [] (ag9 0 (ag6 J6 [] (.seq (aha 9 0) (.seq (.block 1 (ag6 J5 Cd (.dregM J4 Hn CF))) (.sreg J3 Cc)))))) (ag6 J2 Cc .ret)))),[(.tmp 2)]⟩
attribute [push_cast] J9 J8 J7 J6 J5 J4 Hn J3 J2
theorem QK:ahb 78=ahc Jq:=ahf
def Kl:LSO:=[AF 4]
def Kk:LSO:=[Aa 5 0,Aa 6 1,o1 7 (.build [(.int .i64 0),(.str []),(.sl [] 0 (some 0))] [(0,(1,(tm 5))),(1,(1,(tm 6)))]),Ai 3 4 7]
def Jr:aI:=⟨8,(ag6 Kl [] (ag6 Kk Ct .ret)),[(.cell true 3 4)]⟩
attribute [push_cast] Kl Kk
theorem QL:ahb 38=ahc Jr:=ahf
def zI:LSO:=[AF 2]
def zH:LSO:=[Aa 3 0,BG 4 38 4 3,Ai 3 2 4]
def vN:aI:=⟨5,(ag6 zI [] (ag6 zH Cw .ret)),[(.cell true 3 2)]⟩
attribute [push_cast] zI zH
theorem Mx:ahb 40=ahc vN:=ahf
def dM:LSO:=[Aq 4]
def dL:LSO:=[Aq 5]
def dK:LSO:=[Aa 8 0,Af 9 8,Ab 10 0]
def dJ:LSO:=[Ap 11 10 9]
def dI:LSO:=[Ak 12 2 8 10,Ay 13 2 12,B0 7,Ai 2 7 13]
def dH:LSO:=[Aa 14 5,Aa 15 1,Ay 16 2 7,BH 17 15 16,Bq 18 17,Bz 19 14 18,Aa 5 19]
def dG:LSO:=[Aj 20 10 1,Aa 10 20]
def dF:LSO:=[Aa 21 5,Aa 4 21]
def bY:aI:=⟨22,(ag6 dM [] (ag6 dL [] (.seq (ag6 dK [] (ag9 0 (ag6 dJ [] (.seq (aha 11 0) (.seq (.block 1 (ag6 dI Cd (.sreg dH Cg))) (.sreg dG Cc)))))) (ag6 dF Cc .ret)))),[(.tmp 4)]⟩
attribute [push_cast] dM dL dK dJ dI dH dG dF
theorem jE:ahb 41=ahc bY:=ahf
def eN:LSO:=[Aq 4]
def eM:LSO:=[Aq 5]
def eK:LSO:=[Aa 8 0,Af 9 8,Ab 10 0]
def eJ:LSO:=[Ap 11 10 9]
def eI:LSO:=[Ak 12 1 8 10,Ac 13 1 12,Aa 7 13]
def eH:LSO:=[Aa 14 5,Aa 15 1,Aa 16 7,BH 17 15 16,Bq 18 17,Bz 19 14 18,Aa 5 19]
def eG:LSO:=[Aj 20 10 1,Aa 10 20]
def eF:LSO:=[Aa 21 5,Aa 4 21]
def cD:aI:=⟨22,(ag6 eN [] (ag6 eM [] (.seq (ag6 eK [] (ag9 0 (ag6 eJ [] (.seq (aha 11 0) (.seq (.block 1 (ag6 eI Cd (.sreg eH Cg))) (.sreg eG Cc)))))) (ag6 eF Cc .ret)))),[(.tmp 4)]⟩
attribute [push_cast] eN eM eK eJ eI eH eG eF
theorem kP:ahb 44=ahc cD:=ahf
def rz:LSO:=[A1 1 0,AF 2]
def ry:List (aj×Kd):=
 [Au 3 0 1,Aw 4 1 3 0 0,AP 5 40 4 0 0,Au 6 1 1,Aw 7 1 6 0 0]
def pf:List aj :=
 [⟨(some 8),(.call 44 [(tm 7),(.av (.func 40 []))]),none⟩,⟨(some 9),(.call 43 [(iv 49),(tm 8)]),none⟩,
 ⟨(some 10),(.bslice false 3 2 [(.int .i64 0),(.str []),(.sl [] 0 (some 0)),(.int .i64 0),(.str []),(.sl [] 0 (some 0))] [(0,(3,(tm 5))),(3,(3,(tm 9)))]),none⟩,
 ⟨(some 11),(.call 43 [(iv 48),(tm 10)]),none⟩,⟨none,(.store 3 (tm 2) (tm 11)),none⟩]
def lU:aI:=⟨12,(ag6 rz [] (.seq (.dregM ry pf [false,false,false,false,false,false,false,false,false]) .ret)),[(.cell true 3 2)]⟩
attribute [push_cast] rz ry pf
theorem G1:ahb 42=ahc lU:=ahf
def wX:LSO:=[A1 1 0,As 2,Ab 3 0]
def wW:LSO:=[Ad 11 0 1,Ac 12 1 11,AH 13 12 1,Aa 14 13,.grp none 14 false
 [A7 15 14 0 1,A4 16 14 1 15,AD 17 14 16 4]
 18 (tm 17)]
def wV:LSO:=[As 2,Ab 3 24]
def wU:LSO:=[Ad 19 0 1,Ac 20 1 19,Ag 21 39 20,BG 22 38 2 21,Bq 23 22,Aa 4 23]
def wT:LSO:=[Ad 24 1 1,Ac 25 1 24,Bi 26 25,Aa 5 26]
def wS:LSO:=[Ad 27 0 1,Ac 28 1 27,A0 29 28 4]
def wR:LSO:=[Aa 30 5,Ad 31 2 1,Ac 32 1 31,Bi 33 32,B3 34 30 33,Aa 5 34]
def wQ:LSO:=[Aa 35 5,Af 36 35,Ab 37 0]
def wP:LSO:=[Ap 38 37 36]
def wO:LSO:=[Ak 39 1 35 37,Ac 40 1 39,Aa 7 40]
def tQ:LSO:=[Aa 42 7,Ag 43 35 42,Aa 41 43,Am 44 41,An 45 41,Aa 8 44,Aa 9 45]
def tP:LSO:=[Aa 46 9,Az 47 46 0]
def tO:LSO:=[Aa 48 9,As 2,Aa 3 48]
def tN:LSO:=[Aa 49 4,Aa 50 8,Ag 51 40 50,Bq 52 51,Bz 53 49 52,Aa 4 53]
def tM:LSO:=[Aj 54 37 1,Aa 37 54]
def tL:LSO:=[Ad 55 0 1,Ac 56 1 55,Az 57 56 2]
def tK:LSO:=[Ad 58 3 1,Ac 59 1 58,o1 60 (.call 41 [(tm 59),(.av (.func 42 []))]),Aa 10 60]
def tJ:LSO:=[Aa 61 4,Aa 62 10,BG 63 43 48 62,Bq 64 63,Bz 65 61 64,Aa 4 65]
def tI:LSO:=[Aa 66 4,BG 67 43 48 66,Ag 68 45 67,Am 69 68,An 70 68,Aa 2 69,Aa 3 70]
def ij:aI:=⟨71,(ag6 wX [] (.seq (ag6 wW Cf (ag8 18 (.sreg wV []))) (ag6 wU Ch (ag6 wT Ce (.seq (ag6 wS Cd (ag7 29 (.sreg wR Ch) .skip)) (.seq (ag6 wQ [] (ag9 0 (ag6 wP [] (.seq (aha 38 0) (.seq (.block 1 (ag6 wO Cd (ag6 tQ Ck (.seq (ag6 tP Cc (ag8 47 (.sreg tO Ci))) (.sreg tN Ch))))) (.sreg tM Cc)))))) (.seq (ag6 tL Cd (ag7 57 (ag6 tK Ce (.sreg tJ Ch)) .skip)) (ag6 tI Ck .ret)))))))),[(.tmp 2),(.tmp 3)]⟩
attribute [push_cast] wX wW wV wU wT wS wR wQ wP wO tQ tP tO tN tM tL tK tJ tI
theorem vF:ahb 14=ahc ij:=ahf
attribute [push_cast] Gp ny nw bt ii Mv lT Mw Jq Jr vN bY cD lU
variable {L:List Blk}{K:aeh}
set_option maxHeartbeats 8000000
set_option maxRecDepth 100000
theorem SV:∀n,cY [AV.int IntKind.u8 0] n=List.replicate n (AV.int .u8 0)
 |0=>rfl
 |n+1=>by rw[cY,SV n,List.replicate_succ];rfl
theorem Ye(c:UInt8)(s:List UInt8):u8s (c::s)=.int .u8 c.toNat::u8s s:=rfl
theorem O4(s:List UInt8):(u8s s).all QI=true:=by rw[aev];intro a b;simp only[u8s,ael]at b;obtain⟨c,_,rfl⟩:=b;rfl
theorem Uq(s:List UInt8):(u8s s).map Ob=s:=by simp only[u8s,aeH];refine(afk λc _=>?_).trans (List.map_id _);simp[Ob]
theorem OI(s:List UInt8):(u8s s).length=s.length:=by simp[u8s]
def Oe(n k i:Nat):List AV:=List.replicate (k-i) (AV.int .u8 0)++u8s (ev n i)
theorem S5{i:Nat}(h:i<=k):(Oe n k i).length=k:=by rw[Oe,aez,af3,OI,ff];omega
theorem Uw(A:List AV)(x v:AV)(s:List AV):bP (A++x::s) A.length [v]=A++v::s:=by simp[bP]
theorem W2{i:Nat}(h:i<k):bP (Oe n k i) (k-1-i) [.int .u8 ((n/256^i%256:Nat):Int)]=Oe n k (i+1):=by obtain⟨j,rfl⟩:∃j,k=i+1+j:=⟨k-i-1,ahd⟩;have b:i+1+j-i=j+1:=ahd;have a:i+1+j-1-i=j:=ahd;have c:i+1+j-(i+1)=j:=ahd;rw[Oe,Oe,b,a,c,Rb,Ye,JD,List.replicate_succ',aew];have:=Uw (List.replicate j (AV.int .u8 0)) (.int .u8 0) (.int .u8 ((n/256^i%256:Nat):Int)) (u8s (ev n i));rw[af3]at this;exact this
theorem lO(v:1<=k)(I:k<=8)(D:n<18446744073709551616)(h:K (.str (ev n k)) L):aeg 67 [.int .u64 (n:Int),.int .i64 (k:Int)] L K:=by
 replace h:=hid h;have g1:¬(k:Int)<1:=ahd;have B:¬(8:Int)<(k:Int):=ahd;have J:cY [AV.int IntKind.u8 0] k=Oe n k 0:=by simp[SV,Oe,ev,u8s]
 refine aef Qh ?_;refine ao (λm T' L'=>∃(i x:Nat) (C:List AV),m=k-i/\i<=k/\Hid (x=n/256^i)/\Hid (C=Oe n k i)/\C.length=k/\T'=[(17,.int .i64 (i:Int)),(16,.int .i64 (k:Int)),(5,.lsl L.length 0 k (some k) 1),(0,.int .u64 (x:Int)),(1,.int .i64 (k:Int))]/\L'=L++[.cells C]) ahh ⟨0,n,_,rfl,aep _,hid ahe,hid rfl,S5 (aep _),rfl,rfl⟩ ?_;rintro _ _ _ ⟨i,x,C,rfl,G,e,q,l,rfl,rfl⟩;by_cases a:i<k;have g3:(i:Int)<(k:Int):=ahd;have F:=aee i ahd;have A:IntKind.i64.wrap ((k:Int)-1)=(k:Int)-1:=ac ahd ahd;have E:IntKind.i64.wrap ((k:Int)-1-(i:Int))=(k:Int)-1-(i:Int):=ac ahd ahd;have g4:(0:Int)<=(k:Int)-1-(i:Int):=ahd;have H:(k:Int)-1-(i:Int)<(k:Int):=ahd;have s:((k:Int)-1-(i:Int)).toNat=k-1-i:=ahd;have t:x<=n:=by rw[e.o];exact Nat.div_le_self _ _
 have d:=W2 (n:=n) a;rw[<- q.o]at d;obtain⟨z,j⟩:∃z:Int,((n/256^i%256:Nat):Int)=z:=⟨_,rfl⟩;have u:IntKind.u8.wrap (x:Int)=z:=by rw[<- j,<- e.o];simp only[IntKind.wrap,IntKind.signed,IntKind.bits];simp
 have w:((x:Int)).fdiv (2^min 8 IntKind.u64.bits)=((x/256:Nat):Int):=by rw[show(2:Int)^min 8 IntKind.u64.bits=256 by decide,agZ _ (by decide)];rfl
 rw[j]at d;have r:C.take (k-1-i)++AV.int .u8 z::C.drop (k-1-i+1)=Oe n k (i+1):=by rw[<- d];simp[bP]
 clear d j;have p:(Oe n k (i+1)).length=k:=S5 a;have f:x/256=n/256^(i+1):=by rw[e.o,agY,Nat.pow_succ]
 have y:k-1-i<C.length:=ahd;replace f:=hid f;refine wk ?_;exact ahi ahd ahg ⟨i+1,x/256,_,rfl,a,hid f.o,hid rfl,p,rfl,rfl⟩;have g:i=k:=ahd;subst g;have g3:¬(i:Int)<(i:Int):=ahd;have c:=q.o;rw[Oe,afW]at c;have b:C=u8s (ev n i):=by simpa using c
 have s:C.all QI=true:=by rw[b];exact O4 _
 have d:C.map Ob=ev n i:=by rw[b];exact Uq _
 have p:C.take i=C:=by rw[<- l,aeI]
 clear c b;refine wk ?_;exact af rfl h.o
theorem Wg{a z:Int}(f:0<=a)(g:z<=9223372036854775807)(e:(s.length:Int)<=9223372036854775807)(b:¬(1<=z/\z<=8/\a+z<=s.length))(h:K (.tup [.int .u64 0,.bool false]) L):aeg 83 [.str s,.int .i64 a,.int .i64 z] L K:=by replace h:=hid h;refine aa Gq (by simp[ny]) ?_;simp only[ny,am];by_cases i:z<1;clear b;refine wk ?_;exact ag h.o;by_cases c:8<z;clear b;refine wk ?_;exact ag h.o;have z3:¬a<0:=ahd;have d:IntKind.i64.wrap ((s.length:Int)-z)=(s.length:Int)-z:=ac ahd ahd;have z4:(s.length:Int)-z<a:=ahd;clear b;refine wk ?_;exact ag h.o
theorem Gd{a z:Nat}(y:s.length<=1100000)(A:1<=z)(O:z<=8)(P:a+z<=s.length)(h:K (.tup [.int .u64 (bW ((s.drop a).take z):Nat),.bool true]) L):aeg 83 [.str s,.int .i64 (a:Int),.int .i64 (z:Int)] L K:=by
 replace h:=hid h;have J:¬(z:Int)<1:=ahd;have E:¬(8:Int)<(z:Int):=ahd;have z3:¬(a:Int)<0:=ahd;have M:IntKind.i64.wrap ((s.length:Int)-(z:Int))=(s.length:Int)-(z:Int):=ac ahd ahd;have z4:¬(s.length:Int)-(z:Int)<(a:Int):=ahd;have C:IntKind.i64.wrap ((a:Int)+(z:Int))=(a:Int)+(z:Int):=ac ahd ahd;have F:((a:Int)+(z:Int)).toNat=a+z:=ahd;obtain⟨t,f⟩:=aec ((s.drop a).take z);have l:t.length=z:=by rw[<- f];simp;omega
 rw[f]at h;have G:(s.drop a).take (a+z-a)=t:=by rw[<- f];congr 1;omega
 clear f;refine aef Gq ?_;refine ao (λm T' L'=>∃(i x:Nat),m=z-i/\i<=z/\Hid (x=bW (t.take i))/\T'=[(37,.int .i64 (i:Int)),(36,.int .i64 (z:Int)),(35,.sl (u8s t) z none),(8,.int .u64 (x:Int))]/\L=L') (CutL (b:=aek _)) ⟨0,0,rfl,aep _,hid rfl,rfl,rfl⟩ ?_;rintro _ _ _ ⟨i,x,rfl,N,j,rfl,rfl⟩;by_cases g:i<z;have g1:(i:Int)<(z:Int):=ahd;have I:=aee i ahd;obtain⟨c,q⟩:=aec (t.getD i 0);have d:i<t.length:=ahd;have D:(u8s t).getD i .undef=.int .u8 (c.toNat:Int):=by rw[<- q];simp[u8s,d]
 have r:t.take (i+1)=t.take i++[c]:=by rw[aeM d,<- q];simp[d]
 have p:bW (t.take (i+1))=256*x+c.toNat:=by rw[r,PQ,j.o]
 have k:x<2^56:=by have u:=OX (t.take i);rw[<- j.o]at u;have v:(t.take i).length<=7:=(by simp;omega);exact afs u (aeR (Nat.pow_le_pow_right ahd v) (by decide))
 have w:IntKind.u64.wrap (BitVec.ofInt IntKind.u64.bits (IntKind.u64.wrap ((x:Int)*2^min 8 IntKind.u64.bits)) |||BitVec.ofInt IntKind.u64.bits (c.toNat:Int)).toNat=((256*x+c.toNat:Nat):Int):=aa4 k;have B:IntKind.u64.wrap (c.toNat:Int)=(c.toNat:Int):=I4 ahd (by have:=c.toNat_lt;omega);have H:i<(u8s t).length:=by rw[OI];exact d
 clear r q;replace p:=hid p;refine wk ?_;exact ahi ahd (CutL (b:=aek _)) ⟨i+1,256*x+c.toNat,rfl,g,hid p.o.symm,rfl,rfl⟩;have n:i=z:=ahd;subst n;have g1:¬(i:Int)<(i:Int):=ahd;have e:=h.o;rw[show bW t=x by rw[j.o,<- l,aeI]]at e;replace e:=hid e;refine wk ?_;exact ag e.o
theorem OO(a:n<18446744073709551616)(h:K (.str [b8 n]) L):aeg 67 [.int .u64 (n:Int),.int .i64 1] L K :=
 lO (k:=1) ahd ahd a (by simpa[ev]using h)
theorem Tu(E:n<=1048576)(h:K (.str (yM n)) L):aeg 107 [.int .i64 (n:Int)] L K:=by
 unfold yM at h;have H:IntKind.u64.wrap (n:Int)=(n:Int):=I4 ahd ahd;refine aa Ot (by simp[yT]) ?_;simp only[yT,am];by_cases g:n<128;rw[if_pos g]at h;replace h:=hid h;have g1:(n:Int)<128:=ahd;clear g;have kk1:=@ahk _ _ _ _ (OO (n:=n) ahd);refine wk ?_;exact ag h.o;rw[if_neg g]at h;have g1:¬(n:Int)<128:=ahd;obtain⟨k,c⟩:∃k:Nat,(if n<256 then 1 else if n<65536 then 2 else 3)=k:=⟨_,rfl⟩;have v:K (.str (b8 (128+k)::ev n k)) L:=by split at h;rename_i e;rw[if_pos e]at c;subst c;simpa[ev,show b8 129=129 from rfl]using h;rename_i e;rw[if_neg e]at c;split at h;rename_i r;rw[if_pos r]at c;subst c;simpa[ev,show b8 130=130 from rfl]using h;rename_i r;rw[if_neg r]at c;subst c;simpa[ev,agY,show b8 131=131 from rfl]using h
 have p:1<=k/\k<=3/\n/2^(8*k)=0/\∀j,1<=j->j<k->0<n/2^(8*j):=by rw[<- c];split;refine⟨ahd,ahd,by simp;omega,λj a b=>ahd⟩;split;refine⟨ahd,ahd,by simp;omega,λj a b=>?_⟩;have:j=1:=ahd;subst this;simp;omega;refine⟨ahd,ahd,by simp;omega,λj a b=>?_⟩;have:j=1\/j=2:=ahd;rcases this with rfl|rfl<;>simp<;>omega
 obtain⟨x,D,l,u⟩:=p;replace h:=hid v;clear c v g;replace l:=hid l;replace u:=hid u;refine wk ?_;refine ao (λm T' L'=>∃(i:Nat),m=k-i/\1<=i/\i<=k/\T'=[(3,.int .i64 (i:Int)),(0,.int .i64 (n:Int))]/\L=L') (CutL (b:=aek _)) ⟨1,rfl,aek _,x,rfl,rfl⟩ ?_;rintro _ _ _ ⟨i,rfl,s,I,rfl,rfl⟩;have C:=aee i ahd;have G:IntKind.i64.wrap (8*(i:Int))=8*(i:Int):=ac ahd ahd;have A:IntKind.i64.wrap (128+(i:Int))=128+(i:Int):=ac ahd ahd;have B:IntKind.u64.wrap (128+(i:Int))=((128+i:Nat):Int):=by rw[I4 ahd ahd];simp
 have y:(n:Int).fdiv (2^min (8*(i:Int)).toNat IntKind.i64.bits)=((n/2^(8*i):Nat):Int):=by
  rw[show min (8*(i:Int)).toNat IntKind.i64.bits=8*i by simp[IntKind.bits];omega];rw[agZ _ (Int.le_of_lt (Int.pow_pos (by decide)))]
  norm_cast
 have F:(0:Int)<=8*(i:Int):=ahd;obtain⟨q,f⟩:=aec (n/2^(8*i));rw[f]at y;by_cases d:i<k;have w:0<q:=by rw[<- f];exact u.o i s d
 have g3:(0:Int)<(q:Int):=ahd;clear f;refine wk ?_;exact ahi ahd (CutL (b:=aek _)) ⟨i+1,rfl,ahd,d,rfl,rfl⟩;have t:i=k:=ahd;subst t;have w:q=0:=by rw[<- f];exact l.o
 subst w;have g3:¬(0:Int)<((0:Nat):Int):=by decide
 have z:=ff n i;clear f d;have kk1:=@ahk _ _ _ _ (OO (n:=128+i) ahd);have kk2:=@ahk _ _ _ _ (lO (n:=n) (k:=i) ahd ahd ahd);refine wk ?_;exact ag h.o
def ad7:Except Int (Nat×Nat)->AV
 |.error e=>.tup [.int .i64 0,.int .i64 0,.int .i64 e]
 |.ok (n,a)=>.tup [.int .i64 (n:Int),.int .i64 (a:Int),.int .i64 0]
theorem T6(w:s.length<=1100000)(h:K (ad7 (MH s)) L):aeg 181 [.str s] L K:=by
 unfold MH at h;refine aa Ou (by simp[yU]) ?_;simp only[yU,am];by_cases d:s.length<2;rw[if_pos d]at h;replace h:=hid h;have g1:(s.length:Int)<2:=ahd;clear d;refine wk ?_;exact ag h.o;rw[if_neg d]at h;have g1:¬(s.length:Int)<2:=ahd;have B:(1:Int)<(s.length:Int):=ahd;have g3:1<s.length:=ahd;obtain⟨c,t⟩:=aec (s.getD 1 0);obtain⟨k,m⟩:=aec (c.toNat);simp only[t,m]at h;have l:k<256:=by rw[<- m];exact c.toNat_lt
 have u:IntKind.i64.wrap (k:Int)=(k:Int):=ac ahd ahd;by_cases e:k<128;rw[if_pos e]at h;replace h:=hid h;have g4:(k:Int)<128:=ahd;clear e d;refine wk ?_;exact ag h.o;rw[if_neg e]at h;have g4:¬(k:Int)<128:=ahd;by_cases h4:k=128\/132<k;rw[if_pos h4]at h;replace h:=hid h;obtain⟨b,r⟩:=aec (decide ((k:Int)=128\/(132:Int)<(k:Int)));have j:b=true:=by rw[<- r,decide_eq_true_iff];omega
 subst j;clear h4 e d;refine wk ?_;exact ag h.o;rw[if_neg h4]at h;have A:¬(k:Int)=128:=ahd;have x:¬(132:Int)<(k:Int):=ahd;have y:IntKind.i64.wrap ((k:Int)-128)=((k-128:Nat):Int):=by rw[ac ahd ahd];omega
 have C:IntKind.i64.wrap ((k:Int)-126)=((k-126:Nat):Int):=by rw[ac ahd ahd];omega
 by_cases f:s.length<k-126;rw[if_pos f]at h;replace h:=hid h;have kk1:Hid (Ctr Tryz.prog 83 [.str s,.int .i64 2,.int .i64 ((k-128:Nat):Int)] (.tup [.int .u64 0,.bool false])):=@hid _ (by intro L K q;exact Wg ahd ahd ahd ahd q);clear f h4 e d;refine wk ?_;exact ag h.o;rw[if_neg f]at h;obtain⟨n,i⟩:=aec (bW ((s.drop 2).take (k-128)));have kk1:Hid (Ctr Tryz.prog 83 [.str s,.int .i64 2,.int .i64 ((k-128:Nat):Int)] (.tup [.int .u64 (n:Int),.bool true])):=@hid _ (by intro L K q;exact Gd (a:=2) (z:=k-128) ahd ahd ahd ahd (by rw[i];exact q));rw[i]at h;by_cases g:1048576<n;rw[if_pos g]at h;replace h:=hid h;have p:(1048576:Int)<(n:Int):=ahd;clear g f h4 e d i;refine wk ?_;exact ag h.o;rw[if_neg g]at h;replace h:=hid h;have p:¬(1048576:Int)<(n:Int):=ahd;have v:IntKind.i64.wrap (n:Int)=(n:Int):=ac ahd ahd;clear g f h4 e d i;refine wk ?_;exact ag h.o
theorem UZ{n:Int}(w : -9223372036854775808<=n)(z:n<9223372036854775808)(h:K (.str (UY n)) L):aeg 39 [.int .i64 n] L K:=by
 obtain⟨k,r⟩:=aec (Xn n 7 1);rw[UY,r]at h;replace h:=hid h;have w0:IntKind.u64.wrap n=((n%18446744073709551616).toNat:Int):=by simp only[IntKind.wrap,IntKind.signed,IntKind.bits];simp;omega
 have f:(n%18446744073709551616).toNat<18446744073709551616:=ahd;obtain⟨m,e⟩:=aec ((n%18446744073709551616).toNat);rw[e]at w0 f h;clear e;refine aef Sh ?_;refine ao (λm T' L'=>∃(i:Nat),m=8-i/\1<=i/\i<=8/\Hid (Xn n (8-i) i=k)/\T'=[(3,.int .i64 (i:Int)),(0,.int .i64 n)]/\L=L') (CutL (b:=aek _)) ⟨1,rfl,aek _,ahd,hid r,rfl,rfl⟩ ?_;rintro _ _ _ ⟨i,rfl,d,B,g,rfl,rfl⟩;have D:=aee i ahd;have E:IntKind.i64.wrap (8*(i:Int))=8*(i:Int):=ac ahd ahd;have x:IntKind.i64.wrap (8*(i:Int)-1)=8*(i:Int)-1:=ac ahd ahd;have y:min (8*(i:Int)-1).toNat IntKind.i64.bits=8*i-1:=by simp[IntKind.bits];omega
 have C:(0:Int)<=8*(i:Int)-1:=ahd;obtain⟨q,t⟩:=aec (n.fdiv (2^(8*i-1)));by_cases c:i<8/\q≠0/\q≠-1;obtain⟨A,u,v⟩:=c;have a:=g.o;rw[show 8-i=(7-i)+1 by omega,Xn,t,if_neg (by simp[u,v])]at a;have g3:(i:Int)<8:=ahd;replace a:=hid a;clear g;refine wk ?_;exact ahi ahd (CutL (b:=aek _)) ⟨i+1,rfl,ahd,ahd,hid (by rw[show 8-(i+1)=7-i by omega];exact a.o),rfl,rfl⟩;have j:i=k:=by have a:=g.o;by_cases s:i=8;subst s;exact a;rw[show 8-i=(7-i)+1 by omega,Xn,t,if_pos ahd]at a;exact a
 subst j;clear g;by_cases s:(i:Int)<8;by_cases l:q=0;clear c;subst l;have kk1:=@ahk _ _ _ _ (lO (n:=m) (k:=i) d ahd f);refine wk ?_;exact ag h.o;have p:q=-1:=ahd;clear c;subst p;have kk1:=@ahk _ _ _ _ (lO (n:=m) (k:=i) d ahd f);refine wk ?_;exact ag h.o;clear c;have kk1:=@ahk _ _ _ _ (lO (n:=m) (k:=i) d ahd f);refine wk ?_;exact ag h.o
def ad4(o:Option Int):AV:=match o with
 |some k=>.tup [.int .i64 k,.bool true]
 |none=>.tup [.int .i64 0,.bool false]
theorem Ri(v:s.length<=1100000)(h:K (ad4 (UK s)) L):aeg 117 [.str s] L K:=by
 unfold UK at h;refine aa Ov (by simp[yV]) ?_;simp only[yV,am];by_cases g:1<=s.length/\s.length<=8;rotate_left;rw[if_neg (λe=>g ⟨e.1,e.2.1⟩)]at h;replace h:=hid h;have kk1:Hid (Ctr Tryz.prog 83 [.str s,.int .i64 0,.int .i64 (s.length:Int)] (.tup [.int .u64 0,.bool false])):=@hid _ (by intro L K q;exact Wg ahd ahd ahd ahd q);clear g;refine wk ?_;exact ag h.o;obtain⟨l,f⟩:=aec (s.length);obtain⟨u,j⟩:=aec (bW s);have c:u<256^l:=by rw[<- j,<- f];exact OX s
 have r:=WP (u:=u) ahd (show l<=8 by omega) c;have kk1:Hid (Ctr Tryz.prog 83 [.str s,.int .i64 0,.int .i64 (l:Int)] (.tup [.int .u64 (u:Int),.bool true])):=@hid _ (by intro L K q;rw[<- f];refine Gd (a:=0) (z:=s.length) ahd ahd ahd ahd ?_;rw[agw,aeI,j];exact q)
 obtain⟨n,k⟩:=aec (aaS s);have b:(if u<2^(8*l-1)then(u:Int)else(u:Int)-2^(8*l))=n:=by rw[<- k,aaS,j,f]
 rw[b]at r;have t:IntKind.i64.wrap (8*(l:Int))=8*(l:Int):=ac ahd ahd;have w:IntKind.i64.wrap (64-8*(l:Int))=64-8*(l:Int):=ac ahd ahd;have y:min (64-8*(l:Int)).toNat IntKind.u64.bits=64-8*l:=by simp[IntKind.bits];omega
 have A:min (64-8*(l:Int)).toNat IntKind.i64.bits=64-8*l:=by simp[IntKind.bits];omega
 have g1:(0:Int)<=64-8*(l:Int):=ahd;have d : -9223372036854775808<=n/\n<9223372036854775808:=by have p:l=1\/l=2\/l=3\/l=4\/l=5\/l=6\/l=7\/l=8:=ahd;rw[<- b];rcases p with rfl|rfl|rfl|rfl|rfl|rfl|rfl|rfl<;>simp at c⊢<;>split<;>omega
 rw[k]at h;by_cases i:UY n=s;rw[if_pos ⟨g.1,g.2,i⟩]at h;replace h:=hid h;have kk2:Hid (Ctr Tryz.prog 39 [.int .i64 n] (.str s)):=@hid _ (by intro L K q;exact UZ d.1 d.2 (by rw[i];exact q));clear i k b c j g;refine wk ?_;exact ag h.o;rw[if_neg (λe=>i e.2.2)]at h;replace h:=hid h;obtain⟨x,m⟩:=aec (UY n);have kk2:Hid (Ctr Tryz.prog 39 [.int .i64 n] (.str x)):=@hid _ (by intro L K q;exact UZ d.1 d.2 (by rw[m];exact q));rw[m]at i;clear m k b c j g;refine wk ?_;exact ag h.o
theorem Za(h:K (.agg (ndA (.mk t d []))) L):aeg 38 [.int .i64 t,.str d] L K:=by rw[bQ]at h;replace h:=hid h;refine aef QL ?_;exact aB (af rfl h.o)
theorem Us(h:K (.agg (ndA (bA d))) L):aeg 40 [.str d] L K:=by rw[bA,bQ]at h;replace h:=hid h;have kk1:Hid (Ctr Tryz.prog 38 [.int .i64 4,.str d] (.agg [.int .i64 4,.str d,.sl [] 0 none])):=@hid _ (by intro L K q;exact Za (by rw[bQ];exact q));refine aef Mx ?_;exact aB (af rfl h.o)
theorem Pw{l:List Nd}(v:l.length<=1100000)(H:∀n∈l,∀{cap:Option Nat}{L:List Blk}{K:aeh},K (.sl (aC n.kids) n.kids.length none) L->aeg 78 [.sl (aC n.kids) n.kids.length cap] L K){L:List Blk}{K:aeh}(h:K (.sl (aC l) l.length none) L):aeg 78 [.sl (aC l) l.length cap] L K:=by
 replace h:=hid h;replace H:=@hid _ @H;refine aef QK ?_;refine cB (l:=[]) (n:=0) 3 3 rfl (aeW 3).symm ?_;refine ao (λm T' L'=>∃(k:Nat) (C:List AV) (X:List Blk),m=l.length-k/\k<=l.length/\C=aC (l.take k)/\T'=[(8,.int .i64 (k:Int)),(7,.int .i64 l.length),(6,.sl (aC l) l.length cap),(3,.gsl C k L.length 3)]/\L'=L++(.spare k 3::X)) ahh ⟨0,[],[],rfl,aep _,rfl,rfl,rfl⟩ ?_;rintro _ _ _ ⟨k,C,X,rfl,r,f,rfl,rfl⟩;by_cases b:k<l.length;have g1:(k:Int)<(l.length:Int):=ahd;have u:=aee k ahd;have p:=yH b;have s:k*3+3<=(aC l).length:=by rw[ic];omega
 obtain⟨⟨t,d,c⟩,g⟩:∃a,l.getD k ce=a:=⟨_,rfl⟩;have e:aC (l.take (k+1))=aC (l.take k)++[.int .i64 t,.str d,.sl (aC c) c.length none]:=by rw[aeM b,sn,show l[k]=.mk t d c by rw[<- g];simp[b],aC,bQ];rfl
 have kk1:Hid (Ctr Tryz.prog 78 [.sl (aC c) c.length none] (.sl (aC c) c.length none)):=@hid _ (by intro L K q;exact H.o (.mk t d c) (by rw[<- g];simp[b]) q)
 rw[g,bQ]at p;have j:=cT c;replace e:=hid e;replace f:=hid f;clear g;refine wk ?_;exact ahi ahd ahg ⟨k+1,_,_,rfl,b,by rw[e.o,f.o],rfl,rfl⟩;have i:k=l.length:=ahd;subst i;have g1:¬(l.length:Int)<(l.length:Int):=ahd;rw[aeI]at f;subst f;have j:=cT l;refine wk ?_;refine aB ?_;simp only[AV.frz,j];exact af (by simp only[AV.refs,fX]) h.o
theorem Th(h:K (.sl [] 0 none) L):aeg 78 [.sl [] 0 cap] L K:=Pw (l:=[]) ahe (λn a=>by cases a) h
theorem V3:∀(h:Nat){l:List Nd}{cap:Option Nat}(b:l.length<=1100000) (a:∀n∈l,okN h n){L:List Blk}{K:aeh}(c:K (.sl (aC l) l.length none) L),aeg 78 [.sl (aC l) l.length cap] L K
 |0,l,cap,b,a,L,K,c=>Pw b (λn f=>by intro cap L K q;obtain⟨t,d,g⟩:=n;obtain⟨_,rfl,_⟩:=a _ f;exact Th q) c
 |h+1,l,cap,b,a,L,K,c=>Pw b (λn f=>by intro cap L K q;obtain⟨t,d,g⟩:=n;rcases a _ f with⟨_,rfl,_⟩|⟨_,_,i,e⟩;exact Th q;exact V3 h (l:=g) ahd e q) c
theorem VO{h:Nat}{t:Int}{l:List Nd}{cap:Option Nat}(b:l.length<=1100000)(c:∀n∈l,okN h n){L:List Blk}{K:aeh}(a:K (.agg (ndA (.mk t [] l))) L):aeg 43 [.int .i64 t,.sl (aC l) l.length cap] L K:=by rw[bQ]at a;replace a:=hid a;have d:=cT l;refine aa Sf (by simp[Mu]) ?_;simp only[Mu,am];have kk1:=@ahk _ _ _ _ (V3 h (cap:=cap) b c);refine wk ?_;refine aB ?_;simp only[AV.frz,AV.frzL,d];exact af (by simp only[AV.refs,AV.refsL,fX];rfl) a.o
theorem OU(n:Nat):(yM n).length<=4:=by
 unfold yM
 repeat' split
 all_goals simp
theorem YR:∀(h:Nat) (n:Nd),(fe h n).2=0->(fe h n).1.length<=1048581
 | 0,.mk t d ks,h=>by
   rw[fe]at h⊢;split at h
   .cases h
   rename_i e;have:=OU d.length;rw[if_neg e];simp;omega
 | k+1,.mk t d ks,h=>by
   rw[fe]at h⊢;split at h
   .rename_i e;exact absurd h e
   rename_i e;rw[if_neg e];split at h
   .cases h
   rename_i a;have:=OU (sy (fe k) d ks).1.length;rw[if_neg a];simp;omega
theorem Ra{a:Int}(h:Nat)(c:t=2\/t=4)(hd:(d.length:Int)<=140737488351232)(r:1<=a)(i:a<=64)(b:K (.tup [.str (fe h (.mk t d [])).1,.int .i64 (fe h (.mk t d [])).2]) L):
  aeg 79 [.agg [.int .i64 t,.str d,.sl [] 0 cap],.int .i64 a] L K:=by
 have f:∀h,fe h (.mk t d [])=if 1048576<d.length then([],5)else(b8 t.toNat::(yM d.length++d),0):=λh=>by
  cases h with
  |zero=>rfl
  |succ h=>rw[fe,if_neg (by simp[sy])];rfl
 rw[f]at b;have g1:¬(64:Int)<a:=ahd;have u:¬t<0:=ahd;have g3:¬(255:Int)<t:=ahd;have g4:IntKind.i64.wrap (BitVec.ofInt IntKind.i64.bits t &&& BitVec.ofInt IntKind.i64.bits 31).toNat=t:=by rcases c with rfl|rfl<;>decide
 have p:¬t=31:=ahd;have k:IntKind.i64.wrap (BitVec.ofInt IntKind.i64.bits t &&& BitVec.ofInt IntKind.i64.bits 32).toNat=0:=by rcases c with rfl|rfl<;>decide
 have w0:IntKind.u64.wrap t=(t.toNat:Int):=by rcases c with rfl|rfl<;>decide
 have e:t.toNat<18446744073709551616:=ahd;have v:=O4 d;have q:=Uq d;have l:(u8s d).take d.length=u8s d:=by rw[<- OI d,aeI]
 by_cases g:1048576<d.length;rw[if_pos g]at b;replace b:=hid b;have j:(1048576:Int)<(d.length:Int):=ahd;clear f g c;refine aef yS ?_;refine ao (λm T' L'=>∃(X:List Blk),m=0/\T'=[(57,.int .i64 0),(56,.int .i64 0),(6,.gsl (u8s d) d.length (L.length+1) 1),(2,.ptr L.length 0)]/\L'=L++[.cells [.int .i64 t,.str d,.sl [] 0 cap],.spare d.length 1]) ahh ⟨[],rfl,rfl,rfl⟩ ?_;rintro _ _ _ ⟨X,rfl,rfl,rfl⟩;refine wk ?_;exact af rfl b.o;rw[if_neg g]at b;replace b:=hid b;have j:¬(1048576:Int)<(d.length:Int):=ahd;have s:=OU d.length;clear f c;refine aef yS ?_;refine ao (λm T' L'=>∃(X:List Blk),m=0/\T'=[(57,.int .i64 0),(56,.int .i64 0),(6,.gsl (u8s d) d.length (L.length+1) 1),(2,.ptr L.length 0)]/\L'=L++[.cells [.int .i64 t,.str d,.sl [] 0 cap],.spare d.length 1]) ahh ⟨[],rfl,rfl,rfl⟩ ?_;rintro _ _ _ ⟨X,rfl,rfl,rfl⟩;have kk1:=@ahk _ _ _ _ (OO e);have kk2:=@ahk _ _ _ _ (Tu (n:=d.length) ahd);refine wk ?_;exact af rfl b.o
theorem aaD(s:List UInt8):AV.frzL (u8s s)=u8s s:=by rw[AV.frzL_eq,u8s,aeH];rfl
theorem aaC(s:List UInt8):(u8s s).all AV.one=true:=by rw[aev];intro a b;simp only[u8s,ael]at b;obtain⟨c,_,rfl⟩:=b;rfl
theorem aaE(a b:List UInt8):u8s (a++b)=u8s a++u8s b:=by simp[u8s]
theorem W0{c:List Nd}{p:Nd->List UInt8×Int}{f:Int}(y:t=48\/t=49)(V:c.length<=1100000)(E:∀n,(p n).2=0->(p n).1.length<=1048581)(h0:1<=f)(O:f<=63)(H:∀n∈c,∀(L:List Blk) (K:AV->List Blk->Prop),K (.tup [.str (p n).1,.int .i64 (p n).2]) L->aeg 79 [.agg (ndA n),.int .i64 (f+1)] L K){R:List UInt8×Int}(r:(if(sy p [] c).2≠0 then([],(sy p [] c).2)else if 1048576<(sy p [] c).1.length then([],5)else(b8 t.toNat::(yM (sy p [] c).1.length++(sy p [] c).1),0))=R){L:List Blk}{K:aeh}(w:K (.tup [.str R.1,.int .i64 R.2]) L):
  aeg 79 [.agg [.int .i64 t,.str [],.sl (aC c) c.length cap],.int .i64 f] L K:=by
 obtain⟨Q,J⟩:=aec (sy p [] c);rw[J]at r;replace w:=hid w;replace r:=hid r;replace H:=@hid _ @H;replace E:=hid E;have g1:¬(64:Int)<f:=ahd;have g2:¬t<0:=ahd;have g3:¬(255:Int)<t:=ahd;have g4:IntKind.i64.wrap (BitVec.ofInt IntKind.i64.bits t &&& BitVec.ofInt IntKind.i64.bits 31).toNat=t-32:=by rcases y with rfl|rfl<;>decide
 have g5:¬t-32=31:=ahd;have Z:IntKind.i64.wrap (BitVec.ofInt IntKind.i64.bits t &&& BitVec.ofInt IntKind.i64.bits 32).toNat=32:=by rcases y with rfl|rfl<;>decide
 have w0:IntKind.u64.wrap t=(t.toNat:Int):=by rcases y with rfl|rfl<;>decide
 have W:IntKind.i64.wrap (f+1)=f+1:=ac ahd ahd;have B:t.toNat<18446744073709551616:=ahd;have T:u8s []=[]:=rfl;clear y;refine aef yS ?_;refine ao (λm T' L'=>∃(i z:Nat) (a:List UInt8) (C:List AV) (X:List Blk),m=c.length-i/\i<=c.length/\Hid (sy p a (c.drop i)=Q)/\z<=i*1048581/\Hid (C=u8s a/\z=a.length)/\T'=[(57,.int .i64 (i:Int)),(56,.int .i64 c.length),(55,.sl (aC c) c.length cap),(6,.gsl C z (L.length+1) 1),(2,.ptr L.length 0),(1,.int .i64 f)]/\L'=L++(.cells [.int .i64 t,.str [],.sl (aC c) c.length cap] :: .spare z 1::X)) ahh ⟨0,0,[],[],[],rfl,aep _,hid (by simpa using J),ahe,hid ⟨rfl,rfl⟩,rfl,rfl⟩ ?_;rintro _ _ _ ⟨i,z,a,C,X,rfl,hi,x,U,j,rfl,rfl⟩;by_cases h:i<c.length;have S:(i:Int)<(c.length:Int):=ahd;have w2:=aee i ahd;have I:=yH h;have Y:i*3+3<=(aC c).length:=by rw[ic];omega
 obtain⟨n,A⟩:=aec (c.getD i ce);have u:n∈c:=by rw[<- A];simp[h]
 have v:c.drop i=n::c.drop (i+1):=by rw[ae3 h,<- A];simp[h]
 rw[A,dP]at I;have b:=x.o;rw[v,sy]at b;obtain⟨⟨s,e⟩,k⟩:∃q,p n=q:=⟨_,rfl⟩;have kk1:Hid (Ctr Tryz.prog 79 [.agg [.int .i64 n.tag,.str n.data,.sl (aC n.kids) n.kids.length none],.int .i64 (f+1)] (.tup [.str s,.int .i64 e])):=@hid _ (by intro L K q;have:=H.o n u L K;rw[dP,k]at this;exact this q)
 have l:e=0->s.length<=1048581:=λM=>by have:=E.o n;rw[k]at this;exact this M
 rw[k]at b;simp only at b;clear x v A u;by_cases F:e=0;subst F;rw[if_neg ahe]at b;have l:=l rfl;have f1:=aaD s;have f2:=aaC s;have N:z+s.length<=(i+1)*1048581:=ahd;replace b:=hid b;refine wk ?_;exact ahi ahd ahg ⟨i+1,z+s.length,a++s,C++u8s s,_,rfl,h,b,N,hid ⟨by rw[j.o.1,aaE],by rw[j.o.2,aez]⟩,rfl,rfl⟩;rw[if_pos F]at b;have d:=r.o;rw[<- b,if_pos F]at d;have g:=w.o;rw[<- d]at g;replace g:=hid g;clear b d;refine wk ?_;exact af rfl g.o;have D:i=c.length:=ahd;subst D;have S:¬(c.length:Int)<(c.length:Int):=ahd;have b:=x.o;rw[afR,sy]at b;have d:=r.o;rw[<- b,if_neg ahe]at d;simp only at d;obtain⟨rfl,rfl⟩:=j.o;have M:=O4 a;have e1:=Uq a;have I:(u8s a).take a.length=u8s a:=by rw[<- OI a,aeI]
 have g:=w.o;clear x b j;by_cases G:1048576<a.length;rw[if_pos G]at d;rw[<- d]at g;replace g:=hid g;have P:(1048576:Int)<(a.length:Int):=ahd;clear G d;refine wk ?_;exact af rfl g.o;rw[if_neg G]at d;rw[<- d]at g;replace g:=hid g;have P:¬(1048576:Int)<(a.length:Int):=ahd;have g9:=OU a.length;clear d;have kk1:=@ahk _ _ _ _ (OO B);have kk2:=@ahk _ _ _ _ (Tu (n:=a.length) ahd);refine wk ?_;exact af rfl g.o
theorem aca:∀(h:Nat){n:Nd}{a:Int}(g:okN h n) (e:1<=a) (b:a+h<=64){L:List Blk}{K:aeh}(c:K (.tup [.str (fe h n).1,.int .i64 (fe h n).2]) L),aeg 79 [.agg (ndA n),.int .i64 a] L K
 |0,.mk t d ks,a,g,e,b,L,K,c=>by obtain⟨f,rfl,hd⟩:=g;rw[bQ];exact Ra 0 f hd e (by simpa using b) c
 | h+1,.mk t d ks,a,g,e,b,L,K,c=>by
   rw[bQ];rcases g with⟨f,rfl,hd⟩|⟨f,rfl,j,i⟩
   .exact Ra (h+1) f hd e ahd c
   .exact W0 (p:=fe h) f j (YR h) e ahd (λn k=>by intro L K q;exact aca h (i n k) ahd ahd q) rfl (by rw[fe]at c;exact c)
theorem ach{n:Nd}(c:okN 4 n){L:List Blk}{K:aeh}(a:K (.tup [.str (fe 4 n).1,.int .i64 (fe 4 n).2]) L):aeg 45 [.agg (ndA n)] L K:=by
 obtain⟨⟨s,e⟩,b⟩:∃q,fe 4 n=q:=⟨_,rfl⟩;rw[b]at a;replace a:=hid a;have kk1:Hid (Ctr Tryz.prog 79 [.agg [.int .i64 n.tag,.str n.data,.sl (aC n.kids) n.kids.length none],.int .i64 1] (.tup [.str s,.int .i64 e])):=@hid _ (by intro L K q;have:=@aca 4 n 1 c ahd ahd L K;rw[dP,b]at this;exact this q)
 rw[dP];refine aef Sg ?_;exact af rfl a.o
def G5(a:Atr):Nd:=.mk 48 [] [bA a.1,.mk 49 [] (a.2.map bA)]
theorem GM(h:(s.length:Int)<=140737488351232):∀k:Nat,okN k (bA s)
 |0=>⟨.inr rfl,rfl,h⟩
 |_+1=>.inl ⟨.inr rfl,rfl,h⟩
theorem aa9{l:List (List UInt8)}(r:l.length<=1100000)(h:K (.sl (aC (l.map bA)) l.length none) L):aeg 44 [.sl (l.map AV.str) l.length cap,.func 40 []] L K:=by
 replace h:=hid h;refine aef kP ?_;refine cB (l:=[]) (n:=0) 5 3 rfl (aeW 3).symm ?_;refine ao (λm T' L'=>∃(k:Nat) (C:List AV) (X:List Blk),m=l.length-k/\k<=l.length/\C=aC ((l.take k).map bA)/\T'=[(10,.int .i64 (k:Int)),(9,.int .i64 l.length),(8,.sl (l.map AV.str) l.length cap),(5,.gsl C k L.length 3),(1,.func 40 [])]/\L'=L++(.spare k 3::X)) ahh ⟨0,[],[],rfl,aep _,rfl,rfl,rfl⟩ ?_;rintro _ _ _ ⟨k,C,X,rfl,g,c,rfl,rfl⟩;by_cases a:k<l.length;have g1:(k:Int)<(l.length:Int):=ahd;have p:=aee k ahd;obtain⟨s,d⟩:=aec (l.getD k []);have j:(l.map AV.str).getD k .undef=.str s:=by rw[<- d];simp[a]
 have i:k<(l.map AV.str).length:=by simpa using a
 have b:aC ((l.take (k+1)).map bA)=aC ((l.take k).map bA)++[.int .i64 4,.str s,.sl [] 0 none]:=by rw[aeM a,aeD,sn,show l[k]=s by rw[<- d];simp[a]];rfl
 have kk1:Hid (Ctr Tryz.prog 40 [.str s] (.agg [.int .i64 4,.str s,.sl [] 0 none])):=@hid _ (by intro L K q;exact Us (by rw[bA,bQ];exact q));replace b:=hid b;replace c:=hid c;clear d;refine wk ?_;exact ahi ahd ahg ⟨k+1,_,_,rfl,a,by rw[b.o,c.o],rfl,rfl⟩;have e:k=l.length:=ahd;subst e;have g1:¬(l.length:Int)<(l.length:Int):=ahd;rw[aeI]at c;subst c;have f:=cT (l.map bA);refine wk ?_;refine aB ?_;simp only[AV.frz,f];exact af (by simp only[AV.refs,fX]) h.o
theorem ac4{a:Atr}(e:(a.1.length:Int)<=140737488351232)(f:a.2.length<=1100000)(g:∀v∈a.2,(v.length:Int)<=140737488351232)(h:K (.agg (ndA (G5 a))) L):aeg 42 [.agg (atA a)] L K:=by
 obtain⟨n,vs⟩:=a;simp only at e f g;have c:∀k∈vs.map bA,okN 0 k:=λk d=>by obtain⟨v,c,rfl⟩:=ael.1 d;exact GM (g v c) 0
 have b:∀k∈[bA n,.mk 49 [] (vs.map bA)],okN 1 k:=λk d=>by simp only[aeJ,afq,or_false]at d;rcases d with rfl|rfl;exact GM e 1;exact .inr ⟨.inr rfl,rfl,by simpa using f,c⟩
 have kk1:Hid (Ctr Tryz.prog 40 [.str n] (.agg [.int .i64 4,.str n,.sl [] 0 none])):=@hid _ (by intro L K q;exact Us (by rw[bA,bQ];exact q));have kk2:Hid (Ctr Tryz.prog 44 [.sl (vs.map AV.str) vs.length none,.func 40 []] (.sl (aC (vs.map bA)) vs.length none)):=@hid _ (by intro L K q;exact aa9 ahd q);have kk3:Hid (Ctr Tryz.prog 43 [.int .i64 49,.sl (aC (vs.map bA)) vs.length none] (.agg [.int .i64 49,.str [],.sl (aC (vs.map bA)) vs.length none])):=@hid _ (by intro L K q;have:=VO (h:=0) (t:=49) (l:=vs.map bA) (cap:=none) (L:=L) (K:=K) (by rw[aeu];omega) c;rw[bQ,aeu]at this;exact this q)
 have kk4:Hid (∀{cap:Option Nat}{L:List Blk}{K:aeh},K (.agg [.int .i64 48,.str [],.sl [.int .i64 4,.str n,.sl [] 0 none,.int .i64 49,.str [],.sl (aC (vs.map bA)) vs.length none] 2 none]) L->aeg 43 [.int .i64 48,.sl [.int .i64 4,.str n,.sl [] 0 none,.int .i64 49,.str [],.sl (aC (vs.map bA)) vs.length none] 2 cap] L K):=@hid _ (by intro cap L K q;have:=VO (h:=1) (t:=48) (l:=[bA n,.mk 49 [] (vs.map bA)]) (cap:=cap) (L:=L) (K:=K) ahe b;rw[bQ]at this;simp only[aC,bA,bQ,aeu,aeL,ae6,ae5,aeB,aeY]at this;exact this q)
 have i:K (.agg [.int .i64 48,.str [],.sl [.int .i64 4,.str n,.sl [] 0 none,.int .i64 49,.str [],.sl (aC (vs.map bA)) vs.length none] 2 none]) L:=by rw[G5,bQ]at h;simp only[aC,bA,bQ,aeu,aeL,ae6,ae5,aeB,aeY]at h;exact h
 replace h:=hid i;have m:=cT (vs.map bA);have j:=λp=>fX p (vs.map bA)
 clear e f g c b i;refine aef G1 ?_;refine af ?_ h.o;simp only[AV.refs,AV.refsL,j];rfl
theorem aba{l:List Atr}(x:l.length<=1100000)(j:∀a∈l,(a.1.length:Int)<=140737488351232/\a.2.length<=1100000/\∀v∈a.2,(v.length:Int)<=140737488351232)(h:K (.sl (aC (l.map G5)) l.length none) L):aeg 41 [.sl (bh l) l.length cap,.func 42 []] L K:=by
 replace h:=hid h;replace j:=hid j;refine aef jE ?_;refine cB (l:=[]) (n:=0) 5 3 rfl (aeW 3).symm ?_;refine ao (λm T' L'=>∃(k:Nat) (C:List AV) (X:List Blk),m=l.length-k/\k<=l.length/\C=aC ((l.take k).map G5)/\T'=[(10,.int .i64 (k:Int)),(9,.int .i64 l.length),(8,.sl (bh l) l.length cap),(5,.gsl C k L.length 3),(1,.func 42 [])]/\L'=L++(.spare k 3::X)) ahh ⟨0,[],[],rfl,aep _,rfl,rfl,rfl⟩ ?_;rintro _ _ _ ⟨k,C,X,rfl,t,e,rfl,rfl⟩;by_cases b:k<l.length;have g1:(k:Int)<(l.length:Int):=ahd;have w:=aee k ahd;have r:=zd b;have u:k*2+2<=(bh l).length:=by rw[Gy];omega
 obtain⟨⟨n,vs⟩,g⟩:∃a,l.getD k ([],[])=a:=⟨_,rfl⟩;have f:=j.o (n,vs) (by rw[<- g];simp[b]);obtain⟨i,c⟩:=aec (aC [bA n,.mk 49 [] (vs.map bA)]);have d:aC ((l.take (k+1)).map G5)=aC ((l.take k).map G5)++[.int .i64 48,.str [],.sl i 2 none]:=by rw[aeM b,aeD,sn,show l[k]=(n,vs)by rw[<- g];simp[b],<- c];simp only[aex,afh,aC,G5,bQ,aeL];rfl
 have kk1:Hid (Ctr Tryz.prog 42 [.agg [.str n,.sl (vs.map AV.str) vs.length none]] (.agg [.int .i64 48,.str [],.sl i 2 none])):=@hid _ (by intro L K q;refine ac4 (a:=(n,vs)) f.1 f.2.1 f.2.2 ?_;rw[G5,bQ,c];exact q)
 have s:AV.frzL i=i:=by rw[<- c];exact cT _
 rw[g]at r;simp only[atA]at r;replace d:=hid d;replace e:=hid e;clear g c f;refine wk ?_;exact ahi ahd ahg ⟨k+1,_,_,rfl,b,by rw[d.o,e.o],rfl,rfl⟩;have p:k=l.length:=ahd;subst p;have g1:¬(l.length:Int)<(l.length:Int):=ahd;rw[aeI]at e;subst e;have s:=cT (l.map G5);refine wk ?_;refine aB ?_;simp only[AV.frz,s];exact af (by simp only[AV.refs,fX]) h.o
end Go.Proofs.YtajkbcmleihaoaaGreatDoor.Av
namespace Go.Proofs
open Go.Shelf
def Tryz.lays156_ren:Go.Shelf.Ren:=⟨λ|156=>95|165=>123|166=>124|169=>126|240=>158|241=>159|276=>184|277=>185|n=>n,λ|31=>56|9=>9|3=>3|4=>4|0=>0|20=>20|72=>195|76=>198|70=>193|37=>112|75=>197|127=>236|164=>254|5=>5|80=>157|n=>n,λ|n=>n⟩
theorem Tryz.lays156:Go.Proofs.Lays.n156 Tryz.prog Tryz.lays156_ren:={
 mixed:=by kernel_rfl
 f156:=Tryz.func95.trans (congrArg some (by kernel_rfl))
 f165:=Tryz.func123.trans (congrArg some (by kernel_rfl))
 f166:=Tryz.func124.trans (congrArg some (by kernel_rfl))
 f169:=Tryz.func126.trans (congrArg some (by kernel_rfl))
 f240:=Tryz.func158.trans (congrArg some (by kernel_rfl))
 f241:=Tryz.func159.trans (congrArg some (by kernel_rfl))
 f276:=Tryz.func184.trans (congrArg some (by kernel_rfl))
 f277:=Tryz.func185.trans (congrArg some (by kernel_rfl))
 t0:=Tryz.underlying0
 a0:=Tryz.isAgg0
 z0:=Tryz.sizeOf0
 v0:=Tryz.zeroValue0
 t3:=Tryz.underlying3
 a3:=Tryz.isAgg3
 z3:=Tryz.sizeOf3
 v3:=Tryz.zeroValue3
 t4:=Tryz.underlying4
 a4:=Tryz.isAgg4
 z4:=Tryz.sizeOf4
 v4:=Tryz.zeroValue4
 t9:=Tryz.underlying9
 a9:=Tryz.isAgg9
 z9:=Tryz.sizeOf9
 v9:=Tryz.zeroValue9
 t20:=Tryz.underlying20
 a20:=Tryz.isAgg20
 z20:=Tryz.sizeOf20
 v20:=Tryz.zeroValue20
 t31:=Tryz.underlying56
 a31:=Tryz.isAgg56
 z31:=Tryz.sizeOf56
 v31:=Tryz.zeroValue56
 t37:=Tryz.underlying112
 a37:=Tryz.isAgg112
 z37:=Tryz.sizeOf112
 v37:=Tryz.zeroValue112
 t70:=Tryz.underlying193
 a70:=Tryz.isAgg193
 z70:=Tryz.sizeOf193
 v70:=Tryz.zeroValue193
 t72:=Tryz.underlying195
 a72:=Tryz.isAgg195
 z72:=Tryz.sizeOf195
 v72:=Tryz.zeroValue195
 t75:=Tryz.underlying197
 a75:=Tryz.isAgg197
 z75:=Tryz.sizeOf197
 v75:=Tryz.zeroValue197
 t76:=Tryz.underlying198
 a76:=Tryz.isAgg198
 z76:=Tryz.sizeOf198
 v76:=Tryz.zeroValue198
 t127:=Tryz.underlying236
 a127:=Tryz.isAgg236
 z127:=Tryz.sizeOf236
 v127:=Tryz.zeroValue236
 t164:=Tryz.underlying254
 a164:=Tryz.isAgg254
 z164:=Tryz.sizeOf254
 v164:=Tryz.zeroValue254}
theorem Tryz.Builder_Extra_156:Builder.Extra Tryz.prog Tryz.lays156_ren:={
 sizeBuilder:=by kernel_rfl
 liesBuilder:=by kernel_rfl
 t5:=Tryz.underlying5
 a5:=Tryz.isAgg5
 z5:=Tryz.sizeOf5
 v5:=Tryz.zeroValue5
 infoByte:=by kernel_rfl
 cellsByte:=by kernel_rfl
 sizeByte:=by kernel_rfl
 neB5:=by decide}
open Go.RowKit in
theorem Tryz.strings_Join_none(a:Option Addr)(c:Nat)(sep:ByteArray)(w:World):
 Calls Tryz.prog 95 #[.slice a 0 c,.string sep] w λe w'=>e=.returned (.string ⟨#[]⟩)/\w'=w:=Any.strings_Join_none Tryz.lays156 Tryz.Builder_Extra_156 a c sep w
open Go.RowKit in
theorem Tryz.strings_Join(f o c:Nat)(xs:List ByteArray)(sep:ByteArray)(w:World)(a:∀(j:Nat) x,xs[j]?=some x->w.cell? ⟨f,o+j,none⟩=some (.string x))(g:f<w.heap.size)(h:xs.length<=140737488355328)(d:xs.length<=c)(b:(Lib.join (xs.map (·.data.toList)) sep.data.toList).length<=140737488355328):
 Calls Tryz.prog 95 #[.slice (some ⟨f,o,none⟩) xs.length c,.string sep] w λe w'=>e=.returned (.string ⟨(Lib.join (xs.map (·.data.toList)) sep.data.toList).toArray⟩)/\Below w.heap.size w w':=Any.strings_Join Tryz.lays156 Tryz.Builder_Extra_156 f o c xs sep w a g h d b
def Tryz.lays160_ren:Go.Shelf.Ren:=⟨λ|160=>84|232=>110|231=>109|227=>111|234=>113|233=>112|236=>115|235=>114|228=>148|271=>151|151=>150|197=>149|120=>180|152=>179|260=>178|137=>146|119=>191|224=>192|225=>193|217=>168|266=>187|n=>n,λ|9=>9|4=>4|3=>3|5=>5|117=>180|116=>179|0=>0|124=>183|21=>21|105=>225|46=>162|119=>262|139=>265|138=>264|n=>n,λ|3=>0|4=>1|n=>n⟩
theorem Tryz.lays160:Go.Proofs.Lays.n160 Tryz.prog Tryz.lays160_ren:={
 mixed:=by kernel_rfl
 f119:=Tryz.func191.trans (congrArg some (by kernel_rfl))
 f120:=Tryz.func180.trans (congrArg some (by kernel_rfl))
 f137:=Tryz.func146.trans (congrArg some (by kernel_rfl))
 f151:=Tryz.func150.trans (congrArg some (by kernel_rfl))
 f152:=Tryz.func179.trans (congrArg some (by kernel_rfl))
 f160:=Tryz.func84.trans (congrArg some (by kernel_rfl))
 f197:=Tryz.func149.trans (congrArg some (by kernel_rfl))
 f217:=Tryz.func168.trans (congrArg some (by kernel_rfl))
 f224:=Tryz.func192.trans (congrArg some (by kernel_rfl))
 f225:=Tryz.func193.trans (congrArg some (by kernel_rfl))
 f227:=Tryz.func111.trans (congrArg some (by kernel_rfl))
 f228:=Tryz.func148.trans (congrArg some (by kernel_rfl))
 f231:=Tryz.func109.trans (congrArg some (by kernel_rfl))
 f232:=Tryz.func110.trans (congrArg some (by kernel_rfl))
 f233:=Tryz.func112.trans (congrArg some (by kernel_rfl))
 f234:=Tryz.func113.trans (congrArg some (by kernel_rfl))
 f235:=Tryz.func114.trans (congrArg some (by kernel_rfl))
 f236:=Tryz.func115.trans (congrArg some (by kernel_rfl))
 f260:=Tryz.func178.trans (congrArg some (by kernel_rfl))
 f266:=Tryz.func187.trans (congrArg some (by kernel_rfl))
 f271:=Tryz.func151.trans (congrArg some (by kernel_rfl))
 t0:=Tryz.underlying0
 a0:=Tryz.isAgg0
 z0:=Tryz.sizeOf0
 v0:=Tryz.zeroValue0
 t3:=Tryz.underlying3
 a3:=Tryz.isAgg3
 z3:=Tryz.sizeOf3
 v3:=Tryz.zeroValue3
 t4:=Tryz.underlying4
 a4:=Tryz.isAgg4
 z4:=Tryz.sizeOf4
 v4:=Tryz.zeroValue4
 t5:=Tryz.underlying5
 a5:=Tryz.isAgg5
 z5:=Tryz.sizeOf5
 v5:=Tryz.zeroValue5
 t9:=Tryz.underlying9
 a9:=Tryz.isAgg9
 z9:=Tryz.sizeOf9
 v9:=Tryz.zeroValue9
 t21:=Tryz.underlying21
 a21:=Tryz.isAgg21
 z21:=Tryz.sizeOf21
 v21:=Tryz.zeroValue21
 t46:=Tryz.underlying162
 a46:=Tryz.isAgg162
 z46:=Tryz.sizeOf162
 v46:=Tryz.zeroValue162
 t105:=Tryz.underlying225
 a105:=Tryz.isAgg225
 z105:=Tryz.sizeOf225
 v105:=Tryz.zeroValue225
 t116:=Tryz.underlying179
 a116:=Tryz.isAgg179
 z116:=Tryz.sizeOf179
 t117:=Tryz.underlying180
 a117:=Tryz.isAgg180
 z117:=Tryz.sizeOf180
 v117:=Tryz.zeroValue180
 t119:=Tryz.underlying262
 a119:=Tryz.isAgg262
 z119:=Tryz.sizeOf262
 t124:=Tryz.underlying183
 a124:=Tryz.isAgg183
 z124:=Tryz.sizeOf183
 v124:=Tryz.zeroValue183
 t138:=Tryz.underlying264
 a138:=Tryz.isAgg264
 z138:=Tryz.sizeOf264
 v138:=Tryz.zeroValue264
 t139:=Tryz.underlying265
 a139:=Tryz.isAgg265
 z139:=Tryz.sizeOf265
 v139:=Tryz.zeroValue265
 g3:=by kernel_rfl
 g4:=by kernel_rfl}
open Go.RowKit in
theorem Tryz.strings_Trim_one(s:ByteArray)(c:UInt8)(b:c.toNat<128)(w:World)(a:s.size<=9223372036854775807):
 Calls Tryz.prog 84 #[.string s,.string ⟨#[c]⟩] w λe w'=>e=.returned (.string ⟨(Lib.trimB s.data.toList c).toArray⟩)/\(w'=w\/w'=w.drew):=Any.strings_Trim_one Tryz.lays160 s c b w a
def Tryz.lays137_ren:Go.Shelf.Ren:=⟨λ|137=>146|217=>168|266=>187|n=>n,λ|9=>9|5=>5|3=>3|n=>n,λ|n=>n⟩
theorem Tryz.lays137:Go.Proofs.Lays.n137 Tryz.prog Tryz.lays137_ren:={
 mixed:=by kernel_rfl
 f137:=Tryz.func146.trans (congrArg some (by kernel_rfl))
 f217:=Tryz.func168.trans (congrArg some (by kernel_rfl))
 f266:=Tryz.func187.trans (congrArg some (by kernel_rfl))
 t3:=Tryz.underlying3
 a3:=Tryz.isAgg3
 z3:=Tryz.sizeOf3
 v3:=Tryz.zeroValue3
 t5:=Tryz.underlying5
 a5:=Tryz.isAgg5
 z5:=Tryz.sizeOf5
 v5:=Tryz.zeroValue5
 t9:=Tryz.underlying9
 a9:=Tryz.isAgg9
 z9:=Tryz.sizeOf9
 v9:=Tryz.zeroValue9}
open Go.RowKit in
theorem Tryz.strings_IndexByte(s:ByteArray)(c:Int)(w:World):
 Calls Tryz.prog 146 #[.string s,.int .u8 c] w λe w'=>e=.returned (.int .i64 (Lib.indexByte s.data.toList c.toNat.toUInt8))/\w'=w:=Any.strings_IndexByte Tryz.lays137 s c w
def Tryz.lays219_ren:Go.Shelf.Ren:=⟨λ|219=>194|217=>168|225=>193|224=>192|267=>197|266=>187|314=>198|n=>n,λ|9=>9|3=>3|4=>4|5=>5|46=>162|146=>232|51=>160|n=>n,λ|1=>2|n=>n⟩
theorem Tryz.lays219:Go.Proofs.Lays.n219 Tryz.prog Tryz.lays219_ren:={
 mixed:=by kernel_rfl
 f217:=Tryz.func168.trans (congrArg some (by kernel_rfl))
 f219:=Tryz.func194.trans (congrArg some (by kernel_rfl))
 f224:=Tryz.func192.trans (congrArg some (by kernel_rfl))
 f225:=Tryz.func193.trans (congrArg some (by kernel_rfl))
 f266:=Tryz.func187.trans (congrArg some (by kernel_rfl))
 f267:=Tryz.func197.trans (congrArg some (by kernel_rfl))
 f314:=Tryz.func198.trans (congrArg some (by kernel_rfl))
 t3:=Tryz.underlying3
 a3:=Tryz.isAgg3
 z3:=Tryz.sizeOf3
 v3:=Tryz.zeroValue3
 t4:=Tryz.underlying4
 a4:=Tryz.isAgg4
 z4:=Tryz.sizeOf4
 v4:=Tryz.zeroValue4
 t5:=Tryz.underlying5
 a5:=Tryz.isAgg5
 z5:=Tryz.sizeOf5
 v5:=Tryz.zeroValue5
 t9:=Tryz.underlying9
 a9:=Tryz.isAgg9
 z9:=Tryz.sizeOf9
 v9:=Tryz.zeroValue9
 t46:=Tryz.underlying162
 a46:=Tryz.isAgg162
 z46:=Tryz.sizeOf162
 v46:=Tryz.zeroValue162
 t51:=Tryz.underlying160
 a51:=Tryz.isAgg160
 z51:=Tryz.sizeOf160
 v51:=Tryz.zeroValue160
 t146:=Tryz.underlying232
 a146:=Tryz.isAgg232
 z146:=Tryz.sizeOf232
 v146:=Tryz.zeroValue232
 g1:=by kernel_rfl}
open Go.RowKit Go.Lib in
theorem Tryz.stringslite_Index_one(s:ByteArray)(c:UInt8)(w:World):
 Calls Tryz.prog 194 #[.string s,.string ⟨#[c]⟩] w λe w'=>e=.returned (.int .i64 (Lib.indexByte s.data.toList c))/\w'=w:=Any.stringslite_Index_one Tryz.lays219 s c w
def Tryz.lays105_ren:Go.Shelf.Ren:=⟨λ|105=>91|212=>121|99=>122|165=>123|166=>124|170=>125|169=>126|263=>155|264=>156|206=>157|240=>158|241=>159|276=>184|277=>185|n=>n,λ|9=>9|3=>3|4=>4|20=>20|0=>0|46=>162|109=>190|5=>5|72=>195|76=>198|51=>160|146=>232|53=>58|148=>234|70=>193|37=>112|75=>197|127=>236|164=>254|80=>157|n=>n,λ|n=>n⟩
theorem Tryz.lays105:Go.Proofs.Lays.n105 Tryz.prog Tryz.lays105_ren:={
 mixed:=by kernel_rfl
 f99:=Tryz.func122.trans (congrArg some (by kernel_rfl))
 f105:=Tryz.func91.trans (congrArg some (by kernel_rfl))
 f165:=Tryz.func123.trans (congrArg some (by kernel_rfl))
 f166:=Tryz.func124.trans (congrArg some (by kernel_rfl))
 f169:=Tryz.func126.trans (congrArg some (by kernel_rfl))
 f170:=Tryz.func125.trans (congrArg some (by kernel_rfl))
 f206:=Tryz.func157.trans (congrArg some (by kernel_rfl))
 f212:=Tryz.func121.trans (congrArg some (by kernel_rfl))
 f240:=Tryz.func158.trans (congrArg some (by kernel_rfl))
 f241:=Tryz.func159.trans (congrArg some (by kernel_rfl))
 f263:=Tryz.func155.trans (congrArg some (by kernel_rfl))
 f264:=Tryz.func156.trans (congrArg some (by kernel_rfl))
 f276:=Tryz.func184.trans (congrArg some (by kernel_rfl))
 f277:=Tryz.func185.trans (congrArg some (by kernel_rfl))
 t0:=Tryz.underlying0
 a0:=Tryz.isAgg0
 z0:=Tryz.sizeOf0
 v0:=Tryz.zeroValue0
 t3:=Tryz.underlying3
 a3:=Tryz.isAgg3
 z3:=Tryz.sizeOf3
 v3:=Tryz.zeroValue3
 t4:=Tryz.underlying4
 a4:=Tryz.isAgg4
 z4:=Tryz.sizeOf4
 v4:=Tryz.zeroValue4
 t5:=Tryz.underlying5
 a5:=Tryz.isAgg5
 z5:=Tryz.sizeOf5
 v5:=Tryz.zeroValue5
 t9:=Tryz.underlying9
 a9:=Tryz.isAgg9
 z9:=Tryz.sizeOf9
 v9:=Tryz.zeroValue9
 t20:=Tryz.underlying20
 a20:=Tryz.isAgg20
 z20:=Tryz.sizeOf20
 v20:=Tryz.zeroValue20
 t37:=Tryz.underlying112
 a37:=Tryz.isAgg112
 z37:=Tryz.sizeOf112
 v37:=Tryz.zeroValue112
 t46:=Tryz.underlying162
 a46:=Tryz.isAgg162
 z46:=Tryz.sizeOf162
 v46:=Tryz.zeroValue162
 t51:=Tryz.underlying160
 a51:=Tryz.isAgg160
 z51:=Tryz.sizeOf160
 v51:=Tryz.zeroValue160
 t53:=Tryz.underlying58
 a53:=Tryz.isAgg58
 z53:=Tryz.sizeOf58
 v53:=Tryz.zeroValue58
 t70:=Tryz.underlying193
 a70:=Tryz.isAgg193
 z70:=Tryz.sizeOf193
 v70:=Tryz.zeroValue193
 t72:=Tryz.underlying195
 a72:=Tryz.isAgg195
 z72:=Tryz.sizeOf195
 v72:=Tryz.zeroValue195
 t75:=Tryz.underlying197
 a75:=Tryz.isAgg197
 z75:=Tryz.sizeOf197
 v75:=Tryz.zeroValue197
 t76:=Tryz.underlying198
 a76:=Tryz.isAgg198
 z76:=Tryz.sizeOf198
 v76:=Tryz.zeroValue198
 t109:=Tryz.underlying190
 a109:=Tryz.isAgg190
 z109:=Tryz.sizeOf190
 v109:=Tryz.zeroValue190
 t127:=Tryz.underlying236
 a127:=Tryz.isAgg236
 z127:=Tryz.sizeOf236
 v127:=Tryz.zeroValue236
 t146:=Tryz.underlying232
 a146:=Tryz.isAgg232
 z146:=Tryz.sizeOf232
 v146:=Tryz.zeroValue232
 t148:=Tryz.underlying234
 a148:=Tryz.isAgg234
 z148:=Tryz.sizeOf234
 v148:=Tryz.zeroValue234
 t164:=Tryz.underlying254
 a164:=Tryz.isAgg254
 z164:=Tryz.sizeOf254
 v164:=Tryz.zeroValue254}
theorem Tryz.Builder_Extra_105:Builder.Extra Tryz.prog Tryz.lays105_ren:={
 sizeBuilder:=by kernel_rfl
 liesBuilder:=by kernel_rfl
 t5:=Tryz.underlying5
 a5:=Tryz.isAgg5
 z5:=Tryz.sizeOf5
 v5:=Tryz.zeroValue5
 infoByte:=by kernel_rfl
 cellsByte:=by kernel_rfl
 sizeByte:=by kernel_rfl
 neB5:=by decide}
open Go.RowKit Go.Lib in
theorem Tryz.strings_Repeat(s:ByteArray)(c:Nat)(w:World)(b:c<=9223372036854775807)(a:s.size*c<=140737488355328):
 Calls Tryz.prog 91 #[.string s,.int .i64 c] w λe w'=>e=.returned (.string ⟨(Lib.repeatL s.data.toList c).toArray⟩)/\Below w.heap.size w w':=Any.strings_Repeat Tryz.lays105 Tryz.Builder_Extra_105 s c w b a
end Go.Proofs
