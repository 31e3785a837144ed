/- Joined texts of the walk, made small by a program. -/
import Derived.Test.YtajkbcmleihaoaaGreatDoorVk4
import Derived.Test.YtajkbcmleihaoaaGreatDoorRows
import Derived.KernelRfl
import Derived.Test.YtajkbcmleihaoaaGreatDoorVk5
import Derived.Shelf.Strings.Builder1
import Derived.Shelf.Strings.Builder2
import Derived.Shelf.Strings.OnBuilder
import Derived.Shelf.Strings.Trim
import Derived.Shelf.Small.Utf8
import Derived.Shelf.Small.Bits
import Derived.Shelf.Small.Strs
import Derived.Shelf.Strings.BuilderF
import Derived.Shelf.Strings.BuilderK
import Derived.Shelf.Strings.Builder2Cap
import Derived.Shelf.Strconv.Itoa0
import Derived.Shelf.Strings.Search1
import Derived.Shelf.Strings.Search2
import Derived.Shelf.Strings.Cut
import Derived.Shelf.LaysM
import Derived.Shelf.Strings.Shaped
import Derived.Shelf.Sort.Plain
import Derived.Shelf.Strings.Prefix
import Derived.Shelf.Strings.Runes
import Derived.Shelf.Strings.AsciiSet
import Derived.Shelf.Bits.Mul64
import Derived.Shelf.Strings.Repeat
import Derived.Shelf.Unicode.DecodeSlow
import Derived.Shelf.Unicode.DecodeAny
import Derived.Shelf.Unicode.DecodeLast
import Derived.Shelf.Strings.BuilderCap
import Derived.Shelf.Slices.Equal
import Derived.Ground.Names2Prog
import Derived.Shelf.Slices.Clone
import Derived.Shelf.Slices.In.SortNone
import Derived.Shelf.Slices.Empties2
import Derived.Ground.SlsfProg
import Derived.Shelf.SlSortCmp.Insertion
import Derived.Shelf.SlSortCmp.SiftDown1
import Derived.Shelf.SlSortCmp.HeapSort1
import Derived.Shelf.SlSortCmp.Insertion1
import Derived.Shelf.SlSortCmp.Median1
import Derived.Shelf.SlSortCmp.Pivot1
import Derived.Shelf.SlSortCmp.ReverseRange1
import Derived.Shelf.SlSortCmp.PartialInsertion1
import Derived.Shelf.SlSortCmp.PartitionEqual1
import Derived.Shelf.SlSortCmp.Partition1
import Derived.Shelf.SlSortCmp.Pdq1
import Derived.Shelf.SlSortCmp.Whole1
import Derived.Test.YtajkbcmleihaoaaGreatDoorProg
set_option linter.unusedSimpArgs false
set_option linter.unusedVariables false
set_option maxRecDepth 100000
namespace Go.Proofs.YtajkbcmleihaoaaGreatDoor.Av
open Go
def Fs:LSO:=[Al 4]
def Fq:LSO:=[Aa 6 0,Af 7 6,Aa 8 1,Af 9 8,AU 10 7 9]
def Fp:LSO:=[Al 4]
def Fo:LSO:=[Aa 11 0,Af 12 11,Ab 13 0]
def Fn:LSO:=[Ao 14 13 12]
def Fm:LSO:=[Aa 15 13,Aa 5 15]
def Fl:LSO:=[Aa 16 0,Aa 17 5,Ak 18 3 16 17,Ad 19 1 18,Ac 20 1 19,Aa 21 1,Aa 22 5,Ak 23 3 21 22,Ad 24 1 23,Ac 25 1 24,Ax 26 46 20 25,A6 27 26,Aa 28 27,
 .grp none 28 false
 [Ah 29 28 0,Ah 30 28 5,Bz 31 28 3 29 30,A7 32 28 2 31,A4 33 28 1 32,Ah 34 28 1,Ah 35 28 5,Bz 36 28 3 34 35,A7 37 28 2 36,A4 38 28 1 37,Cb 39 28 47 33 38,Bx 40 28 39]
 41 (tm 40)]
def Fk:LSO:=[Al 4]
def Fj:LSO:=[Aj 42 13 1,Aa 13 42]
def Fi:LSO:=[AC 4]
def zn:aI:=⟨43,(ahW Fs [] (.seq (ahW Fq Cg (ahY 10 (.sreg Fp []))) (.seq (ahW Fo Cj (ahZ 0 (ahW Fn [] (.seq (ah0 14 0) (.seq (.block 1 (ahW Fm Cd (.seq (.sdreg Fl [.pure,.pure,(.read 0 0),.pure,(.read 0 0),.pure,.pure,(.read 0 0),.pure,(.read 0 0),(.read 0 0),.pure,.pure,.pure,.pure,(.read 0 0),.pure,(.read 0 0),.pure,.pure,(.read 0 0),.pure,(.read 0 0)] CD) (ahY 41 (.sreg Fk []))))) (.sreg Fj Cd)))))) (ahW Fi [] .ret)))),[(.tmp 4)]⟩
attribute [push_cast] Fs Fq Fp Fo Fn Fm Fl Fk Fj Fi
theorem OX:ah1 16=ah2 zn:=ah5
attribute [push_cast] zn
set_option maxHeartbeats 8000000
set_option maxRecDepth 100000
abbrev Atr:=List UInt8×List (List UInt8)
theorem j6(p:Nat->Bool)(xs:List (List UInt8)):AV.refsL p (xs.map AV.str)=true:=AV.refsL_iff.2 λa b=>by obtain⟨x,_,rfl⟩:=ae1.1 b;rfl
theorem Zs(xs:List (List UInt8)):(xs.map AV.str).all AV.one=true:=by rw[afd];intro a b;obtain⟨x,_,rfl⟩:=ae1.1 b;rfl
abbrev atA(a:Atr):List AV:=[.str a.1,.sl (a.2.map AV.str) a.2.length none]
def bj(l:List Atr):List AV:=l.flatMap atA
theorem Ha(a:Atr)(l:List Atr):bj (a::l)=.str a.1 :: .sl (a.2.map AV.str) a.2.length none::bj l:=rfl
theorem QR(l m:List Atr):bj (l++m)=bj l++bj m:=by simp[bj]
theorem GS(l:List Atr):(bj l).length=l.length*2:=by
 induction l with
 |nil=>rfl
 |cons a l ih=>rw[Ha];simp only[afg];omega
theorem qU(p:Nat->Bool):∀l:List Atr,AV.refsL p (bj l)=true
 |[]=>rfl
 |a::l=>by rw[Ha];simp[AV.refsL,AV.refs,j6,qU p l]
theorem jF(l:List (List UInt8)):AV.frzL (l.map AV.str)=l.map AV.str:=by rw[AV.frzL_eq,afj];rfl
theorem oe:∀l:List Atr,AV.frzL (bj l)=bj l
 |[]=>rfl
 |a::l=>by rw[Ha];simp only[AV.frzL,AV.frz,jF,oe l]
theorem zx:∀{l:List Atr}{k:Nat},k<l.length->((bj l).drop (k*2)).take 2=atA (l.getD k ([],[]))
 |a::l,0,_=>rfl
 |a::l,k+1,h=>by have b:=@zx l k (by simpa using h);rw[show(k+1)*2=k*2+1+1 by omega,Ha];simp[*]
abbrev abt(l:List (List UInt8)):AV:=.sl (l.map AV.str) l.length none
theorem aau{l:List Atr}{k:Nat}(a:k<l.length):(bj l).getD (k*2+1) .undef=abt (l.getD k ([],[])).2:=by have b:=congrArg (λl=>l[1]?) (zx a);simp_all
end Go.Proofs.YtajkbcmleihaoaaGreatDoor.Av
set_option maxRecDepth 100000
namespace Go.Proofs.YtajkbcmleihaoaaGreatDoor.Av
open Go
def FC:LSO:=[Al 4]
def FB:LSO:=[Aa 7 0,Af 8 7,Aa 9 1,Af 10 9,AU 11 8 10]
def FA:LSO:=[Al 4]
def Fz:LSO:=[Aa 12 0,Af 13 12,Ab 14 0]
def Fy:LSO:=[Ao 15 14 13]
def Fx:LSO:=[Aa 16 14,Aa 5 16]
def Fw:LSO:=[Aa 17 0,Aa 18 5,Ak 19 2 17 18,Ad 20 0 19,Ac 21 1 20,Aa 22 1,Aa 23 5,Ak 24 2 22 23,Ad 25 0 24,Ac 26 1 25,AU 27 21 26,Aa 28 27,.grp none 28 false
 [Ah 29 28 0,Ah 30 28 5,Bz 31 28 2 29 30,A7 32 28 1 31,A4 33 28 1 32,AH 34 28 33,Ah 35 28 1,Ah 36 28 5,Bz 37 28 2 35 36,A7 38 28 1 37,A4 39 28 1 38,AH 40 28 39,B3 41 28 34 40]
 42 (tm 41)]
def Fv:LSO:=[Al 4]
def Fu:LSO:=[Aa 43 0,Aa 44 5,Ak 45 2 43 44,Ad 46 1 45,Ac 47 1 46,Af 48 47,Ab 49 0]
def Ft:LSO:=[Ao 50 49 48]
def zS:LSO:=[Aa 51 49,Aa 6 51]
def zR:LSO:=[Aa 52 0,Aa 53 5,Ak 54 2 52 53,Ad 55 1 54,Ac 56 1 55,Aa 57 6,Ak 58 1 56 57,Ac 59 1 58,Aa 60 1,Aa 61 5,Ak 62 2 60 61,Ad 63 1 62,Ac 64 1 63,Aa 65 6,
 Ak 66 1 64 65,Ac 67 1 66,AU 68 59 67]
def zQ:LSO:=[Al 4]
def zP:LSO:=[Aj 69 49 1,Aa 49 69]
def zO:LSO:=[Aj 70 14 1,Aa 14 70]
def zN:LSO:=[AC 4]
def zo:aI:=⟨71,(ahW FC [] (.seq (ahW FB Cg (ahY 11 (.sreg FA []))) (.seq (ahW Fz Cj (ahZ 0 (ahW Fy [] (.seq (ah0 15 0) (.seq (.block 1 (ahW Fx Cd (.seq (.seq (.sdreg Fw [.pure,.pure,(.read 0 0),.pure,(.read 0 0),.pure,.pure,(.read 0 0),.pure,(.read 0 0),.pure,.pure,.pure,.pure,(.read 0 0),.pure,(.read 0 0),(.read 0 0),.pure,.pure,(.read 0 0),.pure,(.read 0 0),(.read 0 0)] CA) (ahY 42 (.sreg Fv []))) (ahW Fu Cm (ahZ 2 (ahW Ft [] (.seq (ah0 50 2) (.seq (.block 3 (ahW zS Cd (.seq (.sdreg zR [.pure,.pure,(.read 0 0),.pure,(.read 0 0),.pure,(.read 0 0),(.read 0 0),.pure,.pure,(.read 0 0),.pure,(.read 0 0),.pure,(.read 0 0),(.read 0 0)] C8) (ahY 68 (.sreg zQ []))))) (.sreg zP Cd))))))))) (.sreg zO Cd)))))) (ahW zN [] .ret)))),[(.tmp 4)]⟩
attribute [push_cast] FC FB FA Fz Fy Fx Fw Fv Fu Ft zS zR zQ zP zO zN
theorem OY:ah1 47=ah2 zo:=ah5
def It:LSO:=[Al 2]
def Is:LSO:=[Aa 7 0,Af 8 7,Ab 9 0]
def Ir:LSO:=[Ao 10 9 8]
def Iq:LSO:=[Ak 11 2 7 9,Az 12 2 11,Bu 4,Ai 2 4 12]
def Ip:LSO:=[Aa 13 0,Af 14 13,A9 15 14 60,Aa 16 15,.grp none 16 false
 [A7 17 16 1 4,A4 18 16 1 17,AH 19 16 18,AD 20 16 19 60]
 21 (tm 20)]
def Io:LSO:=[Al 2]
def Im:LSO:=[Ad 22 1 4,Ac 23 1 22,Af 24 23,Ab 25 0]
def Il:LSO:=[Ao 26 25 24]
def Ik:LSO:=[Ak 27 1 23 25,Ac 28 1 27,Aa 6 28]
def Ij:LSO:=[Aa 29 6,A8 30 29,A9 31 30 5000]
def Gi:LSO:=[Al 2]
def Gh:LSO:=[Aj 32 25 1,Aa 25 32]
def Gg:LSO:=[Aj 33 9 1,Aa 9 33]
def Gf:LSO:=[AC 2]
def GK:aI:=⟨34,(ahW It [] (.seq (ahW Is [] (ahZ 0 (ahW Ir [] (.seq (ah0 10 0) (.seq (.block 1 (ahW Iq Ce (.seq (ahW Ip Cg (ahY 21 (.sreg Io []))) (ahW Im Cp (ahZ 2 (ahW Il [] (.seq (ah0 26 2) (.seq (.block 3 (ahW Ik Ce (ahW Ij Ce (ahY 31 (.sreg Gi []))))) (.sreg Gh Cd))))))))) (.sreg Gg Cd)))))) (ahW Gf [] .ret))),[(.tmp 2)]⟩
attribute [push_cast] It Is Ir Iq Ip Io Im Il Ik Ij Gi Gh Gg Gf
theorem QK:ah1 27=ah2 GK:=ah5
attribute [push_cast] zo GK
variable {L:List Blk}{K:aeX}
set_option maxHeartbeats 8000000
set_option maxRecDepth 100000
theorem adh{l:List Atr}{cap c:Option Nat}(y:l.length<=1100000)(s:∀a∈l,a.2.length<=1100000)(h:K (.bool true) L):
  aeW 47 [.sl (bj l) l.length cap,.sl (bj l) l.length c] L K:=by
 replace h:=hid h;refine aeV OY ?_;refine ao (λm T' L'=>∃k:Nat,m=l.length-k/\k<=l.length/\T'=[(14,.int .i64 (k:Int)),(13,.int .i64 l.length),(0,.sl (bj l) l.length cap),(1,.sl (bj l) l.length c)]/\L=L') (CutS (b:=ae0 _)) ⟨0,rfl,ae5 _,rfl,rfl⟩ ?_;rintro _ _ L' ⟨k,rfl,w,rfl,e⟩;subst e;by_cases d:k<l.length;have g1:(k:Int)<(l.length:Int):=ah3;have z:=aeU k ah3;have x:k*2+1<(bj l).length:=by rw[GS];omega
 have u:k*2<(bj l).length:=ah3;have p:=aau d;have n:(bj l).getD (k*2) .undef=.str (l.getD k ([],[])).1:=by have q:=congrArg (λl=>l[0]?) (zx d);simp only[afz (show 0<2 by omega),afE,agk]at q;rw[afh,q];rfl
 obtain⟨⟨nm,vs⟩,g⟩:∃a,l.getD k ([],[])=a:=⟨_,rfl⟩;have i:=s (nm,vs) (by rw[<- g];simp[d]);simp only at i;rw[g]at p n;simp only[abt]at p n;clear g;refine wk ?_;refine ao (λm T' L'=>∃j:Nat,m=vs.length-j/\j<=vs.length/\T'=[(49,.int .i64 (j:Int)),(48,.int .i64 vs.length),(5,.int .i64 (k:Int)),(14,.int .i64 (k:Int)),(13,.int .i64 l.length),(0,.sl (bj l) l.length cap),(1,.sl (bj l) l.length c)]/\L=L') (CutS (b:=ae0 _)) ⟨0,rfl,ae5 _,rfl,rfl⟩ ?_;rintro _ _ L' ⟨j,rfl,B,rfl,e⟩;subst e;by_cases f:j<vs.length;have t:(j:Int)<(vs.length:Int):=ah3;have A:=aeU j ah3;obtain⟨v,r⟩:=aeS (vs.getD j []);have g3:(vs.map AV.str).getD j .undef=.str v:=by rw[<- r];simp[f]
 clear r;refine wk ?_;exact ah8 ah3 ah6 ⟨j+1,rfl,f,rfl,rfl⟩;have t:¬(j:Int)<(vs.length:Int):=ah3;refine wk ?_;exact ah8 ah3 ah6 ⟨k+1,rfl,d,rfl,rfl⟩;have g1:¬(k:Int)<(l.length:Int):=ah3;refine wk ?_;exact ag h.o
def SD(n:Nat)(a:Atr):Bool:=decide (n<=60)&&decide (a.2.length<=60)&&a.2.all λv=>decide (v.length<=5000)
def X8(l:List Atr):Bool:=l.all (SD l.length)
theorem WR{l:List Atr}(h:X8 l=true):l.length<=60/\∀a∈l,a.2.length<=60/\∀v∈a.2,v.length<=5000:=by simp only[X8,afd,SD,ae7,decide_eq_true_eq]at h;refine⟨?_,λa b=>⟨(h a b).1.2,(h a b).2⟩⟩;rcases l with _|⟨x,t⟩;simp;exact(h x ah4).1.1
theorem aei{l:List Atr}{cap:Option Nat}(F:(l.length:Int)<=9223372036854775807)(B:∀a∈l,(a.2.length:Int)<=9223372036854775807)(h:K (.bool (X8 l)) L):
  aeW 27 [.sl (bj l) l.length cap] L K:=by
 obtain⟨R,r⟩:=aeS (l.all (SD l.length));rw[X8,r]at h;replace h:=hid h;replace r:=hid r;refine aeV QK ?_;refine ao (λm T' L'=>∃(k:Nat) (X:List Blk),m=l.length-k/\k<=l.length/\Hid ((l.drop k).all (SD l.length)=R)/\T'=[(9,.int .i64 (k:Int)),(8,.int .i64 l.length),(7,.sl (bj l) l.length cap),(0,.sl (bj l) l.length cap)]/\L'=L++X) ah7 ⟨0,[],rfl,ae5 _,hid (by simpa using r.o),rfl,ah4⟩ ?_;rintro _ _ _ ⟨k,X,rfl,D,t,rfl,rfl⟩;by_cases f:k<l.length;have g1:(k:Int)<(l.length:Int):=ah3;have I:=aeU k ah3;have A:=zx f;have H:k*2+2<=(bj l).length:=by rw[GS];omega
 obtain⟨⟨nm,vs⟩,u⟩:∃a,l.getD k ([],[])=a:=⟨_,rfl⟩;have d:l.drop k=(nm,vs)::l.drop (k+1):=by rw[afL f,<- u];simp[f]
 have x:=B (nm,vs) (by rw[<- u];simp[f]);simp only at x;rw[u]at A;simp only[atA]at A;have b:=t.o;rw[d,af2]at b;have no:SD l.length (nm,vs)=false->K (.bool false) L:=λe=>by rw[e,agH]at b;have:=h.o;rwa[<- b]at this
 replace no:=hid no;clear t d u B r;by_cases E:(60:Int)<(l.length:Int);have g:=hid (no.o (by simp[SD];omega));clear b;refine wk ?_;exact af rfl g.o;by_cases J:(60:Int)<(vs.length:Int);have g:=hid (no.o (by simp[SD];omega));clear b;refine wk ?_;exact af rfl g.o;obtain⟨y,p⟩:=aeS (vs.all (λv=>decide (v.length<=5000)));have q:SD l.length (nm,vs)=y:=by rw[SD,p,decide_eq_true ah3,decide_eq_true (by simp only;omega)];rfl
 rw[q]at b;replace b:=hid b;replace p:=hid p;replace no:=hid (λe:y=false=>no.o (q.trans e));clear q;refine wk ?_;refine ao (λm T' L'=>∃j:Nat,m=vs.length-j/\j<=vs.length/\Hid ((vs.drop j).all (λv=>decide (v.length<=5000))=y)/\T'=[(25,.int .i64 (j:Int)),(24,.int .i64 vs.length),(23,.sl (vs.map AV.str) vs.length none),(9,.int .i64 (k:Int)),(8,.int .i64 l.length),(7,.sl (bj l) l.length cap),(0,.sl (bj l) l.length cap)]/\L'=L++(X++[.cells [.str nm,.sl (vs.map AV.str) vs.length none]])) ah7 ⟨0,rfl,ae5 _,hid (by simpa using p.o),rfl,ah4⟩ ?_;rintro _ _ _ ⟨j,rfl,N,s,rfl,rfl⟩;by_cases i:j<vs.length;have C:(j:Int)<(vs.length:Int):=ah3;have G:=aeU j ah3;obtain⟨v,w⟩:=aeS (vs.getD j []);have g3:(vs.map AV.str).getD j .undef=.str v:=by rw[<- w];simp[i]
 have d:vs.drop j=v::vs.drop (j+1):=by rw[afL i,<- w];simp[i]
 have c:=s.o;rw[d,af2]at c;clear w d s;by_cases M:(5000:Int)<(v.length:Int);have g:=hid (no.o (by rw[<- c,decide_eq_false ah3,agH]));clear c;refine wk ?_;exact af rfl g.o;rw[decide_eq_true ah3,afU]at c;replace c:=hid c;refine wk ?_;exact ah8 ah3 ah6 ⟨j+1,rfl,i,c,rfl,rfl⟩;have C:¬(j:Int)<(vs.length:Int):=ah3;have c:=s.o;rw[ahk ah3,agO]at c;have n:=b.o;rw[<- c,afU]at n;replace n:=hid n;clear s c;refine wk ?_;exact ah8 ah3 ah6 ⟨k+1,_,rfl,f,n,rfl,rfl⟩;have z:k=l.length:=ah3;subst z;have g1:¬(l.length:Int)<(l.length:Int):=ah3;have b:=t.o;rw[agy,agO]at b;have g:=h.o;rw[<- b]at g;replace g:=hid g;clear t b r;refine wk ?_;exact af rfl g.o
end Go.Proofs.YtajkbcmleihaoaaGreatDoor.Av
set_option maxRecDepth 100000
namespace Go.Proofs.YtajkbcmleihaoaaGreatDoor.Av
open Go
def Ge:LSO:=[Aw 2]
def Gd:LSO:=[Aa 6 0,o1 7 (.s2bO (tm 6)),Aa 3 7]
def Gc:LSO:=[Aa 8 3,Af 9 8,Ab 10 0]
def Gb:LSO:=[Ao 11 10 9]
def Ga:LSO:=[Aa 12 10,Ak 13 1 8 10,Ac 14 1 13,Aa 4 12,Aa 5 14]
def F9:LSO:=[Aa 15 5,o1 16 (.bin .geq (tm 15) (.av (.int .u8 65))),Aa 17 16,.grp none 17 true
 [An 18 17 5,og 19 17 true (.bin .leq (tm 18) (.av (.int .u8 90)))]
 20 (tm 19)]
def F8:LSO:=[Aa 21 3,Aa 22 4,Aa 23 5,o1 24 (.bin .add (tm 23) (.av (.int .u8 32))),Ak 25 1 21 22,Ai 1 25 24]
def F7:LSO:=[Aj 26 10 1,Aa 10 26]
def F6:LSO:=[Aa 27 3,Bg 28 27,Aa 2 28]
def zt:aI:=⟨29,(ahW Ge [] (ahW Gd Ce (.seq (ahW Gc [] (ahZ 0 (ahW Gb [] (.seq (ah0 11 0) (.seq (.block 1 (ahW Ga Co (ahW F9 Cf (ahX 20 (.sreg F8 C3) .skip)))) (.sreg F7 Cd)))))) (ahW F6 Ce .ret)))),[(.tmp 2)]⟩
attribute [push_cast] Ge Gd Gc Gb Ga F9 F8 F7 F6
theorem O2:aK Tryz.prog (λr i=>if r=1/\i=1 then 2 else 1) 103=some zt.raw:=ah5
def F5:LSO:=[Aw 2]
def F4:LSO:=[Aq 3]
def F3:LSO:=[Aa 6 0,Ag 7 103 6,o1 8 (.s2b (tm 7)),Af 9 8,Ab 10 0]
def F2:LSO:=[Ao 11 10 9]
def F1:LSO:=[Ak 12 1 8 10,Ac 13 1 12,Aa 5 13]
def F0:LSO:=[Aa 14 5,o1 15 (.bin .eql (tm 14) (.av (.int .u8 32))),Aa 16 15,.grp none 16 true
 [An 17 16 3,Bn 18 16 17,AY 19 16 18 0,An 20 16 19,.grp (some (16,true)) 20 false
 [Ah 21 20 3,Ah 22 20 3,AH 23 20 22,og 24 20 false (.bin .sub (tm 23) (iv 1)),Bz 25 20 1 21 24,A4 26 20 1 25,og 27 20 false (.bin .eql (tm 26) (.av (.int .u8 32)))]
 28 (tm 27)]
 29 (tm 28)]
def FZ:LSO:=[Aa 30 3,Aa 31 5,BE 32 31,Bp 33 30 32,Aa 3 33]
def FY:LSO:=[Aj 34 10 1,Aa 10 34]
def FX:LSO:=[Aa 35 3,Af 36 35,A9 37 36 0,Aa 38 37,.grp none 38 true
 [An 39 38 3,An 40 38 3,Bn 41 38 40,BW 42 38 41 1,og 43 38 true (.iaddr 1 (tm 39) (tm 42)),AO 44 38 1 43,BD 45 38 44]
 46 (tm 45)]
def FW:LSO:=[Aa 47 3,Aa 48 3,Af 49 48,AP 50 49 1,o1 51 (.slV 1 (tm 47) none (some (tm 50)) none),Aa 3 51]
def DJ:LSO:=[Aa 52 3,Bg 53 52,Aa 2 53]
def zr:aI:=⟨54,(ahW F5 [] (ahW F4 [] (.seq (ahW F3 C7 (ahZ 0 (ahW F2 [] (.seq (ah0 11 0) (.seq (.block 1 (ahW F1 Ce (.seq (ahW F0 Cf (ahX 29 (.exit 1) .skip)) (.sreg FZ Cg)))) (.sreg FY Cd)))))) (.seq (ahW FX Cg (ahX 46 (.sreg FW Ci) .skip)) (ahW DJ Ce .ret))))),[(.tmp 2)]⟩
attribute [push_cast] F5 F4 F3 F2 F1 F0 FZ FY FX FW DJ
theorem O1:ah1 104=ah2 zr:=ah5
def FU:LSO:=[o1 2 (.mv (.av (.int .u8 0))),Al 3]
def FT:LSO:=[Aa 5 0,o1 6 (.bin .geq (tm 5) (.av (.int .u8 48))),Aa 7 6,.grp none 7 true
 [An 8 7 0,og 9 7 true (.bin .leq (tm 8) (.av (.int .u8 57)))]
 10 (tm 9),Aa 4 10]
def FS:LSO:=[Aa 11 0,o1 12 (.bin .sub (tm 11) (.av (.int .u8 48))),Aa 2 12,AC 3]
def FR:LSO:=[Aa 14 0,o1 15 (.bin .geq (tm 14) (.av (.int .u8 97))),Aa 16 15,.grp none 16 true
 [An 17 16 0,og 18 16 true (.bin .leq (tm 17) (.av (.int .u8 102)))]
 19 (tm 18),Aa 13 19]
def FQ:LSO:=[Aa 20 0,o1 21 (.bin .sub (tm 20) (.av (.int .u8 97))),o1 22 (.bin .add (tm 21) (.av (.int .u8 10))),Aa 2 22,AC 3]
def FP:LSO:=[Aa 24 0,o1 25 (.bin .geq (tm 24) (.av (.int .u8 65))),Aa 26 25,.grp none 26 true
 [An 27 26 0,og 28 26 true (.bin .leq (tm 27) (.av (.int .u8 70)))]
 29 (tm 28),Aa 23 29]
def FO:LSO:=[Aa 30 0,o1 31 (.bin .sub (tm 30) (.av (.int .u8 65))),o1 32 (.bin .add (tm 31) (.av (.int .u8 10))),Aa 2 32,AC 3]
def FN:LSO:=[o1 2 (.mv (.av (.int .u8 0))),Al 3]
def zq:aI:=⟨33,(ahW FU [] (.seq (.block 0 (ahW FT Cg (ahX 4 (ahW FS Ct .ret) (ahW FR Cg (ahX 13 (ahW FQ Co .ret) (ahW FP Cg (ahY 23 (.sreg FO Co)))))))) (ahW FN [] .ret))),[(.tmp 2),(.tmp 3)]⟩
attribute [push_cast] FU FT FS FR FQ FP FO FN
theorem O0:ah1 195=ah2 zq:=ah5
def DI:LSO:=[Aw 2,Al 3]
def DH:LSO:=[Aa 10 0,A8 11 10,o1 12 (.bin .rem (tm 11) (iv 2)),A0 13 12 1]
def DG:LSO:=[Aw 2,Al 3]
def DF:LSO:=[Aa 14 0,A8 15 14,o1 16 (.bin .quo (tm 15) (iv 2)),o1 17 (.mkslice 1 1 [(.int .u8 0)] (iv 0) (tm 16)),Aa 4 17]
def DE:LSO:=[Ab 5 0]
def DD:LSO:=[Aa 18 5,Aa 19 0,A8 20 19,Ao 21 18 20]
def DC:LSO:=[Aa 25 0,Aa 26 5,BC 27 25 26,Ag 28 195 27,Aa 24 28,Am 29 24,Ap 30 24,Aa 6 29,Aa 7 30]
def DB:LSO:=[Aa 32 0,Aa 33 5,Aj 34 33 1,BC 35 32 34,Ag 36 195 35,Aa 31 36,Am 37 31,Ap 38 31,Aa 8 37,Aa 9 38]
def Dz:LSO:=[Aa 39 7,A6 40 39,Aa 41 40,.grp none 41 false
 [Ah 42 41 9,Bx 43 41 42]
 44 (tm 43)]
def Dy:LSO:=[Aw 2,Al 3]
def xC:LSO:=[Aa 45 4,Aa 46 6,o1 47 (.bin .shl (tm 46) (.av (.int .u64 4))),Aa 48 8,o1 49 (.bin .or (tm 47) (tm 48)),BE 50 49,Bp 51 45 50,Aa 4 51]
def xB:LSO:=[Aa 22 5,Aj 23 22 2,Aa 5 23]
def xA:LSO:=[Aa 52 4,Bg 53 52,Aa 2 53,AC 3]
def wi:aI:=⟨54,(ahW DI [] (.seq (ahW DH Cf (ahY 13 (.sreg DG []))) (ahW DF Cg (.seq (ahW DE [] (ahZ 0 (.seq (ahW DD Cf (ah0 21 0)) (.seq (.block 1 (ahW DC Cx (ahW DB Cy (.seq (ahW Dz Cf (ahY 44 (.sreg Dy []))) (.sreg xC Ck))))) (.sreg xB Ce))))) (ahW xA Ct .ret))))),[(.tmp 2),(.tmp 3)]⟩
attribute [push_cast] DI DH DG DF DE DD DC DB Dz Dy xC xB xA
theorem Nc:ah1 183=ah2 wi:=ah5
attribute [push_cast] zt wi
variable {L:List Blk}{K:aeX}
set_option maxHeartbeats 8000000
set_option maxRecDepth 100000
def qM(c:UInt8):UInt8:=if 65<=c.toNat/\c.toNat<=90 then c+32 else c
def aE(s:List UInt8):List UInt8:=s.map qM
theorem WK{c:UInt8}(a:65<=c.toNat)(b:c.toNat<=90):((qM c).toNat:Int)=(c.toNat:Int)+32:=by rw[qM,if_pos ⟨a,b⟩,UInt8.toNat_add];have:(32:UInt8).toNat=32:=rfl;omega
theorem LW{c:UInt8}(h:¬(65<=c.toNat/\c.toNat<=90)):qM c=c:=by rw[qM,if_neg h]
theorem G1(l:List UInt8):(u8s l).all Q9=true:=by simp only[u8s,List.all_map,afd];intro x _;have:=x.toNat_lt;simp[Q9]
theorem El(l:List UInt8):(u8s l).map OM=l:=by
 induction l with
 |nil=>rfl
 | cons x l ih =>
   simp only[u8s,afe,afj]at ih⊢;rw[ih];simp[OM]
theorem Wh(l:List UInt8)(c:UInt8):u8s (l++[c])=u8s l++[.int .u8 c.toNat]:=by simp[u8s]
theorem VQ{s:List UInt8}{k:Nat}(h:k<s.length):aE (s.take (k+1))=aE (s.take k)++[qM (s.getD k 0)]:=by rw[afs h,aE,afk];simp[aE,h]
theorem abZ{s:List UInt8}(C:(s.length:Int)<=140737488351232)(h:K (.str (aE s)) L):aeW 103 [.str s] L K:=by
 replace h:=hid h;refine aeV O2 ?_;refine ao (λn T' L'=>∃(k:Nat) (v:List AV),n=s.length-k/\k<=s.length/\v=u8s (aE (s.take k)++s.drop k)/\T'=[(10,.int .i64 (k:Int)),(9,.int .i64 s.length),(8,.lsl L.length 0 s.length none 1),(3,.lsl L.length 0 s.length none 1),(2,.str [])]/\L'=L++[.bytes v]) ah7 ⟨0,_,rfl,ae5 _,rfl,rfl,rfl⟩ ?_;rintro _ _ _ ⟨k,v,rfl,B,l,rfl,rfl⟩;by_cases g:k<s.length
 .have w:(k:Int)<(s.length:Int):=ah3;have F:=aeU k ah3;obtain⟨c,t⟩:=aeS (s.getD k 0);have hd:s.drop k=c::s.drop (k+1):=by rw[afL g,<- t,afh,afn g];rfl
  have m:(aE (s.take k)).length=k:=(by simp[aE];omega);have a:v=u8s (aE (s.take k)) ++ .int .u8 c.toNat::u8s (s.drop (k+1)):=(by rw[l,hd];simp[u8s]);have i:(u8s (aE (s.take k))).length=k:=(by simp[u8s,m]);have z:v.length=s.length:=(by rw[l];simp[u8s,aE];omega);have A:k<v.length:=ah3;have y:v.getD k .undef=.int .u8 c.toNat:=(by rw[a];simp[afh,aff,i]);have d:=VQ g;rw[t]at d;have e:u8s (aE (s.take (k+1))++s.drop (k+1))=u8s (aE (s.take k)) ++ .int .u8 (qM c).toNat::u8s (s.drop (k+1)):=(by rw[d];simp[u8s]);have f:∀x,v.take k++x::v.drop (k+1)=u8s (aE (s.take k))++x::u8s (s.drop (k+1)):=λx=>by rw[a,List.take_left' i,List.drop_append,i,ahk ah3,show k+1-k=1 by omega];rfl
  clear l hd m d;replace a:=hid a;replace e:=hid e;replace f:=hid f;have p:=c.toNat_lt;by_cases j:65<=c.toNat/\c.toNat<=90;have u1:(65:Int)<=(c.toNat:Int):=ah3;have G:(c.toNat:Int)<=90:=ah3;have q:=hid (WK j.1 j.2);have I:IntKind.u8.wrap ((c.toNat:Int)+32)=(c.toNat:Int)+32:=qQ ah3 ah3;clear j;refine wk ?_;refine ah8 ah3 ah7 ⟨k+1,_,rfl,g,?_,rfl,rfl⟩;rw[e.o,q.o];exact f.o _
  .have q:=hid (LW j);have J:(decide ((65:Int)<=(c.toNat:Int))&&decide ((c.toNat:Int)<=90))=false:=(by simp;omega);clear j;refine wk ?_
   all_goals first
    |omega
    | (refine ah8 ah3 (CutS (b := by simp)) ⟨k + 1, _, rfl, g, ?_, rfl, rfl⟩
       rw[e.o,q.o];exact a.o)
 have r:k=s.length:=ah3;subst r;have w:¬(s.length:Int)<(s.length:Int):=ah3;have a:v=u8s (aE s):=by rw[l];simp
 clear l;subst a;have E:=G1 (aE s);have H:=El (aE s);have u:(u8s (aE s)).length=s.length:=by simp[u8s,aE]
 have D:(u8s (aE s)).take s.length=u8s (aE s):=by rw[<- u];exact afo
 refine wk ?_;exact af rfl h.o
theorem Gz{s:List UInt8}(a:(s.length:Int)<=100000)(h:K (.str (aE s)) L):aeW 103 [.str s] L K:=abZ ah3 h
def zd(c:UInt8):Option Nat:=if 48<=c.toNat/\c.toNat<=57 then some (c.toNat-48)else if 97<=c.toNat/\c.toNat<=102 then some (c.toNat-87)else if 65<=c.toNat/\c.toNat<=70 then some (c.toNat-55)else none
theorem Pl{c:UInt8}{x:Nat}(h:zd c=some x):x<16:=by unfold zd at h;split at h;cases h;omega;split at h;cases h;omega;split at h;cases h;omega;cases h
theorem Vz{c:UInt8}{L:List Blk}{K:aeX}(h:K (.tup [.int .u8 ((zd c).getD 0:Nat),.bool (zd c).isSome]) L):aeW 195 [.int .u8 c.toNat] L K:=by
 have m:=c.toNat_lt;obtain⟨n,i⟩:=aeS (c.toNat);unfold zd at h;rw[i]at h m⊢;clear i;refine aa O0 (by simp[zq]) ?_;simp only[zq,am];by_cases a:48<=n/\n<=57;rw[if_pos a]at h;replace h:=hid h;obtain⟨d,e⟩:=a;have g:(48:Int)<=(n:Int):=ah3;have j:(n:Int)<=57:=ah3;have s:IntKind.u8.wrap ((n:Int)-48)=(n:Int)-48:=qQ ah3 ah3;clear d e;refine wk ?_;refine ag ?_;have:=h.o;simpa[show((n-48:Nat):Int)=(n:Int)-48 by omega]using this
 .rw[if_neg a]at h;have r:(decide ((48:Int)<=(n:Int))&&decide ((n:Int)<=57))=false:=(by simp;omega);by_cases b:97<=n/\n<=102;rw[if_pos b]at h;replace h:=hid h;obtain⟨d,e⟩:=b;have g:(97:Int)<=(n:Int):=ah3;have j:(n:Int)<=102:=ah3;have l:IntKind.u8.wrap ((n:Int)-97)=(n:Int)-97:=qQ ah3 ah3;have k:IntKind.u8.wrap ((n:Int)-97+10)=(n:Int)-97+10:=qQ ah3 ah3;clear d e a;refine wk ?_;refine ag ?_;have:=h.o;simpa[show((n-87:Nat):Int)=(n:Int)-97+10 by omega]using this
  .rw[if_neg b]at h;have p:(decide ((97:Int)<=(n:Int))&&decide ((n:Int)<=102))=false:=(by simp;omega);by_cases f:65<=n/\n<=70;rw[if_pos f]at h;replace h:=hid h;obtain⟨d,e⟩:=f;have g:(65:Int)<=(n:Int):=ah3;have j:(n:Int)<=70:=ah3;have l:IntKind.u8.wrap ((n:Int)-65)=(n:Int)-65:=qQ ah3 ah3;have k:IntKind.u8.wrap ((n:Int)-65+10)=(n:Int)-65+10:=qQ ah3 ah3;clear d e a b;refine wk ?_;refine ag ?_;have:=h.o;simpa[show((n-55:Nat):Int)=(n:Int)-65+10 by omega]using this
   .rw[if_neg f]at h;have q:(decide ((65:Int)<=(n:Int))&&decide ((n:Int)<=70))=false:=(by simp;omega);replace h:=hid h;clear a b f
    repeat' first
     |refine lF ?_
     | (first|refine jO ah5 ?_|refine fW ah5 ?_|refine fZ ?_|refine Eb ?_|refine oA (fun _=>?_)|refine ed ?_|refine jQ ?_)
       refine sm ?_
     | (first|refine jK ah5 ?_|refine iX ?_|refine fY ?_|refine jP ?_|refine oF (d9 ?_))
       refine sl ?_
     |exact oB
     |first|apply oC|apply jL|apply oD|apply jM|apply oE|apply jN
     |refine gg ?_
     |refine fX ?_
     |first|refine gc rfl ?_|refine gf rfl ?_|refine cO rfl ?_ ?_|refine iM rfl (λ_=>?_) (λ_=>?_)|refine iL rfl (λ_=>?_) (λ_=>?_)
     |((first|refine cN (λ_=>?_) (λ_=>?_)|refine dZ (λ_=>?_) (λ_=>?_))<;>try refine sm ?_)
     |refine And.intro trivial ?_
     |refine And.intro ah3 ?_
     |refine eZ rfl (λ_=>?_) (λ_=>?_)
     |refine And.intro ?_ ?_
    all_goals first
     |omega
     |(refine ag ?_;simpa using h.o)
def Vx(a b:UInt8):Option UInt8:=match zd a,zd b with
 |some x,some y=>some (UInt8.ofNat (16*x+y))
 |_,_=>none
def Ub(a b:UInt8):AV:=match Vx a b with
 |some c=>.tup [.str [c],.bool true]
 |none=>.tup [.str [],.bool false]
theorem ada:∀x y:_root_.Fin 16,IntKind.u8.wrap (((BitVec.ofInt IntKind.u8.bits (IntKind.u8.wrap ((x.val:Int)*2^min 4 IntKind.u8.bits)) |||BitVec.ofInt IntKind.u8.bits (y.val:Int)).toNat:Nat):Int)=16*(x.val:Int)+(y.val:Int):=by decide +kernel
theorem YK{a b:UInt8}(h:K (Ub a b) L):aeW 183 [.str [a,b]] L K:=by
 have z:[a,b].length=2:=rfl;have p:[a,b].getD 0 0=a:=rfl;have u:[a,b].getD 1 0=b:=rfl;have w:IntKind.i64.wrap (Int.tdiv 2 2)=1:=by decide
 have A:Int.tmod 2 2=0:=by decide
 have r:di [AV.int IntKind.u8 0] 1=[AV.int IntKind.u8 0]:=rfl;have t:IntKind.i64.wrap 1=1:=by decide
 have B:IntKind.i64.wrap 2=2:=by decide
 replace h:=hid h;refine aeV Nc ?_;refine ao (λn T' L'=>(n=1/\T'=[(5,.int .i64 0),(4,.lsl L.length 0 0 (some 1) 1),(0,.str [a,b])]/\L'=L++[.cells [.int .u8 0]])\/(n=0/\∃x y:Nat,Hid (zd a=some x)/\Hid (zd b=some y)/\T'=[(5,.int .i64 2),(4,.lsl (L.length+1) 0 1 none 1),(0,.str [a,b])]/\L'=L++[.dead,.cells [.int .u8 ((16*x+y:Nat):Int)]])) (n0:=1) (T0:=[(5,.int .i64 0),(4,.lsl L.length 0 0 (some 1) 1),(0,.str [a,b])]) (L0:=L++[.cells [.int .u8 0]]) ah7 (.inl ⟨rfl,rfl,rfl⟩) ?_;rintro _ _ _ (⟨rfl,rfl,rfl⟩|⟨rfl,x,y,d,e,rfl,rfl⟩);rcases d:zd a with _|x;have c:=h.o;simp only[Ub,Vx,d]at c;replace c:=hid c;have k:(zd a).getD 0=0:=by rw[d];rfl
 have m:(zd a).isSome=false:=by rw[d];rfl
 clear d;have kk1:=@hid _ @Vz;refine wk ?_;exact af rfl c.o;have k:(zd a).getD 0=x:=by rw[d];rfl
 have m:(zd a).isSome=true:=by rw[d];rfl
 have j:=hid d;rcases e:zd b with _|y;have c:=h.o;simp only[Ub,Vx,d,e]at c;replace c:=hid c;have g:(zd b).getD 0=0:=by rw[e];rfl
 have i:(zd b).isSome=false:=by rw[e];rfl
 clear d e;have kk1:=@hid _ @Vz;refine wk ?_;exact af rfl c.o;have g:(zd b).getD 0=y:=by rw[e];rfl
 have i:(zd b).isSome=true:=by rw[e];rfl
 have l:=hid e;have f:=ada ⟨x,Pl d⟩ ⟨y,Pl e⟩;simp only at f;clear d e;have kk1:=@hid _ @Vz;refine wk ?_;refine au 0 _ _ ah3 ah6 (.inr ⟨rfl,x,y,hid rfl,hid rfl,rfl,?_⟩)
 first|rfl|rw[f]
 have c:=h.o;simp only[Ub,Vx,d.o,e.o]at c;replace c:=hid c;have q:=Pl d.o;have s:=Pl e.o;have u1:Q9 (.int .u8 (16*(x:Int)+(y:Int)))=true:=rfl;have v:OM (.int .u8 (16*(x:Int)+(y:Int)))=UInt8.ofNat (16*x+y):=by simp only[OM];rw[show(16*(x:Int)+(y:Int)).toNat=16*x+y by omega]
 refine wk ?_;exact af rfl c.o
def Qp(b:List UInt8):Bool:=b.isEmpty ||b.getLast? == some 32
def aJ(b:List UInt8)(c:UInt8):List UInt8:=if c=32/\Qp b=true then b else b++[c]
def bO(s:List UInt8):List UInt8:=s.foldl aJ []
def eJ(b:List UInt8):List UInt8:=if b.getLast?=some 32 then b.dropLast else b
def bE(s:List UInt8):List UInt8:=eJ (bO (aE s))
theorem LQ(b:List UInt8)(c:UInt8):(aJ b c).length<=b.length+1:=by unfold aJ;split<;>simp
theorem PL{s:List UInt8}{k:Nat}(h:k<s.length):bO (s.take (k+1))=aJ (bO (s.take k)) (s.getD k 0):=by rw[afs h,bO,ahA];simp[bO,h]
theorem yC(s:List UInt8):∀k,(bO (s.take k)).length<=k
 |0=>by simp[bO]
 | k+1=>by
   have a:=yC s k;by_cases h:k<s.length
   .rw[PL h];have:=LQ (bO (s.take k)) (s.getD k 0);omega
   .rw[afu ah3,<- afu (l:=s) (i:=k) ah3];omega
theorem PK{s:List UInt8}(J:(s.length:Int)<=100000)(h:K (.str (bE s)) L):aeW 104 [.str s] L K:=by
 replace h:=hid h;refine aa O1 (by simp[zr]) ?_;simp only[zr,am];obtain⟨t,I⟩:=aeS (aE s);have R:(t.length:Int)<=100000:=by rw[<- I];simpa[aE]using J
 have kk1:=@aia _ _ _ _ (Gz J);refine wk ?_;refine cG (l:=[]) (n:=0) 3 1 rfl (afD 1).symm ?_;refine ao (λn T' L'=>∃(k:Nat) (b:List UInt8) (v:List AV) (m:Nat),n=t.length-k/\k<=t.length/\b=bO (t.take k)/\v=u8s b/\m=b.length/\T'=[(10,.int .i64 (k:Int)),(9,.int .i64 t.length),(8,.sl (u8s t) t.length none),(3,.gsl v m L.length 1),(2,.str [])]/\L'=L++[.spare m 1]) ah7 ⟨0,[],[],0,rfl,ae5 _,rfl,rfl,rfl,rfl,rfl⟩ ?_;rintro _ _ _ ⟨k,b,v,m,rfl,S,q,rfl,rfl,rfl,rfl⟩;replace q:=hid q;by_cases j:k<t.length;have M:(k:Int)<(t.length:Int):=ah3;have Y:=aeU k ah3;have i:=hid (PL j);obtain⟨c,y⟩:=aeS (t.getD k 0);have V:(u8s t).getD k .undef=.int .u8 c.toNat:=by simp[u8s,j,<- y]
 have O:k<(u8s t).length:=by simpa[u8s]using j
 rw[y]at i;have E:b.length<=k:=by rw[q.o];exact yC t k
 have f:∀A,A=aJ b c->A=bO (t.take (k+1)):=λA e=>by rw[i.o,<- q.o];exact e
 have u:((c.toNat:Int)=32)↔c=32:=⟨λe=>ag4.1 (by have:(32:UInt8).toNat=32:=rfl;omega),λe=>by rw[e];rfl⟩;replace f:=hid f;replace u:=hid u;clear i q y;have H:(u8s b).length=b.length:=by simp[u8s]
 have rest:∀A,A=aJ b c->A.length<=b.length+1:=λA e=>by rw[e];exact LQ b c
 clear rest;by_cases y:(c.toNat:Int)=32;rcases agQ b with a|⟨d,x,a⟩;have F:(b.length:Int)=0:=by rw[a];rfl
 have B:=hid (f.o b (by rw[aJ,if_pos ⟨u.o.1 y,by rw[a];rfl⟩]));clear a;refine wk ?_;exact ah8 ah3 ah7 ⟨k+1,b,_,_,rfl,j,B.o,rfl,rfl,rfl,rfl⟩;have F:¬(b.length:Int)=0:=by rw[a];simp;omega
 have B:IntKind.i64.wrap ((b.length:Int)-1)=(d.length:Int):=by rw[ae ah3 ah3,a];simp
 have Q:(u8s b).getD d.length .undef=.int .u8 x.toNat:=by rw[a];simp[u8s,afh]
 have G:d.length<(u8s b).length:=by rw[a];simp[u8s]
 have P:(d.length:Int)<(b.length:Int):=by rw[a];simp;omega
 have g:x=32↔(x.toNat:Int)=32:=⟨λe=>by rw[e];rfl,λe=>ag4.1 (by have:(32:UInt8).toNat=32:=rfl;omega)⟩;have p:Qp b=true↔x=32:=by rw[a];simp[Qp]
 replace a:=hid a;replace g:=hid g;replace p:=hid p;by_cases C:(x.toNat:Int)=32;have D:=hid (f.o b (by rw[aJ,if_pos ⟨u.o.1 y,p.o.2 (g.o.2 C)⟩]));refine wk ?_;exact ah8 ah3 ah7 ⟨k+1,b,_,_,rfl,j,D.o,rfl,rfl,rfl,rfl⟩;have D:=hid (f.o (b++[c]) (by rw[aJ,if_neg λe=>C (g.o.1 (p.o.1 e.2))]));refine wk ?_;exact ah8 ah3 ah7 ⟨k+1,b++[c],_,_,rfl,j,D.o,(by rw[Wh,y]),ah4,rfl,rfl⟩;have B:=hid (f.o (b++[c]) (by rw[aJ,if_neg λe=>y (u.o.2 e.1)]));refine wk ?_;exact ah8 ah3 ah7 ⟨k+1,b++[c],_,_,rfl,j,B.o,(Wh b c).symm,ah4,rfl,rfl⟩
 .have hke:k=t.length:=ah3;subst hke;have M:¬(t.length:Int)<(t.length:Int):=ah3;have E:b.length<=t.length:=(by rw[q.o];exact yC t _);have H:(u8s b).length=b.length:=(by simp[u8s]);have z:eJ b=bE s:=(by rw[bE,I,q.o,afo]);have B:=G1 b;have Q:=El b;replace q:=hid z;clear z;rcases agQ b with a|⟨d,x,a⟩;have F:¬(0:Int)<(b.length:Int):=(by rw[a];simp);have G:=hid (show b=bE s by rw[<- q.o,a];rfl);clear a;refine wk ?_;refine af rfl ?_;rw[G.o];exact h.o
  .have F:(0:Int)<(b.length:Int):=(by rw[a];simp;try omega);have G:IntKind.i64.wrap ((b.length:Int)-1)=(d.length:Int):=(by rw[ae ah3 ah3,a];simp);have P:(u8s b).getD d.length .undef=.int .u8 x.toNat:=(by rw[a];simp[u8s,afh]);have D:d.length<(u8s b).length:=(by rw[a];simp[u8s]);have T:(d.length:Int)<(b.length:Int):=(by rw[a];simp;omega);have W:(u8s b).take d.length=u8s d:=(by rw[a];simp[u8s]);have N:(u8s d).length=d.length:=(by simp[u8s]);have U:=G1 d;have X:=El d;have g:x=32↔(x.toNat:Int)=32:=⟨λe=>by rw[e];rfl,λe=>ag4.1 (by have:(32:UInt8).toNat=32:=rfl;omega)⟩;have w:eJ b=if x=32 then d else b:=by rw[a];simp[eJ]
   replace a:=hid a;replace w:=hid w;by_cases C:(x.toNat:Int)=32;have r:=hid (show d=bE s by rw[<- q.o,w.o,if_pos (g.2 C)]);replace g:=hid g;refine wk ?_;refine af rfl ?_;rw[r.o];exact h.o;have r:=hid (show b=bE s by rw[<- q.o,w.o,if_neg λe=>C (g.1 e)]);replace g:=hid g;refine wk ?_;refine af rfl ?_;rw[r.o];exact h.o
inductive Nd where
 |mk (tag:Int) (data:List UInt8) (kids:List Nd)
def Nd.tag:Nd->Int
 |.mk t _ _=>t
def Nd.data:Nd->List UInt8
 |.mk _ d _=>d
def Nd.kids:Nd->List Nd
 |.mk _ _ k=>k
abbrev cr:Nd:=.mk 0 [] []
instance:Inhabited Nd:=⟨cr⟩
def b8(n:Nat):UInt8:=UInt8.ofNat n
def sL(n:Nat):List UInt8 :=
 if n<128 then[b8 n]else if n<256 then[129,b8 n]else if n<65536 then[130,b8 (n/256),b8 n]else[131,b8 (n/65536),b8 (n/256),b8 n]
def dY(p:Nd->List UInt8×Int):List UInt8->List Nd->List UInt8×Int
 |acc,[]=>(acc,0)
 |acc,n::l=>if(p n).2≠0 then([],(p n).2)else dY p (acc++(p n).1) l
def de:Nat->Nd->List UInt8×Int
 |0,.mk t d _=>if 1048576<d.length then([],5)else(b8 t.toNat::(sL d.length++d),0)
 |h+1,.mk t d ks=>if(dY (de h) d ks).2≠0 then([],(dY (de h) d ks).2)else if 1048576<(dY (de h) d ks).1.length then([],5)else(b8 t.toNat::(sL (dY (de h) d ks).1.length++(dY (de h) d ks).1),0)
def okN:Nat->Nd->Prop
 |0,.mk t d ks=>(t=2\/t=4)/\ks=[]/\(d.length:Int)<=140737488351232
 |h+1,.mk t d ks=>((t=2\/t=4)/\ks=[]/\(d.length:Int)<=140737488351232)\/((t=48\/t=49)/\d=[]/\ks.length<=1100000/\∀k∈ks,okN h k)
def bm(s:List UInt8):Nd:=.mk 4 s []
def bY(s:List UInt8):Nat:=s.foldl (λn c=>256*n+c.toNat) 0
def Nl(s:List UInt8):Except Int (Nat×Nat):=
 if s.length<2 then .error 3 else
 let k:=(s.getD 1 0).toNat
 if k<128 then .ok (k,2)else if k=128\/132<k then .error 8 else
 if s.length<k-126 then .error 3 else
 if 1048576<bY ((s.drop 2).take (k-128))then .error 5 else .ok (bY ((s.drop 2).take (k-128)),k-126)
def qH(p:List UInt8->Except Int (Nd×List UInt8)):Nat->List UInt8->Except Int (List Nd)
 |_,[]=>.ok []
 |0,_=>.ok []
 | f+1,s=>match p s with
   |.error e=>.error e
   | .ok (n,r)=>match qH p f r with
     |.error e=>.error e
     |.ok l=>.ok (n::l)
def nP:Nat->List UInt8->Except Int (Nd×List UInt8)
 |0,_=>.error 6
 | f+1,s=>if s=[] then .error 3 else
   let t:=(s.getD 0 0).toNat
   if t%32=31 then .error 7 else
   match Nl s with
   |.error e=>.error e
   | .ok (size,a)=>if s.length<a+size then .error 3 else
     if t/32%2=0 then .ok (.mk t ((s.drop a).take size) [],s.drop (a+size))
     else match qH (nP f) size ((s.drop a).take size)with
      |.error e=>.error e
      |.ok ks=>.ok (.mk t [] ks,s.drop (a+size))
def OL(s:List UInt8):Except Int Nd:=match nP 64 s with
 |.error e=>.error e
 |.ok (n,r)=>if r=[]then .ok n else .error 4
def eG(n:Nat):Nat->List UInt8
 |0=>[]
 |k+1=>eG (n/256) k++[b8 n]
def XU(n:Int):Nat->Nat->Nat
 |0,k=>k
 |f+1,k=>if n.fdiv (2^(8*k-1))=0\/n.fdiv (2^(8*k-1))=-1 then k else XU n f (k+1)
def Vu(n:Int):List UInt8:=eG (n%18446744073709551616).toNat (XU n 7 1)
def abo(s:List UInt8):Int:=if bY s<2^(8*s.length-1)then(bY s:Int)else(bY s:Int)-2^(8*s.length)
def Vh(s:List UInt8):Option Int:=if 1<=s.length/\s.length<=8/\Vu (abo s)=s then some (abo s)else none
mutual
def ndA:Nd->List AV
 |.mk t d ks=>[.int .i64 t,.str d,.sl (aC ks) (abF ks) none]
def aC:List Nd->List AV
 |[]=>[]
 |n::l=>ndA n++aC l
def abF:List Nd->Nat
 |[]=>0
 |_::l=>abF l+1
end
theorem WE:∀l:List Nd,abF l=l.length
 |[]=>rfl
 |_::l=>by simp only[abF,afg,WE l]
theorem bT(t:Int)(d:List UInt8)(a:List Nd):ndA (.mk t d a)=[.int .i64 t,.str d,.sl (aC a) a.length none]:=by rw[ndA,WE]
theorem dX(n:Nd):ndA n=[.int .i64 n.tag,.str n.data,.sl (aC n.kids) n.kids.length none]:=by obtain⟨t,d,a⟩:=n;exact bT t d a
theorem iD:∀l:List Nd,(aC l).length=l.length*3
 |[]=>rfl
 |n::l=>by simp only[aC,afc,iD l,dX,afg,afF];omega
theorem sK:∀l m:List Nd,aC (l++m)=aC l++aC m
 |[],m=>rfl
 |n::l,m=>by simp only[afI,aC,sK l m,afa]
theorem y8:∀{l:List Nd}{k:Nat},k<l.length->((aC l).drop (k*3)).take 3=ndA (l.getD k cr)
 |n::l,0,_=>by simp[aC,dX]
 | n::l,k+1,h=>by
   have a:=@y8 l k (by simpa using h);have e:(aC (n::l)).drop ((k+1)*3)=(aC l).drop (k*3):=by
    rw[aC,List.drop_append,dX]
    grind
   simp[*]
mutual
theorem abG:∀n:Nd,AV.frzL (ndA n)=ndA n
 |.mk t d ks=>by have a:=dd ks;simp only[ndA,AV.frzL,AV.frz,a]
theorem dd:∀l:List Nd,AV.frzL (aC l)=aC l
 |[]=>rfl
 |n::l=>by have a:=abG n;have b:=dd l;rw[AV.frzL_eq]at a b⊢;rw[aC,afk,a,b]
end
mutual
theorem Zy(p:Nat->Bool):∀n:Nd,AV.refsL p (ndA n)=true
 |.mk t d ks=>by have a:=gj p ks;simp only[ndA,AV.refsL,AV.refs,a,agL]
theorem gj(p:Nat->Bool):∀l:List Nd,AV.refsL p (aC l)=true
 |[]=>rfl
 |n::l=>by have d:=Zy p n;have b:=gj p l;rw[AV.refsL_iff]at d b⊢;intro a c;rw[aC,ae2]at c;exact c.elim (d a) (b a)
end
theorem J0{n:Nat}:(b8 n).toNat=n%256:=by simp[b8]
theorem RD(n:Nat):∀k:Nat,eG n (k+1)=b8 (n/256^k)::eG n k:=by
 intro k;induction k generalizing n with
 |zero=>simp[eG]
 | succ k ih =>
   rw[eG,ih (n/256),eG,afI];congr 2;rw[ahO,Nat.pow_succ,Nat.mul_comm]
theorem fp(n:Nat):∀k:Nat,(eG n k).length=k
 |0=>rfl
 |k+1=>by rw[RD,afg,fp n k]
theorem Qh(s:List UInt8)(c:UInt8):bY (s++[c])=256*bY s+c.toNat:=by simp[bY]
theorem Pm:∀s:List UInt8,bY s<256^s.length:=by
 intro s;rw[<- List.reverse_reverse s];generalize s.reverse=r;induction r with
 |nil=>simp[bY]
 | cons c r ih =>
   rw[List.reverse_cons,Qh,afc,List.length_singleton,Nat.pow_succ];have:=c.toNat_lt;omega
theorem abC{n:Nat}{c:UInt8}(h:n<2^56):
  IntKind.u64.wrap (BitVec.ofInt 64 (IntKind.u64.wrap ((n:Int)*256)) |||BitVec.ofInt 64 (c.toNat:Int)).toNat=((256*n+c.toNat:Nat):Int):=by
 have g:=c.toNat_lt;have a:IntKind.u64.wrap ((n:Int)*256)=((n*256:Nat):Int):=by rw[show(n:Int)*256=((n*256:Nat):Int)by simp];simp only[IntKind.wrap,IntKind.signed,IntKind.bits];simp;omega
 rw[a];have d:(BitVec.ofInt 64 ((n*256:Nat):Int) |||BitVec.ofInt 64 (c.toNat:Int)).toNat=n*256+c.toNat:=by rw[BitVec.toNat_or,BitVec.toNat_ofInt,BitVec.toNat_ofInt];have e:(((n*256:Nat):Int)%((2^64:Nat):Int)).toNat=n*256:=ah3;have f:(((c.toNat:Nat):Int)%((2^64:Nat):Int)).toNat=c.toNat:=ah3;rw[e,f];have:=Nat.two_pow_add_eq_or_of_lt (i:=8) (b:=c.toNat) ah3 n;rw[show 2^8*n=n*256 by omega]at this;exact this.symm
 rw[d];simp only[IntKind.wrap,IntKind.signed,IntKind.bits];simp;omega
theorem Xp{u l:Nat}(d:1<=l)(c:l<=8)(a:u<256^l):
  (IntKind.i64.wrap (IntKind.u64.wrap ((u:Int)*2^(64-8*l)))).fdiv (2^(64-8*l))=if u<2^(8*l-1)then(u:Int)else(u:Int)-2^(8*l):=by
 have b:l=1\/l=2\/l=3\/l=4\/l=5\/l=6\/l=7\/l=8:=ah3;rcases b with rfl|rfl|rfl|rfl|rfl|rfl|rfl|rfl<;>simp at a⊢<;>(try rw[ahP _ (by decide)])<;>simp only[IntKind.wrap,IntKind.signed,IntKind.bits]<;>simp<;>split<;>split<;>omega
theorem WX{s:List UInt8}{n a:Nat}(h:Nl s=.ok (n,a)):2<=a/\a<=6/\n<=1048576/\a<=s.length:=by unfold Nl at h;simp only at h;split at h;cases h;rename_i d;split at h;cases h;exact⟨ah3,ah3,ah3,ah3⟩;split at h;cases h;split at h;cases h;split at h;cases h;rename_i c f e b;cases h;exact⟨ah3,ah3,ah3,ah3⟩
theorem WW{s:List UInt8}{e:Int}(h:Nl s=.error e):e≠0:=by
 unfold Nl at h;simp only at h
 repeat' split at h
 all_goals first|(cases h;decide)|cases h
theorem Zp{f:Nat}{s:List UInt8}{n:Nd}{r:List UInt8}(h:nP f s=.ok (n,r)):r.length<s.length:=by
 cases f with
 |zero=>cases h
 | succ f =>
   rw[nP]at h;split at h
   .cases h
   simp only at h;split at h
   .cases h
   split at h
   .cases h
   rename_i size a b;obtain⟨g,e,c,d⟩:=WX b;split at h
   .cases h
   split at h
   .cases h;simp;omega
   split at h
   .cases h
   .cases h;simp;omega
theorem TV{p:List UInt8->Except Int (Nd×List UInt8)}(a:∀s e,p s=.error e->e≠0):∀(f:Nat) (s:List UInt8) (e:Int),qH p f s=.error e->e≠0
 |0,[],e,h=>by cases h
 |0,_::_,e,h=>by cases h
 |f+1,[],e,h=>by cases h
 | f+1,c::s,e,h=>by
   rw[qH]at h
   .split at h
    .rename_i hh;cases h;exact a _ _ hh
    .split at h
     .rename_i hh;cases h;exact TV a f _ _ hh
     .cases h
   .simp
theorem Pg:∀(f:Nat) (s:List UInt8) (e:Int),nP f s=.error e->e≠0
 |0,s,e,h=>by cases h;decide
 | f+1,s,e,h=>by
   rw[nP]at h;split at h
   .cases h;decide
   simp only at h;split at h
   .cases h;decide
   split at h
   .rename_i hh;cases h;exact WW hh
   split at h
   .cases h;decide
   split at h
   .cases h
   split at h
   .rename_i hh;cases h;exact TV (Pg f) _ _ _ hh
   .cases h
end Go.Proofs.YtajkbcmleihaoaaGreatDoor.Av
set_option maxRecDepth 100000
namespace Go.Proofs.YtajkbcmleihaoaaGreatDoor.Av
open Go
variable {n k:Nat}{s d:List UInt8}{t:Int}{cap:Option Nat}
def H7:LSO:=[Aw 4]
def H6:LSO:=[Aa 7 1,AI 8 7 1,Aa 9 8,.grp none 9 false
 [Ah 10 9 1,AD 11 9 10 8]
 12 (tm 11)]
def H5:LSO:=[Aw 4]
def H4:LSO:=[Aa 13 1,o1 14 (.mkslice 1 1 [(.int .u8 0)] (tm 13) (tm 13)),Aa 5 14]
def H3:LSO:=[Aa 15 5,Af 16 15,Ab 17 0]
def H2:LSO:=[Ao 18 17 16]
def H1:LSO:=[Aa 19 17,Aa 6 19]
def H0:LSO:=[Aa 20 5,Aa 21 1,AP 22 21 1,Aa 23 6,Bm 24 22 23,Aa 25 0,o1 26 (.conv .u8 (tm 25)),Ak 27 1 20 24,Ai 1 27 26]
def HZ:LSO:=[Aa 28 0,o1 29 (.bin .shr (tm 28) (.av (.int .u64 8))),Aa 0 29]
def HY:LSO:=[Aj 30 17 1,Aa 17 30]
def FV:LSO:=[Aa 31 5,Bg 32 31,Aa 4 32]
def GI:aI:=⟨33,(ahW H7 [] (.seq (ahW H6 Cf (ahY 12 (.sreg H5 []))) (ahW H4 Ce (.seq (ahW H3 Cj (ahZ 0 (ahW H2 [] (.seq (ah0 18 0) (.seq (.block 1 (ahW H1 Cd (ahW H0 C1 (.sreg HZ Ce)))) (.sreg HY Cd)))))) (ahW FV Ce .ret))))),[(.tmp 4)]⟩
attribute [push_cast] H7 H6 H5 H4 H3 H2 H1 H0 HZ HY FV
theorem QJ:ah1 67=ah2 GI:=ah5
def Ii:LSO:=[BX 6,Al 7]
def Ih:LSO:=[Aa 11 2,AI 12 11 1,Aa 13 12,.grp none 13 false
 [Ah 14 13 2,AD 15 13 14 8]
 16 (tm 15),Aa 17 16,.grp none 17 false
 [Ah 18 17 1,BQ 19 17 18 0]
 20 (tm 19),Aa 21 20,.grp none 21 false
 [Ah 22 21 1,Ah 23 21 0,Bw 24 21 23,Ah 25 21 2,og 26 21 false (.bin .sub (tm 24) (tm 25)),og 27 21 false (.bin .gtr (tm 22) (tm 26))]
 28 (tm 27)]
def Ig:LSO:=[BX 6,Al 7]
def If:LSO:=[BX 8]
def Ie:LSO:=[Aa 29 0,Aa 30 1,Aa 31 1,Aa 32 2,AB 33 31 32,o1 34 (.slS (tm 29) (some (tm 30)) (some (tm 33))),o1 35 (.s2b (tm 34)),Af 36 35,Ab 37 0]
def Ic:LSO:=[Ao 38 37 36]
def Ib:LSO:=[Ak 39 1 35 37,Ac 40 1 39,Aa 10 40]
def Ia:LSO:=[Aa 41 8,o1 42 (.bin .shl (tm 41) (.av (.int .u64 8))),Aa 43 10,AE 44 43,o1 45 (.bin .or (tm 42) (tm 44)),Aa 8 45]
def H9:LSO:=[Aj 46 37 1,Aa 37 46]
def H8:LSO:=[Aa 47 8,Aa 6 47,AC 7]
def n7:aI:=⟨48,(ahW Ii [] (.seq (ahW Ih Ck (ahY 28 (.sreg Ig []))) (ahW If [] (.seq (ahW Ie Cs (ahZ 0 (ahW Ic [] (.seq (ah0 38 0) (.seq (.block 1 (ahW Ib Ce (.sreg Ia Ci))) (.sreg H9 Cd)))))) (ahW H8 Cj .ret))))),[(.tmp 6),(.tmp 7)]⟩
attribute [push_cast] Ii Ih Ig If Ie Ic Ib Ia H9 H8
theorem GJ:ah1 83=ah2 n7:=ah5
def ET:LSO:=[Ab 2 0,Ab 3 0,Ab 4 0]
def ES:LSO:=[Aa 8 0,A8 9 8,AI 10 9 2]
def ER:LSO:=[Ab 2 0,Ab 3 0,Ab 4 3]
def EP:LSO:=[Aa 11 0,Bf 12 11 1,Bj 13 12,Aa 5 13]
def EO:LSO:=[Aa 15 5,AI 16 15 128,Aa 14 16]
def EN:LSO:=[Aa 17 5,Aa 2 17,Ab 3 2,Ab 4 0]
def EM:LSO:=[Aa 19 5,A0 20 19 128,Aa 21 20,.grp none 21 false
 [Ah 22 21 5,AD 23 21 22 132]
 24 (tm 23),Aa 18 24]
def EL:LSO:=[Ab 2 0,Ab 3 0,Ab 4 8]
def EK:LSO:=[Aa 26 0,Aa 27 5,AP 28 27 128,o1 29 (.call 83 [(tm 26),(iv 2),(tm 28)]),Aa 25 29,Am 30 25,Ap 31 25,Aa 6 30,Aa 7 31]
def EJ:LSO:=[Aa 33 7,A6 34 33,Aa 32 34]
def zJ:LSO:=[Ab 2 0,Ab 3 0,Ab 4 3]
def zI:LSO:=[Aa 36 6,o1 37 (.bin .gtr (tm 36) (.av (.int .u64 1048576))),Aa 35 37]
def zH:LSO:=[Ab 2 0,Ab 3 0,Ab 4 5]
def zG:LSO:=[Aa 38 6,Bj 39 38,Aa 40 5,AP 41 40 126,Aa 2 39,Aa 3 41,Ab 4 0]
def zk:aI:=⟨42,(ahW ET [] (.seq (ahW ES Ce (ahY 10 (.sreg ER []))) (ahW EP Cf (.seq (.block 0 (ahW EO Ce (ahX 14 (ahW EN Cp .ret) (ahW EM Cg (ahY 18 (.sreg EL [])))))) (ahW EK Cx (.seq (.block 1 (ahW EJ Ce (ahX 32 (ahW zJ [] .ret) (ahW zI Ce (ahY 35 (.sreg zH [])))))) (ahW zG C9 .ret))))))),[(.tmp 2),(.tmp 3),(.tmp 4)]⟩
attribute [push_cast] ET ES ER EP EO EN EM EL EK EJ zJ zI zH zG
theorem OU:ah1 181=ah2 zk:=ah5
def HX:LSO:=[AF 2,Aw 3,Ab 4 0]
def HW:LSO:=[Aa 5 0,AJ 6 152 5 1,Am 7 6,Ap 8 6,AS 9 6,Ai 3 2 7,Aa 3 8,Aa 4 9]
def nZ:aI:=⟨10,(ahW HX [] (ahW HW Cm .ret)),[(.cell true 3 2),(.tmp 3),(.tmp 4)]⟩
attribute [push_cast] HX HW
theorem GH:ah1 116=ah2 nZ:=ah5
def HO:LSO:=[AF 4,Aw 5,Ab 6 0]
def HN:LSO:=[Aa 16 1,A9 17 16 64,Aa 15 17]
def HM:LSO:=[Bq 18,Ai 3 4 18,Aw 5,Ab 6 6]
def HL:LSO:=[Aa 20 0,B9 21 20,Aa 19 21]
def HK:LSO:=[Bq 22,Ai 3 4 22,Aw 5,Ab 6 3]
def HJ:LSO:=[Aa 24 0,Bf 25 24 0,o1 26 (.bin .and (tm 25) (.av (.int .u8 31))),o1 27 (.bin .eql (tm 26) (.av (.int .u8 31))),Aa 23 27]
def HI:LSO:=[Bq 28,Ai 3 4 28,Aw 5,Ab 6 7]
def HH:LSO:=[Aa 30 0,Ag 31 181 30,Aa 29 31,Am 32 29,Ap 33 29,AS 34 29,Aa 7 32,Aa 8 33,Aa 9 34]
def HG:LSO:=[Aa 35 9,A0 36 35 0,Aa 37 36,.grp none 37 true
 [An 38 37 7,An 39 37 0,og 40 37 true (.len true (tm 39)),An 41 37 8,og 42 37 true (.bin .sub (tm 40) (tm 41)),og 43 37 true (.bin .gtr (tm 38) (tm 42))]
 44 (tm 43)]
def HF:LSO:=[Ab 9 3]
def EB:LSO:=[Aa 45 9,Ay 46 45 0]
def EA:LSO:=[Bq 47,Aa 48 9,Ai 3 4 47,Aw 5,Aa 6 48]
def Ez:List (aj×Kd):=
 [Ar 49 0,od 50 (.idxS (tm 49) (iv 0)) (.read 0 1),od 51 (.conv .i64 (tm 50)) .pure,od 52 (.build [(.int .i64 0),(.str []),(.sl [] 0 (some 0))] [(0,(1,(tm 51)))]) .pure,Ar 53 0,
 Ar 54 8,Ar 55 8,Ar 56 7,Bh 57 55 56,od 58 (.slS (tm 53) (some (tm 54)) (some (tm 57))) (.read 0 2),od 10 (.alloc [(.int .i64 0),(.str []),(.sl [] 0 (some 0))]) .eff,
 (⟨none,(.store 3 (tm 10) (tm 52)),none⟩,.eff)]
def zF:List aj :=
 [⟨(some 11),(.mv (tm 58)),none⟩]
def Ey:LSO:=[Aa 59 0,Bf 60 59 0,o1 61 (.bin .and (tm 60) (.av (.int .u8 32))),BT 62 61]
def Ex:LSO:=[Aa 63 11,Ad 64 1 10,Ai 1 64 63]
def Ew:List (aj×Kd):=
 [BY 65 3 10 0 0,Ar 66 0,Ar 67 8,Ar 68 7,Bh 69 67 68,BZ 70 66 69 0 1,
 (⟨none,(.store 3 (tm 4) (tm 65)),none⟩,.eff)]
def zE:List aj :=
 [⟨(some 5),(.mv (tm 70)),none⟩,⟨(some 6),(.mv (iv 0)),none⟩]
def Ev:LSO:=[Aa 71 11,o1 72 (.bin .neq (tm 71) (.av (.str [])))]
def Eu:LSO:=[Aa 74 11,Aa 75 1,Aj 76 75 1,Ax 77 152 74 76,Aa 73 77,Am 78 73,Ap 79 73,AS 80 73,AF 12,Ai 3 12 78,Aa 13 79,Aa 14 80]
def Et:LSO:=[Aa 81 14,Ay 82 81 0]
def Es:LSO:=[Bq 83,Aa 84 14,Ai 3 4 83,Aw 5,Aa 6 84]
def Er:LSO:=[Ad 85 2 10,Ac 86 1 85,Az 87 3 12,Br 88 87,B0 89 86 88,Ad 90 2 10,Ai 1 90 89]
def Ep:LSO:=[Aa 91 13,Aa 11 91]
def Eo:List (aj×Kd):=
 [BY 92 3 10 0 0,Ar 93 0,Ar 94 8,Ar 95 7,Bh 96 94 95,BZ 97 93 96 0 1,
 (⟨none,(.store 3 (tm 4) (tm 92)),none⟩,.eff)]
def zD:List aj :=
 [⟨(some 5),(.mv (tm 97)),none⟩,⟨(some 6),(.mv (iv 0)),none⟩]
def bw:aI:=⟨98,(ahW HO [] (.seq (.block 0 (ahW HN Ce (ahX 15 (ahW HM Cj .ret) (ahW HL Ce (ahX 19 (ahW HK Cj .ret) (ahW HJ Cg (ahY 23 (.sreg HI Cj)))))))) (ahW HH Cs (.seq (ahW HG Cf (ahX 44 (.sreg HF []) .skip)) (.seq (ahW EB Cd (ahY 46 (.sreg EA Ct))) (.seq (.dregM Ez zF C6) (.seq (ahW Ey Cf (ahX 62 (ahW Ex C0 (.seq (.dregM Ew zE Cr) .ret)) .skip)) (.seq (ahZ 1 (.seq (ahW Ev Cd (ah0 72 1)) (.block 2 (ahW Eu CH (.seq (ahW Et Cd (ahY 82 (.sreg Es Ct))) (ahW Er C4 (.sreg Ep Cd))))))) (.seq (.dregM Eo zD Cr) .ret))))))))),[(.cell true 3 4),(.tmp 5),(.tmp 6)]⟩
attribute [push_cast] HO HN HM HL HK HJ HI HH HG HF EB EA Ez zF Ey Ex Ew zE Ev Eu Et Es Er Ep Eo zD
theorem dC:ah1 152=ah2 bw:=ah5
def HV:LSO:=[AF 2,Ab 3 0]
def HU:LSO:=[Aa 8 0,Ag 9 116 8,Aa 7 9,Am 10 7,Ap 11 7,AS 12 7,AF 4,Ai 3 4 10,Aa 5 11,Aa 6 12]
def HT:LSO:=[Aa 13 6,A0 14 13 0,Aa 15 14,.grp none 15 true
 [An 16 15 5,og 17 15 true (.bin .neq (tm 16) (.av (.str [])))]
 18 (tm 17)]
def HS:LSO:=[Ab 6 4]
def HR:LSO:=[Aa 19 6,Ay 20 19 0]
def HQ:LSO:=[Bq 21,Aa 22 6,Ai 3 2 21,Aa 3 22]
def HP:LSO:=[Az 23 3 4,Ai 3 2 23,Ab 3 0]
def iF:aI:=⟨24,(ahW HV [] (ahW HU Cs (.seq (ahW HT Cf (ahX 18 (.sreg HS []) .skip)) (.seq (ahW HR Cd (ahY 20 (.sreg HQ Ce))) (ahW HP Cd .ret))))),[(.cell true 3 2),(.tmp 3)]⟩
attribute [push_cast] HV HU HT HS HR HQ HP
theorem sQ:ah1 85=ah2 iF:=ah5
def EI:LSO:=[Aw 2]
def EH:LSO:=[Aa 4 0,AI 5 4 128]
def EG:LSO:=[Aa 6 0,AE 7 6,AJ 8 67 7 1,Aa 2 8]
def EF:LSO:=[Ab 3 1]
def EE:LSO:=[Aa 9 0,Aa 10 3,o1 11 (.bin .mul (iv 8) (tm 10)),o1 12 (.bin .shr (tm 9) (tm 11)),A9 13 12 0]
def ED:LSO:=[Aa 14 3,Aj 15 14 1,Aa 3 15]
def EC:LSO:=[Aa 16 3,BH 17 128 16,AE 18 17,AJ 19 67 18 1,Aa 20 0,AE 21 20,Aa 22 3,Ax 23 67 21 22,AB 24 19 23,Aa 2 24]
def zj:aI:=⟨25,(ahW EI [] (.seq (ahW EH Cd (ahY 5 (.sreg EG Cf))) (ahW EF [] (.seq (ahZ 0 (.seq (ahW EE Cg (ah0 13 0)) (.block 1 (.sreg ED Ce)))) (ahW EC Cl .ret))))),[(.tmp 2)]⟩
attribute [push_cast] EI EH EG EF EE ED EC
theorem OT:ah1 107=ah2 zj:=ah5
def NG:LSO:=[A3 1 0,Aw 2,Ab 3 0]
def NF:LSO:=[Az 4 3 1,AJ 5 79 4 1,Am 6 5,Ap 7 5,Aa 2 6,Aa 3 7]
def M7:aI:=⟨8,(ahW NG [] (ahW NF Cw .ret)),[(.tmp 2),(.tmp 3)]⟩
attribute [push_cast] NG NF
theorem SQ:ah1 45=ah2 M7:=ah5
def NC:LSO:=[A3 2 0,Aw 4,Ab 5 0]
def NB:LSO:=[Aa 12 1,A9 13 12 64,Aa 11 13]
def NA:LSO:=[Aw 4,Ab 5 6]
def Nz:LSO:=[Ad 15 0 2,Ac 16 1 15,AI 17 16 0,Aa 18 17,.grp none 18 false
 [A7 19 18 0 2,A4 20 18 1 19,AD 21 18 20 255]
 22 (tm 21),Aa 23 22,.grp none 23 false
 [A7 24 23 0 2,A4 25 23 1 24,og 26 23 false (.bin .and (tm 25) (iv 31)),Bo 27 23 26 31]
 28 (tm 27),Aa 14 28]
def Ny:LSO:=[Aw 4,Ab 5 7]
def Nw:LSO:=[Ad 30 0 2,Ac 31 1 30,o1 32 (.bin .and (tm 31) (iv 32)),Ay 33 32 0,Aa 34 33,.grp none 34 true
 [AT 35 34 1 2,AO 36 34 1 35,og 37 34 true (.bin .neq (tm 36) (.av (.str [])))]
 38 (tm 37),Aa 39 38,.grp none 39 false
 [A7 40 39 0 2,A4 41 39 1 40,og 42 39 false (.bin .and (tm 41) (iv 32)),Bo 43 39 42 0,Ah 44 39 43,.grp (some (39,false)) 44 true
 [AT 45 44 2 2,AO 46 44 1 45,Bn 47 44 46,og 48 44 true (.bin .gtr (tm 47) (iv 0))]
 49 (tm 48)]
 50 (tm 49),Aa 29 50]
def Nv:LSO:=[Aw 4,Ab 5 4]
def Nu:LSO:=[Ad 51 1 2,Ac 52 1 51,o1 53 (.s2bG (tm 52)),Aa 6 53]
def Nt:LSO:=[Ad 54 2 2,Ac 55 1 54,Af 56 55,Ab 57 0]
def Nr:LSO:=[Ao 58 57 56]
def KF:LSO:=[Ak 59 3 55 57,Az 60 3 59,AF 8,Ai 3 8 60]
def KE:LSO:=[Az 62 3 8,Aa 63 1,Aj 64 63 1,Ax 65 79 62 64,Aa 61 65,Am 66 61,Ap 67 61,Aa 9 66,Aa 10 67]
def KD:LSO:=[Aa 68 10,Ay 69 68 0]
def KC:LSO:=[Aa 70 10,Aw 4,Aa 5 70]
def KB:LSO:=[Aa 71 6,Aa 72 9,Bp 73 71 72,Aa 6 73]
def KA:LSO:=[Aj 74 57 1,Aa 57 74]
def Kz:LSO:=[Aa 75 6,Af 76 75,A9 77 76 1048576]
def Ky:LSO:=[Aw 4,Ab 5 5]
def Kx:LSO:=[Ad 78 0 2,Ac 79 1 78,AE 80 79,AJ 81 67 80 1,Aa 82 6,Af 83 82,Ag 84 107 83,AB 85 81 84,Aa 86 6,Bg 87 86,AB 88 85 87,Aa 4 88,Ab 5 0]
def mE:aI:=⟨89,(ahW NC [] (.seq (.block 0 (ahW NB Ce (ahX 11 (ahW NA [] .ret) (ahW Nz Ck (ahX 14 (ahW Ny [] .ret) (ahW Nw C2 (ahY 29 (.sreg Nv [])))))))) (ahW Nu Cf (.seq (ahW Nt Cp (ahZ 1 (ahW Nr [] (.seq (ah0 58 1) (.seq (.block 2 (ahW KF Ce (ahW KE Cx (.seq (ahW KD Cd (ahY 69 (.sreg KC Cj))) (.sreg KB Cf))))) (.sreg KA Cd)))))) (.seq (ahW Kz Ce (ahY 77 (.sreg Ky []))) (.seq (.sdreg Kx [.pure,(.read 0 0),.pure,(.read 0 0),.pure,(.read 0 0),(.read 0 0),.pure,.pure,(.read 0 0)] [true,true,false,false,false,false,false,false,false,false,false,false,false]) .ret)))))),[(.tmp 4),(.tmp 5)]⟩
attribute [push_cast] NC NB NA Nz Ny Nw Nv Nu Nt Nr KF KE KD KC KB KA Kz Ky Kx
theorem zi:aK Tryz.prog (λr i=>if r=7/\i=2 then 5 else 1) 79=some mE.raw:=ah5
def NM:LSO:=[Aw 2]
def NL:LSO:=[Ab 3 1]
def NJ:LSO:=[Aa 4 3,AI 5 4 8,Aa 6 5,.grp none 6 true
 [An 7 6 0,An 8 6 3,og 9 6 true (.bin .mul (iv 8) (tm 8)),BW 10 6 9 1,og 11 6 true (.bin .shr (tm 7) (tm 10)),Bt 12 6 11 0]
 13 (tm 12),Aa 14 13,.grp none 14 true
 [An 15 14 0,An 16 14 3,og 17 14 true (.bin .mul (iv 8) (tm 16)),BW 18 14 17 1,og 19 14 true (.bin .shr (tm 15) (tm 18)),Bt 20 14 19 (-1)]
 21 (tm 20)]
def NI:LSO:=[Aa 22 3,Aj 23 22 1,Aa 3 23]
def NH:LSO:=[Aa 24 0,AE 25 24,Aa 26 3,Ax 27 67 25 26,Aa 2 27]
def M8:aI:=⟨28,(ahW NM [] (ahW NL [] (.seq (ahZ 0 (.seq (ahW NJ Ci (ah0 21 0)) (.block 1 (.sreg NI Ce)))) (ahW NH Cg .ret)))),[(.tmp 2)]⟩
attribute [push_cast] NM NL NJ NI NH
theorem SR:ah1 39=ah2 M8:=ah5
def E7:LSO:=[Ab 2 0,Al 3]
def E6:LSO:=[Aa 9 0,Aa 10 0,A8 11 10,o1 12 (.call 83 [(tm 9),(iv 0),(tm 11)]),Aa 8 12,Am 13 8,Ap 14 8,Aa 4 13,Aa 5 14]
def E5:LSO:=[Aa 15 5,A6 16 15]
def EZ:LSO:=[Ab 2 0,Al 3]
def EY:LSO:=[Aa 17 0,A8 18 17,o1 19 (.bin .mul (iv 8) (tm 18)),o1 20 (.bin .sub (iv 64) (tm 19)),Aa 6 20]
def EX:LSO:=[Aa 21 4,Aa 22 6,o1 23 (.bin .shl (tm 21) (tm 22)),Bj 24 23,Aa 25 6,o1 26 (.bin .shr (tm 24) (tm 25)),Aa 7 26]
def EW:LSO:=[Aa 27 7,Ag 28 39 27,Aa 29 0,AU 30 28 29]
def EV:LSO:=[Ab 2 0,Al 3]
def EU:LSO:=[Aa 31 7,Aa 2 31,AC 3]
def zl:aI:=⟨32,(ahW E7 [] (ahW E6 Cx (.seq (ahW E5 Cd (ahY 16 (.sreg EZ []))) (ahW EY Cg (ahW EX Ch (.seq (ahW EW Cf (ahY 30 (.sreg EV []))) (ahW EU Cj .ret))))))),[(.tmp 2),(.tmp 3)]⟩
attribute [push_cast] E7 E6 E5 EZ EY EX EW EV EU
theorem OV:ah1 117=ah2 zl:=ah5
def NE:LSO:=[AF 4]
def ND:LSO:=[Aa 5 0,Aa 6 1,Ag 7 78 6,o1 8 (.build [(.int .i64 0),(.str []),(.sl [] 0 (some 0))] [(0,(1,(tm 5))),(2,(1,(tm 7)))]),Ai 3 4 8]
def M6:aI:=⟨9,(ahW NE [] (ahW ND Cq .ret)),[(.cell true 3 4)]⟩
attribute [push_cast] NE ND
theorem SP:ah1 43=ah2 M6:=ah5
def Kw:LSO:=[Aq 2]
def Kv:LSO:=[Aq 3]
def Ku:LSO:=[Aa 6 0,Af 7 6,Ab 8 0]
def Kt:LSO:=[Ao 9 8 7]
def Ks:LSO:=[Ak 10 3 6 8,Az 11 3 10,AF 5,Ai 3 5 11]
def Kr:List (aj×Kd):=
 [Ar 12 3,As 13 0 5,Au 14 1 13 0 0,As 15 1 5,Au 16 1 15 0 0,As 17 2 5,Au 18 1 17 0 0,AM 19 78 18 0 0,
 od 20 (.build [(.int .i64 0),(.str []),(.sl [] 0 (some 0))] [(0,(1,(tm 14))),(1,(1,(tm 16))),(2,(1,(tm 19)))]) .pure,
 od 21 (.bslice false 3 1 [(.int .i64 0),(.str []),(.sl [] 0 (some 0))] [(0,(3,(tm 20)))]) (.read 0 0)]
def HE:List aj :=
 [⟨(some 22),(.app 1 3 48 [(.int .i64 0),(.str []),(.sl [] 0 (some 0))] (tm 12) (tm 21)),none⟩,⟨(some 3),(.mv (tm 22)),none⟩]
def Kq:LSO:=[Aj 23 8 1,Aa 8 23]
def Kp:LSO:=[Aa 24 3,Aa 2 24]
def JN:aI:=⟨25,(ahW Kw [] (ahW Kv [] (.seq (ahW Ku [] (ahZ 0 (ahW Kt [] (.seq (ah0 9 0) (.seq (.block 1 (ahW Ks Ce (.dregM Kr HE CI))) (.sreg Kq Cd)))))) (ahW Kp Cd .ret)))),[(.tmp 2)]⟩
attribute [push_cast] Kw Kv Ku Kt Ks Kr HE Kq Kp
theorem Rb:ah1 78=ah2 JN:=ah5
def KH:LSO:=[AF 4]
def KG:LSO:=[Aa 5 0,Aa 6 1,o1 7 (.build [(.int .i64 0),(.str []),(.sl [] 0 (some 0))] [(0,(1,(tm 5))),(1,(1,(tm 6)))]),Ai 3 4 7]
def JO:aI:=⟨8,(ahW KH [] (ahW KG Cu .ret)),[(.cell true 3 4)]⟩
attribute [push_cast] KH KG
theorem Rc:ah1 38=ah2 JO:=ah5
def z6:LSO:=[AF 2]
def zZ:LSO:=[Aa 3 0,BI 4 38 4 3,Ai 3 2 4]
def wc:aI:=⟨5,(ahW z6 [] (ahW zZ C0 .ret)),[(.cell true 3 2)]⟩
attribute [push_cast] z6 zZ
theorem M9:ah1 40=ah2 wc:=ah5
def dU:LSO:=[Aq 4]
def dT:LSO:=[Aq 5]
def dS:LSO:=[Aa 8 0,Af 9 8,Ab 10 0]
def dR:LSO:=[Ao 11 10 9]
def dQ:LSO:=[Ak 12 2 8 10,Az 13 2 12,Bu 7,Ai 2 7 13]
def dP:LSO:=[Aa 14 5,Aa 15 1,Az 16 2 7,B8 17 15 16,Br 18 17,B0 19 14 18,Aa 5 19]
def dO:LSO:=[Aj 20 10 1,Aa 10 20]
def dN:LSO:=[Aa 21 5,Aa 4 21]
def cc:aI:=⟨22,(ahW dU [] (ahW dT [] (.seq (ahW dS [] (ahZ 0 (ahW dR [] (.seq (ah0 11 0) (.seq (.block 1 (ahW dQ Ce (.sreg dP Ch))) (.sreg dO Cd)))))) (ahW dN Cd .ret)))),[(.tmp 4)]⟩
attribute [push_cast] dU dT dS dR dQ dP dO dN
theorem jW:ah1 41=ah2 cc:=ah5
def eW:LSO:=[Aq 4]
def eV:LSO:=[Aq 5]
def eU:LSO:=[Aa 8 0,Af 9 8,Ab 10 0]
def eT:LSO:=[Ao 11 10 9]
def eS:LSO:=[Ak 12 1 8 10,Ac 13 1 12,Aa 7 13]
def eR:LSO:=[Aa 14 5,Aa 15 1,Aa 16 7,B8 17 15 16,Br 18 17,B0 19 14 18,Aa 5 19]
def eQ:LSO:=[Aj 20 10 1,Aa 10 20]
def eP:LSO:=[Aa 21 5,Aa 4 21]
def cI:aI:=⟨22,(ahW eW [] (ahW eV [] (.seq (ahW eU [] (ahZ 0 (ahW eT [] (.seq (ah0 11 0) (.seq (.block 1 (ahW eS Ce (.sreg eR Ch))) (.sreg eQ Cd)))))) (ahW eP Cd .ret)))),[(.tmp 4)]⟩
attribute [push_cast] eW eV eU eT eS eR eQ eP
theorem lC:ah1 44=ah2 cI:=ah5
def rO:LSO:=[A3 1 0,AF 2]
def rN:List (aj×Kd):=
 [As 3 0 1,Au 4 1 3 0 0,AM 5 40 4 0 0,As 6 1 1,Au 7 1 6 0 0]
def pN:List aj :=
 [⟨(some 8),(.call 44 [(tm 7),(.av (.func 40 []))]),none⟩,⟨(some 9),(.call 43 [(iv 49),(tm 8)]),none⟩,
 ⟨(some 10),(.bslice false 3 2 [(.int .i64 0),(.str []),(.sl [] 0 (some 0)),(.int .i64 0),(.str []),(.sl [] 0 (some 0))] [(0,(3,(tm 5))),(3,(3,(tm 9)))]),none⟩,
 ⟨(some 11),(.call 43 [(iv 48),(tm 10)]),none⟩,⟨none,(.store 3 (tm 2) (tm 11)),none⟩]
def mF:aI:=⟨12,(ahW rO [] (.seq (.dregM rN pN CJ) .ret)),[(.cell true 3 2)]⟩
attribute [push_cast] rO rN pN
theorem Hi:ah1 42=ah2 mF:=ah5
def xt:LSO:=[A3 1 0,Aw 2,Ab 3 0]
def xr:LSO:=[Ad 11 0 1,Ac 12 1 11,AI 13 12 1,Aa 14 13,.grp none 14 false
 [A7 15 14 0 1,A4 16 14 1 15,AD 17 14 16 4]
 18 (tm 17)]
def xq:LSO:=[Aw 2,Ab 3 24]
def xo:LSO:=[Ad 19 0 1,Ac 20 1 19,Ag 21 39 20,BI 22 38 2 21,Br 23 22,Aa 4 23]
def xm:LSO:=[Ad 24 1 1,Ac 25 1 24,Bc 26 25,Aa 5 26]
def xl:LSO:=[Ad 27 0 1,Ac 28 1 27,A0 29 28 4]
def xk:LSO:=[Aa 30 5,Ad 31 2 1,Ac 32 1 31,Bc 33 32,By 34 30 33,Aa 5 34]
def xj:LSO:=[Aa 35 5,Af 36 35,Ab 37 0]
def xh:LSO:=[Ao 38 37 36]
def xg:LSO:=[Ak 39 1 35 37,Ac 40 1 39,Aa 7 40]
def uf:LSO:=[Aa 42 7,Ag 43 35 42,Aa 41 43,Am 44 41,Ap 45 41,Aa 8 44,Aa 9 45]
def ue:LSO:=[Aa 46 9,Ay 47 46 0]
def uc:LSO:=[Aa 48 9,Aw 2,Aa 3 48]
def ub:LSO:=[Aa 49 4,Aa 50 8,Ag 51 40 50,Br 52 51,B0 53 49 52,Aa 4 53]
def t8:LSO:=[Aj 54 37 1,Aa 37 54]
def t7:LSO:=[Ad 55 0 1,Ac 56 1 55,Ay 57 56 2]
def t6:LSO:=[Ad 58 3 1,Ac 59 1 58,o1 60 (.call 41 [(tm 59),(.av (.func 42 []))]),Aa 10 60]
def tZ:LSO:=[Aa 61 4,Aa 62 10,BI 63 43 48 62,Br 64 63,B0 65 61 64,Aa 4 65]
def tY:LSO:=[Aa 66 4,BI 67 43 48 66,Ag 68 45 67,Am 69 68,Ap 70 68,Aa 2 69,Aa 3 70]
def iG:aI:=⟨71,(ahW xt [] (.seq (ahW xr Cg (ahY 18 (.sreg xq []))) (ahW xo Ci (ahW xm Cf (.seq (ahW xl Ce (ahX 29 (.sreg xk Ci) .skip)) (.seq (ahW xj [] (ahZ 0 (ahW xh [] (.seq (ah0 38 0) (.seq (.block 1 (ahW xg Ce (ahW uf Cm (.seq (ahW ue Cd (ahY 47 (.sreg uc Cj))) (.sreg ub Ci))))) (.sreg t8 Cd)))))) (.seq (ahW t7 Ce (ahX 57 (ahW t6 Cf (.sreg tZ Ci)) .skip)) (ahW tY Cm .ret)))))))),[(.tmp 2),(.tmp 3)]⟩
attribute [push_cast] xt xr xq xo xm xl xk xj xh xg uf ue uc ub t8 t7 t6 tZ tY
theorem vW:ah1 14=ah2 iG:=ah5
attribute [push_cast] GI n7 nZ bw iF M7 mE M8 JN JO wc cc cI mF
variable {L:List Blk}{K:aeX}
set_option maxHeartbeats 8000000
set_option maxRecDepth 100000
theorem Tx:∀n,di [AV.int IntKind.u8 0] n=List.replicate n (AV.int .u8 0)
 |0=>rfl
 |n+1=>by rw[di,Tx n,List.replicate_succ];rfl
theorem YL(c:UInt8)(s:List UInt8):u8s (c::s)=.int .u8 c.toNat::u8s s:=rfl
theorem Pt(s:List UInt8):(u8s s).all Q9=true:=by rw[afd];intro a b;simp only[u8s,ae1]at b;obtain⟨c,_,rfl⟩:=b;rfl
theorem UY(s:List UInt8):(u8s s).map OM=s:=by simp only[u8s,afj];refine(afN λc _=>?_).trans (List.map_id _);simp[OM]
theorem O7(s:List UInt8):(u8s s).length=s.length:=by simp[u8s]
def OP(n k i:Nat):List AV:=List.replicate (k-i) (AV.int .u8 0)++u8s (eG n i)
theorem TC{i:Nat}(h:i<=k):(OP n k i).length=k:=by rw[OP,afc,agN,O7,fp];omega
theorem U4(A:List AV)(x v:AV)(s:List AV):bS (A++x::s) A.length [v]=A++v::s:=by simp[bS]
theorem XC{i:Nat}(h:i<k):bS (OP n k i) (k-1-i) [.int .u8 ((n/256^i%256:Nat):Int)]=OP n k (i+1):=by obtain⟨j,rfl⟩:∃j,k=i+1+j:=⟨k-i-1,ah3⟩;have b:i+1+j-i=j+1:=ah3;have a:i+1+j-1-i=j:=ah3;have c:i+1+j-(i+1)=j:=ah3;rw[OP,OP,b,a,c,RD,YL,J0,List.replicate_succ',afa];have:=U4 (List.replicate j (AV.int .u8 0)) (.int .u8 0) (.int .u8 ((n/256^i%256:Nat):Int)) (u8s (eG n i));rw[agN]at this;exact this
theorem mz(y:1<=k)(I:k<=8)(G:n<18446744073709551616)(h:K (.str (eG n k)) L):aeW 67 [.int .u64 (n:Int),.int .i64 (k:Int)] L K:=by
 replace h:=hid h;have g1:¬(k:Int)<1:=ah3;have F:¬(8:Int)<(k:Int):=ah3;have E:di [AV.int IntKind.u8 0] k=OP n k 0:=by simp[Tx,OP,eG,u8s]
 refine aeV QJ ?_;refine ao (λm T' L'=>∃(i x:Nat) (C:List AV),m=k-i/\i<=k/\Hid (x=n/256^i)/\Hid (C=OP n k i)/\C.length=k/\T'=[(17,.int .i64 (i:Int)),(16,.int .i64 (k:Int)),(5,.lsl L.length 0 k (some k) 1),(0,.int .u64 (x:Int)),(1,.int .i64 (k:Int))]/\L'=L++[.cells C]) ah7 ⟨0,n,_,rfl,ae5 _,hid ah4,hid rfl,TC (ae5 _),rfl,rfl⟩ ?_;rintro _ _ _ ⟨i,x,C,rfl,v,j,q,g,rfl,rfl⟩;by_cases c:i<k;have g3:(i:Int)<(k:Int):=ah3;have D:=aeU i ah3;have B:IntKind.i64.wrap ((k:Int)-1)=(k:Int)-1:=ae ah3 ah3;have w:IntKind.i64.wrap ((k:Int)-1-(i:Int))=(k:Int)-1-(i:Int):=ae ah3 ah3;have g4:(0:Int)<=(k:Int)-1-(i:Int):=ah3;have H:(k:Int)-1-(i:Int)<(k:Int):=ah3;have s:((k:Int)-1-(i:Int)).toNat=k-1-i:=ah3;have r:x<=n:=by rw[j.o];exact Nat.div_le_self _ _
 have d:=XC (n:=n) c;rw[<- q.o]at d;obtain⟨z,f⟩:∃z:Int,((n/256^i%256:Nat):Int)=z:=⟨_,rfl⟩;have J:IntKind.u8.wrap (x:Int)=z:=by rw[<- f,<- j.o];simp only[IntKind.wrap,IntKind.signed,IntKind.bits];simp
 have A:((x:Int)).fdiv (2^min 8 IntKind.u64.bits)=((x/256:Nat):Int):=by rw[show(2:Int)^min 8 IntKind.u64.bits=256 by decide,ahP _ (by decide)];rfl
 rw[f]at d;have t:C.take (k-1-i)++AV.int .u8 z::C.drop (k-1-i+1)=OP n k (i+1):=by rw[<- d];simp[bS]
 clear d f;have p:(OP n k (i+1)).length=k:=TC c;have e:x/256=n/256^(i+1):=by rw[j.o,ahO,Nat.pow_succ]
 have u:k-1-i<C.length:=ah3;replace e:=hid e;refine wk ?_;exact ah8 ah3 ah6 ⟨i+1,x/256,_,rfl,c,hid e.o,hid rfl,p,rfl,rfl⟩;have l:i=k:=ah3;subst l;have g3:¬(i:Int)<(i:Int):=ah3;have a:=q.o;rw[OP,agG]at a;have b:C=u8s (eG n i):=by simpa using a
 have s:C.all Q9=true:=by rw[b];exact Pt _
 have d:C.map OM=eG n i:=by rw[b];exact UY _
 have p:C.take i=C:=by rw[<- g,afo]
 clear a b;refine wk ?_;exact af rfl h.o
theorem WQ{a z:Int}(e:0<=a)(f:z<=9223372036854775807)(d:(s.length:Int)<=9223372036854775807)(b:¬(1<=z/\z<=8/\a+z<=s.length))(h:K (.tup [.int .u64 0,.bool false]) L):aeW 83 [.str s,.int .i64 a,.int .i64 z] L K:=by replace h:=hid h;refine aa GJ (by simp[n7]) ?_;simp only[n7,am];by_cases c:z<1;clear b;refine wk ?_;exact ag h.o;by_cases g:8<z;clear b;refine wk ?_;exact ag h.o;have z3:¬a<0:=ah3;have i:IntKind.i64.wrap ((s.length:Int)-z)=(s.length:Int)-z:=ae ah3 ah3;have z4:(s.length:Int)-z<a:=ah3;clear b;refine wk ?_;exact ag h.o
theorem Gx{a z:Nat}(G:s.length<=1100000)(A:1<=z)(M:z<=8)(H:a+z<=s.length)(h:K (.tup [.int .u64 (bY ((s.drop a).take z):Nat),.bool true]) L):aeW 83 [.str s,.int .i64 (a:Int),.int .i64 (z:Int)] L K:=by
 replace h:=hid h;have F:¬(z:Int)<1:=ah3;have C:¬(8:Int)<(z:Int):=ah3;have z3:¬(a:Int)<0:=ah3;have E:IntKind.i64.wrap ((s.length:Int)-(z:Int))=(s.length:Int)-(z:Int):=ae ah3 ah3;have z4:¬(s.length:Int)-(z:Int)<(a:Int):=ah3;have D:IntKind.i64.wrap ((a:Int)+(z:Int))=(a:Int)+(z:Int):=ae ah3 ah3;have N:((a:Int)+(z:Int)).toNat=a+z:=ah3;obtain⟨t,f⟩:=aeS ((s.drop a).take z);have q:t.length=z:=by rw[<- f];simp;omega
 rw[f]at h;have O:(s.drop a).take (a+z-a)=t:=by rw[<- f];congr 1;omega
 clear f;refine aeV GJ ?_;refine ao (λm T' L'=>∃(i x:Nat),m=z-i/\i<=z/\Hid (x=bY (t.take i))/\T'=[(37,.int .i64 (i:Int)),(36,.int .i64 (z:Int)),(35,.sl (u8s t) z none),(8,.int .u64 (x:Int))]/\L=L') (CutL (b:=ae0 _)) ⟨0,0,rfl,ae5 _,hid rfl,rfl,rfl⟩ ?_;rintro _ _ _ ⟨i,x,rfl,w,l,rfl,rfl⟩;by_cases p:i<z;have g1:(i:Int)<(z:Int):=ah3;have y:=aeU i ah3;obtain⟨c,g⟩:=aeS (t.getD i 0);have d:i<t.length:=ah3;have I:(u8s t).getD i .undef=.int .u8 (c.toNat:Int):=by rw[<- g];simp[u8s,d]
 have r:t.take (i+1)=t.take i++[c]:=by rw[afs d,<- g];simp[d]
 have k:bY (t.take (i+1))=256*x+c.toNat:=by rw[r,Qh,l.o]
 have j:x<2^56:=by have u:=Pm (t.take i);rw[<- l.o]at u;have v:(t.take i).length<=7:=(by simp;omega);exact af8 u (afw (Nat.pow_le_pow_right ah3 v) (by decide))
 have P:IntKind.u64.wrap (BitVec.ofInt IntKind.u64.bits (IntKind.u64.wrap ((x:Int)*2^min 8 IntKind.u64.bits)) |||BitVec.ofInt IntKind.u64.bits (c.toNat:Int)).toNat=((256*x+c.toNat:Nat):Int):=abC j;have B:IntKind.u64.wrap (c.toNat:Int)=(c.toNat:Int):=Jm ah3 (by have:=c.toNat_lt;omega);have J:i<(u8s t).length:=by rw[O7];exact d
 clear r g;replace k:=hid k;refine wk ?_;exact ah8 ah3 (CutL (b:=ae0 _)) ⟨i+1,256*x+c.toNat,rfl,p,hid k.o.symm,rfl,rfl⟩;have n:i=z:=ah3;subst n;have g1:¬(i:Int)<(i:Int):=ah3;have e:=h.o;rw[show bY t=x by rw[l.o,<- q,afo]]at e;replace e:=hid e;refine wk ?_;exact ag e.o
theorem Pd(a:n<18446744073709551616)(h:K (.str [b8 n]) L):aeW 67 [.int .u64 (n:Int),.int .i64 1] L K :=
 mz (k:=1) ah3 ah3 a (by simpa[eG]using h)
theorem T5(H:n<=1048576)(h:K (.str (sL n)) L):aeW 107 [.int .i64 (n:Int)] L K:=by
 unfold sL at h;have F:IntKind.u64.wrap (n:Int)=(n:Int):=Jm ah3 ah3;refine aa OT (by simp[zj]) ?_;simp only[zj,am];by_cases g:n<128;rw[if_pos g]at h;replace h:=hid h;have g1:(n:Int)<128:=ah3;clear g;have kk1:=@aia _ _ _ _ (Pd (n:=n) ah3);refine wk ?_;exact ag h.o;rw[if_neg g]at h;have g1:¬(n:Int)<128:=ah3;obtain⟨k,c⟩:∃k:Nat,(if n<256 then 1 else if n<65536 then 2 else 3)=k:=⟨_,rfl⟩;have v:K (.str (b8 (128+k)::eG n k)) L:=by split at h;rename_i e;rw[if_pos e]at c;subst c;simpa[eG,show b8 129=129 from rfl]using h;rename_i e;rw[if_neg e]at c;split at h;rename_i t;rw[if_pos t]at c;subst c;simpa[eG,show b8 130=130 from rfl]using h;rename_i t;rw[if_neg t]at c;subst c;simpa[eG,ahO,show b8 131=131 from rfl]using h
 have s:1<=k/\k<=3/\n/2^(8*k)=0/\∀j,1<=j->j<k->0<n/2^(8*j):=by rw[<- c];split;refine⟨ah3,ah3,by simp;omega,λj a b=>ah3⟩;split;refine⟨ah3,ah3,by simp;omega,λj a b=>?_⟩;have:j=1:=ah3;subst this;simp;omega;refine⟨ah3,ah3,by simp;omega,λj a b=>?_⟩;have:j=1\/j=2:=ah3;rcases this with rfl|rfl<;>simp<;>omega
 obtain⟨y,E,r,p⟩:=s;replace h:=hid v;clear c v g;replace r:=hid r;replace p:=hid p;refine wk ?_;refine ao (λm T' L'=>∃(i:Nat),m=k-i/\1<=i/\i<=k/\T'=[(3,.int .i64 (i:Int)),(0,.int .i64 (n:Int))]/\L=L') (CutL (b:=ae0 _)) ⟨1,rfl,ae0 _,y,rfl,rfl⟩ ?_;rintro _ _ _ ⟨i,rfl,l,A,rfl,rfl⟩;have D:=aeU i ah3;have B:IntKind.i64.wrap (8*(i:Int))=8*(i:Int):=ae ah3 ah3;have I:IntKind.i64.wrap (128+(i:Int))=128+(i:Int):=ae ah3 ah3;have C:IntKind.u64.wrap (128+(i:Int))=((128+i:Nat):Int):=by rw[Jm ah3 ah3];simp
 have z:(n:Int).fdiv (2^min (8*(i:Int)).toNat IntKind.i64.bits)=((n/2^(8*i):Nat):Int):=by
  rw[show min (8*(i:Int)).toNat IntKind.i64.bits=8*i by simp[IntKind.bits];omega];rw[ahP _ (Int.le_of_lt (Int.pow_pos (by decide)))]
  norm_cast
 have G:(0:Int)<=8*(i:Int):=ah3;obtain⟨q,f⟩:=aeS (n/2^(8*i));rw[f]at z;by_cases d:i<k;have w:0<q:=by rw[<- f];exact p.o i l d
 have g3:(0:Int)<(q:Int):=ah3;clear f;refine wk ?_;exact ah8 ah3 (CutL (b:=ae0 _)) ⟨i+1,rfl,ah3,d,rfl,rfl⟩;have u:i=k:=ah3;subst u;have w:q=0:=by rw[<- f];exact r.o
 subst w;have g3:¬(0:Int)<((0:Nat):Int):=by decide
 have x:=fp n i;clear f d;have kk1:=@aia _ _ _ _ (Pd (n:=128+i) ah3);have kk2:=@aia _ _ _ _ (mz (n:=n) (k:=i) ah3 ah3 ah3);refine wk ?_;exact ag h.o
def aeN:Except Int (Nat×Nat)->AV
 |.error e=>.tup [.int .i64 0,.int .i64 0,.int .i64 e]
 |.ok (n,a)=>.tup [.int .i64 (n:Int),.int .i64 (a:Int),.int .i64 0]
theorem UC(w:s.length<=1100000)(h:K (aeN (Nl s)) L):aeW 181 [.str s] L K:=by
 unfold Nl at h;refine aa OU (by simp[zk]) ?_;simp only[zk,am];by_cases d:s.length<2;rw[if_pos d]at h;replace h:=hid h;have g1:(s.length:Int)<2:=ah3;clear d;refine wk ?_;exact ag h.o;rw[if_neg d]at h;have g1:¬(s.length:Int)<2:=ah3;have x:(1:Int)<(s.length:Int):=ah3;have g3:1<s.length:=ah3;obtain⟨c,r⟩:=aeS (s.getD 1 0);obtain⟨k,m⟩:=aeS (c.toNat);simp only[r,m]at h;have l:k<256:=by rw[<- m];exact c.toNat_lt
 have C:IntKind.i64.wrap (k:Int)=(k:Int):=ae ah3 ah3;by_cases e:k<128;rw[if_pos e]at h;replace h:=hid h;have g4:(k:Int)<128:=ah3;clear e d;refine wk ?_;exact ag h.o;rw[if_neg e]at h;have g4:¬(k:Int)<128:=ah3;by_cases h4:k=128\/132<k;rw[if_pos h4]at h;replace h:=hid h;obtain⟨b,t⟩:=aeS (decide ((k:Int)=128\/(132:Int)<(k:Int)));have j:b=true:=by rw[<- t,decide_eq_true_iff];omega
 subst j;clear h4 e d;refine wk ?_;exact ag h.o;rw[if_neg h4]at h;have y:¬(k:Int)=128:=ah3;have u:¬(132:Int)<(k:Int):=ah3;have A:IntKind.i64.wrap ((k:Int)-128)=((k-128:Nat):Int):=by rw[ae ah3 ah3];omega
 have v:IntKind.i64.wrap ((k:Int)-126)=((k-126:Nat):Int):=by rw[ae ah3 ah3];omega
 by_cases f:s.length<k-126;rw[if_pos f]at h;replace h:=hid h;have kk1:Hid (Ctr Tryz.prog 83 [.str s,.int .i64 2,.int .i64 ((k-128:Nat):Int)] (.tup [.int .u64 0,.bool false])):=@hid _ (by intro L K q;exact WQ ah3 ah3 ah3 ah3 q);clear f h4 e d;refine wk ?_;exact ag h.o;rw[if_neg f]at h;obtain⟨n,g⟩:=aeS (bY ((s.drop 2).take (k-128)));have kk1:Hid (Ctr Tryz.prog 83 [.str s,.int .i64 2,.int .i64 ((k-128:Nat):Int)] (.tup [.int .u64 (n:Int),.bool true])):=@hid _ (by intro L K q;exact Gx (a:=2) (z:=k-128) ah3 ah3 ah3 ah3 (by rw[g];exact q));rw[g]at h;by_cases i:1048576<n;rw[if_pos i]at h;replace h:=hid h;have p:(1048576:Int)<(n:Int):=ah3;clear i f h4 e d g;refine wk ?_;exact ag h.o;rw[if_neg i]at h;replace h:=hid h;have p:¬(1048576:Int)<(n:Int):=ah3;have B:IntKind.i64.wrap (n:Int)=(n:Int):=ae ah3 ah3;clear i f h4 e d g;refine wk ?_;exact ag h.o
theorem Vv{n:Int}(z : -9223372036854775808<=n)(D:n<9223372036854775808)(h:K (.str (Vu n)) L):aeW 39 [.int .i64 n] L K:=by
 obtain⟨k,s⟩:=aeS (XU n 7 1);rw[Vu,s]at h;replace h:=hid h;have w0:IntKind.u64.wrap n=((n%18446744073709551616).toNat:Int):=by simp only[IntKind.wrap,IntKind.signed,IntKind.bits];simp;omega
 have g:(n%18446744073709551616).toNat<18446744073709551616:=ah3;obtain⟨m,e⟩:=aeS ((n%18446744073709551616).toNat);rw[e]at w0 g h;clear e;refine aeV SR ?_;refine ao (λm T' L'=>∃(i:Nat),m=8-i/\1<=i/\i<=8/\Hid (XU n (8-i) i=k)/\T'=[(3,.int .i64 (i:Int)),(0,.int .i64 n)]/\L=L') (CutL (b:=ae0 _)) ⟨1,rfl,ae0 _,ah3,hid s,rfl,rfl⟩ ?_;rintro _ _ _ ⟨i,rfl,d,w,f,rfl,rfl⟩;have A:=aeU i ah3;have x:IntKind.i64.wrap (8*(i:Int))=8*(i:Int):=ae ah3 ah3;have E:IntKind.i64.wrap (8*(i:Int)-1)=8*(i:Int)-1:=ae ah3 ah3;have y:min (8*(i:Int)-1).toNat IntKind.i64.bits=8*i-1:=by simp[IntKind.bits];omega
 have C:(0:Int)<=8*(i:Int)-1:=ah3;obtain⟨q,t⟩:=aeS (n.fdiv (2^(8*i-1)));by_cases c:i<8/\q≠0/\q≠-1;obtain⟨B,u,v⟩:=c;have a:=f.o;rw[show 8-i=(7-i)+1 by omega,XU,t,if_neg (by simp[u,v])]at a;have g3:(i:Int)<8:=ah3;replace a:=hid a;clear f;refine wk ?_;exact ah8 ah3 (CutL (b:=ae0 _)) ⟨i+1,rfl,ah3,ah3,hid (by rw[show 8-(i+1)=7-i by omega];exact a.o),rfl,rfl⟩;have j:i=k:=by have a:=f.o;by_cases r:i=8;subst r;exact a;rw[show 8-i=(7-i)+1 by omega,XU,t,if_pos ah3]at a;exact a
 subst j;clear f;by_cases r:(i:Int)<8;by_cases p:q=0;clear c;subst p;have kk1:=@aia _ _ _ _ (mz (n:=m) (k:=i) d ah3 g);refine wk ?_;exact ag h.o;have l:q=-1:=ah3;clear c;subst l;have kk1:=@aia _ _ _ _ (mz (n:=m) (k:=i) d ah3 g);refine wk ?_;exact ag h.o;clear c;have kk1:=@aia _ _ _ _ (mz (n:=m) (k:=i) d ah3 g);refine wk ?_;exact ag h.o
def aeK(o:Option Int):AV:=match o with
 |some k=>.tup [.int .i64 k,.bool true]
 |none=>.tup [.int .i64 0,.bool false]
theorem RJ(t:s.length<=1100000)(h:K (aeK (Vh s)) L):aeW 117 [.str s] L K:=by
 unfold Vh at h;refine aa OV (by simp[zl]) ?_;simp only[zl,am];by_cases g:1<=s.length/\s.length<=8;rotate_left;rw[if_neg (λe=>g ⟨e.1,e.2.1⟩)]at h;replace h:=hid h;have kk1:Hid (Ctr Tryz.prog 83 [.str s,.int .i64 0,.int .i64 (s.length:Int)] (.tup [.int .u64 0,.bool false])):=@hid _ (by intro L K q;exact WQ ah3 ah3 ah3 ah3 q);clear g;refine wk ?_;exact ag h.o;obtain⟨l,f⟩:=aeS (s.length);obtain⟨u,j⟩:=aeS (bY s);have d:u<256^l:=by rw[<- j,<- f];exact Pm s
 have p:=Xp (u:=u) ah3 (show l<=8 by omega) d;have kk1:Hid (Ctr Tryz.prog 83 [.str s,.int .i64 0,.int .i64 (l:Int)] (.tup [.int .u64 (u:Int),.bool true])):=@hid _ (by intro L K q;rw[<- f];refine Gx (a:=0) (z:=s.length) ah3 ah3 ah3 ah3 ?_;rw[ahi,afo,j];exact q)
 obtain⟨n,k⟩:=aeS (abo s);have c:(if u<2^(8*l-1)then(u:Int)else(u:Int)-2^(8*l))=n:=by rw[<- k,abo,j,f]
 rw[c]at p;have A:IntKind.i64.wrap (8*(l:Int))=8*(l:Int):=ae ah3 ah3;have y:IntKind.i64.wrap (64-8*(l:Int))=64-8*(l:Int):=ae ah3 ah3;have v:min (64-8*(l:Int)).toNat IntKind.u64.bits=64-8*l:=by simp[IntKind.bits];omega
 have w:min (64-8*(l:Int)).toNat IntKind.i64.bits=64-8*l:=by simp[IntKind.bits];omega
 have g1:(0:Int)<=64-8*(l:Int):=ah3;have b : -9223372036854775808<=n/\n<9223372036854775808:=by have m:l=1\/l=2\/l=3\/l=4\/l=5\/l=6\/l=7\/l=8:=ah3;rw[<- c];rcases m with rfl|rfl|rfl|rfl|rfl|rfl|rfl|rfl<;>simp at d⊢<;>split<;>omega
 rw[k]at h;by_cases i:Vu n=s;rw[if_pos ⟨g.1,g.2,i⟩]at h;replace h:=hid h;have kk2:Hid (Ctr Tryz.prog 39 [.int .i64 n] (.str s)):=@hid _ (by intro L K q;exact Vv b.1 b.2 (by rw[i];exact q));clear i k c d j g;refine wk ?_;exact ag h.o;rw[if_neg (λe=>i e.2.2)]at h;replace h:=hid h;obtain⟨x,r⟩:=aeS (Vu n);have kk2:Hid (Ctr Tryz.prog 39 [.int .i64 n] (.str x)):=@hid _ (by intro L K q;exact Vv b.1 b.2 (by rw[r];exact q));rw[r]at i;clear r k c d j g;refine wk ?_;exact ag h.o
theorem ZD(h:K (.agg (ndA (.mk t d []))) L):aeW 38 [.int .i64 t,.str d] L K:=by rw[bT]at h;replace h:=hid h;refine aeV Rc ?_;exact aB (af rfl h.o)
theorem U0(h:K (.agg (ndA (bm d))) L):aeW 40 [.str d] L K:=by rw[bm,bT]at h;replace h:=hid h;have kk1:Hid (Ctr Tryz.prog 38 [.int .i64 4,.str d] (.agg [.int .i64 4,.str d,.sl [] 0 none])):=@hid _ (by intro L K q;exact ZD (by rw[bT];exact q));refine aeV M9 ?_;exact aB (af rfl h.o)
theorem PX{l:List Nd}(u:l.length<=1100000)(H:∀n∈l,∀{cap:Option Nat}{L:List Blk}{K:aeX},K (.sl (aC n.kids) n.kids.length none) L->aeW 78 [.sl (aC n.kids) n.kids.length cap] L K){L:List Blk}{K:aeX}(h:K (.sl (aC l) l.length none) L):aeW 78 [.sl (aC l) l.length cap] L K:=by
 replace h:=hid h;replace H:=@hid _ @H;refine aeV Rb ?_;refine cG (l:=[]) (n:=0) 3 3 rfl (afD 3).symm ?_;refine ao (λm T' L'=>∃(k:Nat) (C:List AV) (X:List Blk),m=l.length-k/\k<=l.length/\C=aC (l.take k)/\T'=[(8,.int .i64 (k:Int)),(7,.int .i64 l.length),(6,.sl (aC l) l.length cap),(3,.gsl C k L.length 3)]/\L'=L++(.spare k 3::X)) ah7 ⟨0,[],[],rfl,ae5 _,rfl,rfl,rfl⟩ ?_;rintro _ _ _ ⟨k,C,X,rfl,r,f,rfl,rfl⟩;by_cases b:k<l.length;have g1:(k:Int)<(l.length:Int):=ah3;have v:=aeU k ah3;have p:=y8 b;have s:k*3+3<=(aC l).length:=by rw[iD];omega
 obtain⟨⟨t,d,c⟩,g⟩:∃a,l.getD k cr=a:=⟨_,rfl⟩;have e:aC (l.take (k+1))=aC (l.take k)++[.int .i64 t,.str d,.sl (aC c) c.length none]:=by rw[afs b,sK,show l[k]=.mk t d c by rw[<- g];simp[b],aC,bT];rfl
 have kk1:Hid (Ctr Tryz.prog 78 [.sl (aC c) c.length none] (.sl (aC c) c.length none)):=@hid _ (by intro L K q;exact H.o (.mk t d c) (by rw[<- g];simp[b]) q)
 rw[g,bT]at p;have j:=dd c;replace e:=hid e;replace f:=hid f;clear g;refine wk ?_;exact ah8 ah3 ah6 ⟨k+1,_,_,rfl,b,by rw[e.o,f.o],rfl,rfl⟩;have i:k=l.length:=ah3;subst i;have g1:¬(l.length:Int)<(l.length:Int):=ah3;rw[afo]at f;subst f;have j:=dd l;refine wk ?_;refine aB ?_;simp only[AV.frz,j];exact af (by simp only[AV.refs,gj]) h.o
theorem TO(h:K (.sl [] 0 none) L):aeW 78 [.sl [] 0 cap] L K:=PX (l:=[]) ah4 (λn a=>by cases a) h
theorem WD:∀(h:Nat){l:List Nd}{cap:Option Nat}(b:l.length<=1100000) (c:∀n∈l,okN h n){L:List Blk}{K:aeX}(a:K (.sl (aC l) l.length none) L),aeW 78 [.sl (aC l) l.length cap] L K
 |0,l,cap,b,c,L,K,a=>PX b (λn f=>by intro cap L K q;obtain⟨t,d,g⟩:=n;obtain⟨_,rfl,_⟩:=c _ f;exact TO q) a
 |h+1,l,cap,b,c,L,K,a=>PX b (λn f=>by intro cap L K q;obtain⟨t,d,g⟩:=n;rcases c _ f with⟨_,rfl,_⟩|⟨_,_,i,e⟩;exact TO q;exact WD h (l:=g) ah3 e q) a
theorem Wo{h:Nat}{t:Int}{l:List Nd}{cap:Option Nat}(c:l.length<=1100000)(d:∀n∈l,okN h n){L:List Blk}{K:aeX}(a:K (.agg (ndA (.mk t [] l))) L):aeW 43 [.int .i64 t,.sl (aC l) l.length cap] L K:=by rw[bT]at a;replace a:=hid a;have b:=dd l;refine aa SP (by simp[M6]) ?_;simp only[M6,am];have kk1:=@aia _ _ _ _ (WD h (cap:=cap) c d);refine wk ?_;refine aB ?_;simp only[AV.frz,AV.frzL,b];exact af (by simp only[AV.refs,AV.refsL,gj];rfl) a.o
theorem G7(n:Nat):(sL n).length<=4:=by
 unfold sL
 repeat' split
 all_goals simp
theorem Zl:∀(h:Nat) (n:Nd),(de h n).2=0->(de h n).1.length<=1048581
 | 0,.mk t d ks,h=>by
   rw[de]at h⊢;split at h
   .cases h
   rename_i e;have:=G7 d.length;rw[if_neg e];simp;omega
 | k+1,.mk t d ks,h=>by
   rw[de]at h⊢;split at h
   .rename_i e;exact absurd h e
   rename_i e;rw[if_neg e];split at h
   .cases h
   rename_i a;have:=G7 (dY (de k) d ks).1.length;rw[if_neg a];simp;omega
theorem RC{b:Int}(h:Nat)(c:t=2\/t=4)(hd:(d.length:Int)<=140737488351232)(u:1<=b)(j:b<=64)(a:K (.tup [.str (de h (.mk t d [])).1,.int .i64 (de h (.mk t d [])).2]) L):
  aeW 79 [.agg [.int .i64 t,.str d,.sl [] 0 cap],.int .i64 b] L K:=by
 have f:∀h,de h (.mk t d [])=if 1048576<d.length then([],5)else(b8 t.toNat::(sL d.length++d),0):=λh=>by
  cases h with
  |zero=>rfl
  |succ h=>rw[de,if_neg (by simp[dY])];rfl
 rw[f]at a;have g1:¬(64:Int)<b:=ah3;have p:¬t<0:=ah3;have g3:¬(255:Int)<t:=ah3;have g4:IntKind.i64.wrap (BitVec.ofInt IntKind.i64.bits t &&& BitVec.ofInt IntKind.i64.bits 31).toNat=t:=by rcases c with rfl|rfl<;>decide
 have q:¬t=31:=ah3;have k:IntKind.i64.wrap (BitVec.ofInt IntKind.i64.bits t &&& BitVec.ofInt IntKind.i64.bits 32).toNat=0:=by rcases c with rfl|rfl<;>decide
 have w0:IntKind.u64.wrap t=(t.toNat:Int):=by rcases c with rfl|rfl<;>decide
 have e:t.toNat<18446744073709551616:=ah3;have v:=Pt d;have r:=UY d;have l:(u8s d).take d.length=u8s d:=by rw[<- O7 d,afo]
 by_cases g:1048576<d.length;rw[if_pos g]at a;replace a:=hid a;have i:(1048576:Int)<(d.length:Int):=ah3;clear f g c;refine aeV zi ?_;refine ao (λm T' L'=>∃(X:List Blk),m=0/\T'=[(57,.int .i64 0),(56,.int .i64 0),(6,.gsl (u8s d) d.length (L.length+1) 1),(2,.ptr L.length 0)]/\L'=L++[.cells [.int .i64 t,.str d,.sl [] 0 cap],.spare d.length 1]) ah7 ⟨[],rfl,rfl,rfl⟩ ?_;rintro _ _ _ ⟨X,rfl,rfl,rfl⟩;refine wk ?_;exact af rfl a.o;rw[if_neg g]at a;replace a:=hid a;have i:¬(1048576:Int)<(d.length:Int):=ah3;have s:=G7 d.length;clear f c;refine aeV zi ?_;refine ao (λm T' L'=>∃(X:List Blk),m=0/\T'=[(57,.int .i64 0),(56,.int .i64 0),(6,.gsl (u8s d) d.length (L.length+1) 1),(2,.ptr L.length 0)]/\L'=L++[.cells [.int .i64 t,.str d,.sl [] 0 cap],.spare d.length 1]) ah7 ⟨[],rfl,rfl,rfl⟩ ?_;rintro _ _ _ ⟨X,rfl,rfl,rfl⟩;have kk1:=@aia _ _ _ _ (Pd e);have kk2:=@aia _ _ _ _ (T5 (n:=d.length) ah3);refine wk ?_;exact af rfl a.o
theorem aa8(s:List UInt8):AV.frzL (u8s s)=u8s s:=by rw[AV.frzL_eq,u8s,afj];rfl
theorem aa7(s:List UInt8):(u8s s).all AV.one=true:=by rw[afd];intro a b;simp only[u8s,ae1]at b;obtain⟨c,_,rfl⟩:=b;rfl
theorem aa9(a b:List UInt8):u8s (a++b)=u8s a++u8s b:=by simp[u8s]
theorem XB{c:List Nd}{p:Nd->List UInt8×Int}{f:Int}(A:t=48\/t=49)(P:c.length<=1100000)(E:∀n,(p n).2=0->(p n).1.length<=1048581)(h0:1<=f)(S:f<=63)(H:∀n∈c,∀(L:List Blk) (K:AV->List Blk->Prop),K (.tup [.str (p n).1,.int .i64 (p n).2]) L->aeW 79 [.agg (ndA n),.int .i64 (f+1)] L K){R:List UInt8×Int}(v:(if(dY p [] c).2≠0 then([],(dY p [] c).2)else if 1048576<(dY p [] c).1.length then([],5)else(b8 t.toNat::(sL (dY p [] c).1.length++(dY p [] c).1),0))=R){L:List Blk}{K:aeX}(y:K (.tup [.str R.1,.int .i64 R.2]) L):
  aeW 79 [.agg [.int .i64 t,.str [],.sl (aC c) c.length cap],.int .i64 f] L K:=by
 obtain⟨Q,J⟩:=aeS (dY p [] c);rw[J]at v;replace y:=hid y;replace v:=hid v;replace H:=@hid _ @H;replace E:=hid E;have g1:¬(64:Int)<f:=ah3;have g2:¬t<0:=ah3;have g3:¬(255:Int)<t:=ah3;have g4:IntKind.i64.wrap (BitVec.ofInt IntKind.i64.bits t &&& BitVec.ofInt IntKind.i64.bits 31).toNat=t-32:=by rcases A with rfl|rfl<;>decide
 have g5:¬t-32=31:=ah3;have W:IntKind.i64.wrap (BitVec.ofInt IntKind.i64.bits t &&& BitVec.ofInt IntKind.i64.bits 32).toNat=32:=by rcases A with rfl|rfl<;>decide
 have w0:IntKind.u64.wrap t=(t.toNat:Int):=by rcases A with rfl|rfl<;>decide
 have w1:IntKind.i64.wrap (f+1)=f+1:=ae ah3 ah3;have B:t.toNat<18446744073709551616:=ah3;have T:u8s []=[]:=rfl;clear A;refine aeV zi ?_;refine ao (λm T' L'=>∃(i z:Nat) (a:List UInt8) (C:List AV) (X:List Blk),m=c.length-i/\i<=c.length/\Hid (dY p a (c.drop i)=Q)/\z<=i*1048581/\Hid (C=u8s a/\z=a.length)/\T'=[(57,.int .i64 (i:Int)),(56,.int .i64 c.length),(55,.sl (aC c) c.length cap),(6,.gsl C z (L.length+1) 1),(2,.ptr L.length 0),(1,.int .i64 f)]/\L'=L++(.cells [.int .i64 t,.str [],.sl (aC c) c.length cap] :: .spare z 1::X)) ah7 ⟨0,0,[],[],[],rfl,ae5 _,hid (by simpa using J),ah4,hid ⟨rfl,rfl⟩,rfl,rfl⟩ ?_;rintro _ _ _ ⟨i,z,a,C,X,rfl,Y,w,O,j,rfl,rfl⟩;by_cases h:i<c.length;have N:(i:Int)<(c.length:Int):=ah3;have w2:=aeU i ah3;have I:=y8 h;have Z:i*3+3<=(aC c).length:=by rw[iD];omega
 obtain⟨n,x⟩:=aeS (c.getD i cr);have u:n∈c:=by rw[<- x];simp[h]
 have l:c.drop i=n::c.drop (i+1):=by rw[afL h,<- x];simp[h]
 rw[x,dX]at I;have b:=w.o;rw[l,dY]at b;obtain⟨⟨s,e⟩,k⟩:∃q,p n=q:=⟨_,rfl⟩;have kk1:Hid (Ctr Tryz.prog 79 [.agg [.int .i64 n.tag,.str n.data,.sl (aC n.kids) n.kids.length none],.int .i64 (f+1)] (.tup [.str s,.int .i64 e])):=@hid _ (by intro L K q;have:=H.o n u L K;rw[dX,k]at this;exact this q)
 have r:e=0->s.length<=1048581:=λM=>by have:=E.o n;rw[k]at this;exact this M
 rw[k]at b;simp only at b;clear w l x u;by_cases D:e=0;subst D;rw[if_neg ah4]at b;have r:=r rfl;have f1:=aa8 s;have f2:=aa7 s;have U:z+s.length<=(i+1)*1048581:=ah3;replace b:=hid b;refine wk ?_;exact ah8 ah3 ah6 ⟨i+1,z+s.length,a++s,C++u8s s,_,rfl,h,b,U,hid ⟨by rw[j.o.1,aa9],by rw[j.o.2,afc]⟩,rfl,rfl⟩;rw[if_pos D]at b;have d:=v.o;rw[<- b,if_pos D]at d;have g:=y.o;rw[<- d]at g;replace g:=hid g;clear b d;refine wk ?_;exact af rfl g.o;have G:i=c.length:=ah3;subst G;have N:¬(c.length:Int)<(c.length:Int):=ah3;have b:=w.o;rw[agy,dY]at b;have d:=v.o;rw[<- b,if_neg ah4]at d;simp only at d;obtain⟨rfl,rfl⟩:=j.o;have M:=Pt a;have e1:=UY a;have I:(u8s a).take a.length=u8s a:=by rw[<- O7 a,afo]
 have g:=y.o;clear w b j;by_cases F:1048576<a.length;rw[if_pos F]at d;rw[<- d]at g;replace g:=hid g;have V:(1048576:Int)<(a.length:Int):=ah3;clear F d;refine wk ?_;exact af rfl g.o;rw[if_neg F]at d;rw[<- d]at g;replace g:=hid g;have V:¬(1048576:Int)<(a.length:Int):=ah3;have g9:=G7 a.length;clear d;have kk1:=@aia _ _ _ _ (Pd B);have kk2:=@aia _ _ _ _ (T5 (n:=a.length) ah3);refine wk ?_;exact af rfl g.o
theorem acN:∀(h:Nat){n:Nd}{a:Int}(g:okN h n) (f:1<=a) (b:a+h<=64){L:List Blk}{K:aeX}(c:K (.tup [.str (de h n).1,.int .i64 (de h n).2]) L),aeW 79 [.agg (ndA n),.int .i64 a] L K
 |0,.mk t d ks,a,g,f,b,L,K,c=>by obtain⟨e,rfl,hd⟩:=g;rw[bT];exact RC 0 e hd f (by simpa using b) c
 | h+1,.mk t d ks,a,g,f,b,L,K,c=>by
   rw[bT];rcases g with⟨e,rfl,hd⟩|⟨e,rfl,j,i⟩
   .exact RC (h+1) e hd f ah3 c
   .exact XB (p:=de h) e j (Zl h) f ah3 (λn k=>by intro L K q;exact acN h (i n k) ah3 ah3 q) rfl (by rw[de]at c;exact c)
theorem acT{n:Nd}(c:okN 4 n){L:List Blk}{K:aeX}(a:K (.tup [.str (de 4 n).1,.int .i64 (de 4 n).2]) L):aeW 45 [.agg (ndA n)] L K:=by
 obtain⟨⟨s,e⟩,b⟩:∃q,de 4 n=q:=⟨_,rfl⟩;rw[b]at a;replace a:=hid a;have kk1:Hid (Ctr Tryz.prog 79 [.agg [.int .i64 n.tag,.str n.data,.sl (aC n.kids) n.kids.length none],.int .i64 1] (.tup [.str s,.int .i64 e])):=@hid _ (by intro L K q;have:=@acN 4 n 1 c ah3 ah3 L K;rw[dX,b]at this;exact this q)
 rw[dX];refine aeV SQ ?_;exact af rfl a.o
def Hm(a:Atr):Nd:=.mk 48 [] [bm a.1,.mk 49 [] (a.2.map bm)]
theorem G4(h:(s.length:Int)<=140737488351232):∀k:Nat,okN k (bm s)
 |0=>⟨.inr rfl,rfl,h⟩
 |_+1=>.inl ⟨.inr rfl,rfl,h⟩
theorem abJ{l:List (List UInt8)}(r:l.length<=1100000)(h:K (.sl (aC (l.map bm)) l.length none) L):aeW 44 [.sl (l.map AV.str) l.length cap,.func 40 []] L K:=by
 replace h:=hid h;refine aeV lC ?_;refine cG (l:=[]) (n:=0) 5 3 rfl (afD 3).symm ?_;refine ao (λm T' L'=>∃(k:Nat) (C:List AV) (X:List Blk),m=l.length-k/\k<=l.length/\C=aC ((l.take k).map bm)/\T'=[(10,.int .i64 (k:Int)),(9,.int .i64 l.length),(8,.sl (l.map AV.str) l.length cap),(5,.gsl C k L.length 3),(1,.func 40 [])]/\L'=L++(.spare k 3::X)) ah7 ⟨0,[],[],rfl,ae5 _,rfl,rfl,rfl⟩ ?_;rintro _ _ _ ⟨k,C,X,rfl,g,c,rfl,rfl⟩;by_cases a:k<l.length;have g1:(k:Int)<(l.length:Int):=ah3;have p:=aeU k ah3;obtain⟨s,d⟩:=aeS (l.getD k []);have j:(l.map AV.str).getD k .undef=.str s:=by rw[<- d];simp[a]
 have i:k<(l.map AV.str).length:=by simpa using a
 have b:aC ((l.take (k+1)).map bm)=aC ((l.take k).map bm)++[.int .i64 4,.str s,.sl [] 0 none]:=by rw[afs a,afk,sK,show l[k]=s by rw[<- d];simp[a]];rfl
 have kk1:Hid (Ctr Tryz.prog 40 [.str s] (.agg [.int .i64 4,.str s,.sl [] 0 none])):=@hid _ (by intro L K q;exact U0 (by rw[bm,bT];exact q));replace b:=hid b;replace c:=hid c;clear d;refine wk ?_;exact ah8 ah3 ah6 ⟨k+1,_,_,rfl,a,by rw[b.o,c.o],rfl,rfl⟩;have e:k=l.length:=ah3;subst e;have g1:¬(l.length:Int)<(l.length:Int):=ah3;rw[afo]at c;subst c;have f:=dd (l.map bm);refine wk ?_;refine aB ?_;simp only[AV.frz,f];exact af (by simp only[AV.refs,gj]) h.o
theorem adK{a:Atr}(f:(a.1.length:Int)<=140737488351232)(e:a.2.length<=1100000)(g:∀v∈a.2,(v.length:Int)<=140737488351232)(h:K (.agg (ndA (Hm a))) L):aeW 42 [.agg (atA a)] L K:=by
 obtain⟨n,vs⟩:=a;simp only at f e g;have c:∀k∈vs.map bm,okN 0 k:=λk d=>by obtain⟨v,c,rfl⟩:=ae1.1 d;exact G4 (g v c) 0
 have b:∀k∈[bm n,.mk 49 [] (vs.map bm)],okN 1 k:=λk d=>by simp only[afp,af6,or_false]at d;rcases d with rfl|rfl;exact G4 f 1;exact .inr ⟨.inr rfl,rfl,by simpa using e,c⟩
 have kk1:Hid (Ctr Tryz.prog 40 [.str n] (.agg [.int .i64 4,.str n,.sl [] 0 none])):=@hid _ (by intro L K q;exact U0 (by rw[bm,bT];exact q));have kk2:Hid (Ctr Tryz.prog 44 [.sl (vs.map AV.str) vs.length none,.func 40 []] (.sl (aC (vs.map bm)) vs.length none)):=@hid _ (by intro L K q;exact abJ ah3 q);have kk3:Hid (Ctr Tryz.prog 43 [.int .i64 49,.sl (aC (vs.map bm)) vs.length none] (.agg [.int .i64 49,.str [],.sl (aC (vs.map bm)) vs.length none])):=@hid _ (by intro L K q;have:=Wo (h:=0) (t:=49) (l:=vs.map bm) (cap:=none) (L:=L) (K:=K) (by rw[ae6];omega) c;rw[bT,ae6]at this;exact this q)
 have kk4:Hid (∀{cap:Option Nat}{L:List Blk}{K:aeX},K (.agg [.int .i64 48,.str [],.sl [.int .i64 4,.str n,.sl [] 0 none,.int .i64 49,.str [],.sl (aC (vs.map bm)) vs.length none] 2 none]) L->aeW 43 [.int .i64 48,.sl [.int .i64 4,.str n,.sl [] 0 none,.int .i64 49,.str [],.sl (aC (vs.map bm)) vs.length none] 2 cap] L K):=@hid _ (by intro cap L K q;have:=Wo (h:=1) (t:=48) (l:=[bm n,.mk 49 [] (vs.map bm)]) (cap:=cap) (L:=L) (K:=K) ah4 b;rw[bT]at this;simp only[aC,bm,bT,ae6,afq,afI,afH,afg,afF]at this;exact this q)
 have i:K (.agg [.int .i64 48,.str [],.sl [.int .i64 4,.str n,.sl [] 0 none,.int .i64 49,.str [],.sl (aC (vs.map bm)) vs.length none] 2 none]) L:=by rw[Hm,bT]at h;simp only[aC,bm,bT,ae6,afq,afI,afH,afg,afF]at h;exact h
 replace h:=hid i;have m:=dd (vs.map bm);have j:=λp=>gj p (vs.map bm)
 clear f e g c b i;refine aeV Hi ?_;refine af ?_ h.o;simp only[AV.refs,AV.refsL,j];rfl
theorem abK{l:List Atr}(w:l.length<=1100000)(j:∀a∈l,(a.1.length:Int)<=140737488351232/\a.2.length<=1100000/\∀v∈a.2,(v.length:Int)<=140737488351232)(h:K (.sl (aC (l.map Hm)) l.length none) L):aeW 41 [.sl (bj l) l.length cap,.func 42 []] L K:=by
 replace h:=hid h;replace j:=hid j;refine aeV jW ?_;refine cG (l:=[]) (n:=0) 5 3 rfl (afD 3).symm ?_;refine ao (λm T' L'=>∃(k:Nat) (C:List AV) (X:List Blk),m=l.length-k/\k<=l.length/\C=aC ((l.take k).map Hm)/\T'=[(10,.int .i64 (k:Int)),(9,.int .i64 l.length),(8,.sl (bj l) l.length cap),(5,.gsl C k L.length 3),(1,.func 42 [])]/\L'=L++(.spare k 3::X)) ah7 ⟨0,[],[],rfl,ae5 _,rfl,rfl,rfl⟩ ?_;rintro _ _ _ ⟨k,C,X,rfl,t,e,rfl,rfl⟩;by_cases b:k<l.length;have g1:(k:Int)<(l.length:Int):=ah3;have x:=aeU k ah3;have r:=zx b;have u:k*2+2<=(bj l).length:=by rw[GS];omega
 obtain⟨⟨n,vs⟩,f⟩:∃a,l.getD k ([],[])=a:=⟨_,rfl⟩;have g:=j.o (n,vs) (by rw[<- f];simp[b]);obtain⟨i,c⟩:=aeS (aC [bm n,.mk 49 [] (vs.map bm)]);have d:aC ((l.take (k+1)).map Hm)=aC ((l.take k).map Hm)++[.int .i64 48,.str [],.sl i 2 none]:=by rw[afs b,afk,sK,show l[k]=(n,vs)by rw[<- f];simp[b],<- c];simp only[afe,afQ,aC,Hm,bT,afq];rfl
 have kk1:Hid (Ctr Tryz.prog 42 [.agg [.str n,.sl (vs.map AV.str) vs.length none]] (.agg [.int .i64 48,.str [],.sl i 2 none])):=@hid _ (by intro L K q;refine adK (a:=(n,vs)) g.1 g.2.1 g.2.2 ?_;rw[Hm,bT,c];exact q)
 have s:AV.frzL i=i:=by rw[<- c];exact dd _
 rw[f]at r;simp only[atA]at r;replace d:=hid d;replace e:=hid e;clear f c g;refine wk ?_;exact ah8 ah3 ah6 ⟨k+1,_,_,rfl,b,by rw[d.o,e.o],rfl,rfl⟩;have p:k=l.length:=ah3;subst p;have g1:¬(l.length:Int)<(l.length:Int):=ah3;rw[afo]at e;subst e;have s:=dd (l.map Hm);refine wk ?_;refine aB ?_;simp only[AV.frz,s];exact af (by simp only[AV.refs,gj]) h.o
end Go.Proofs.YtajkbcmleihaoaaGreatDoor.Av
namespace Go.Proofs
open Go.Shelf
def Tryz.lays156_ren:Go.Shelf.Ren:=⟨λ|156=>95|165=>123|166=>124|169=>126|240=>158|241=>159|276=>184|277=>185|n=>n,λ|31=>56|9=>9|3=>3|4=>4|0=>0|20=>20|72=>195|76=>198|70=>193|37=>112|75=>197|127=>236|164=>254|5=>5|80=>157|n=>n,λ|n=>n⟩
theorem Tryz.lays156:Go.Proofs.Lays.n156 Tryz.prog Tryz.lays156_ren:={
 mixed:=by kernel_rfl
 f156:=Tryz.func95.trans (congrArg some (by kernel_rfl))
 f165:=Tryz.func123.trans (congrArg some (by kernel_rfl))
 f166:=Tryz.func124.trans (congrArg some (by kernel_rfl))
 f169:=Tryz.func126.trans (congrArg some (by kernel_rfl))
 f240:=Tryz.func158.trans (congrArg some (by kernel_rfl))
 f241:=Tryz.func159.trans (congrArg some (by kernel_rfl))
 f276:=Tryz.func184.trans (congrArg some (by kernel_rfl))
 f277:=Tryz.func185.trans (congrArg some (by kernel_rfl))
 t0:=Tryz.underlying0
 a0:=Tryz.isAgg0
 z0:=Tryz.sizeOf0
 v0:=Tryz.zeroValue0
 t3:=Tryz.underlying3
 a3:=Tryz.isAgg3
 z3:=Tryz.sizeOf3
 v3:=Tryz.zeroValue3
 t4:=Tryz.underlying4
 a4:=Tryz.isAgg4
 z4:=Tryz.sizeOf4
 v4:=Tryz.zeroValue4
 t9:=Tryz.underlying9
 a9:=Tryz.isAgg9
 z9:=Tryz.sizeOf9
 v9:=Tryz.zeroValue9
 t20:=Tryz.underlying20
 a20:=Tryz.isAgg20
 z20:=Tryz.sizeOf20
 v20:=Tryz.zeroValue20
 t31:=Tryz.underlying56
 a31:=Tryz.isAgg56
 z31:=Tryz.sizeOf56
 v31:=Tryz.zeroValue56
 t37:=Tryz.underlying112
 a37:=Tryz.isAgg112
 z37:=Tryz.sizeOf112
 v37:=Tryz.zeroValue112
 t70:=Tryz.underlying193
 a70:=Tryz.isAgg193
 z70:=Tryz.sizeOf193
 v70:=Tryz.zeroValue193
 t72:=Tryz.underlying195
 a72:=Tryz.isAgg195
 z72:=Tryz.sizeOf195
 v72:=Tryz.zeroValue195
 t75:=Tryz.underlying197
 a75:=Tryz.isAgg197
 z75:=Tryz.sizeOf197
 v75:=Tryz.zeroValue197
 t76:=Tryz.underlying198
 a76:=Tryz.isAgg198
 z76:=Tryz.sizeOf198
 v76:=Tryz.zeroValue198
 t127:=Tryz.underlying236
 a127:=Tryz.isAgg236
 z127:=Tryz.sizeOf236
 v127:=Tryz.zeroValue236
 t164:=Tryz.underlying254
 a164:=Tryz.isAgg254
 z164:=Tryz.sizeOf254
 v164:=Tryz.zeroValue254}
theorem Tryz.Builder_Extra_156:Builder.Extra Tryz.prog Tryz.lays156_ren:={
 sizeBuilder:=by kernel_rfl
 liesBuilder:=by kernel_rfl
 t5:=Tryz.underlying5
 a5:=Tryz.isAgg5
 z5:=Tryz.sizeOf5
 v5:=Tryz.zeroValue5
 infoByte:=by kernel_rfl
 cellsByte:=by kernel_rfl
 sizeByte:=by kernel_rfl
 neB5:=by decide}
open Go.RowKit in
theorem Tryz.strings_Join_none(a:Option Addr)(c:Nat)(sep:ByteArray)(w:World):
 Calls Tryz.prog 95 #[.slice a 0 c,.string sep] w λe w'=>e=.returned (.string ⟨#[]⟩)/\w'=w:=Any.strings_Join_none Tryz.lays156 Tryz.Builder_Extra_156 a c sep w
open Go.RowKit in
theorem Tryz.strings_Join(f o c:Nat)(xs:List ByteArray)(sep:ByteArray)(w:World)(a:∀(j:Nat) x,xs[j]?=some x->w.cell? ⟨f,o+j,none⟩=some (.string x))(g:f<w.heap.size)(h:xs.length<=140737488355328)(d:xs.length<=c)(b:(Lib.join (xs.map (·.data.toList)) sep.data.toList).length<=140737488355328):
 Calls Tryz.prog 95 #[.slice (some ⟨f,o,none⟩) xs.length c,.string sep] w λe w'=>e=.returned (.string ⟨(Lib.join (xs.map (·.data.toList)) sep.data.toList).toArray⟩)/\Below w.heap.size w w':=Any.strings_Join Tryz.lays156 Tryz.Builder_Extra_156 f o c xs sep w a g h d b
def Tryz.lays160_ren:Go.Shelf.Ren:=⟨λ|160=>84|232=>110|231=>109|227=>111|234=>113|233=>112|236=>115|235=>114|228=>148|271=>151|151=>150|197=>149|120=>180|152=>179|260=>178|137=>146|119=>191|224=>192|225=>193|217=>168|266=>187|n=>n,λ|9=>9|4=>4|3=>3|5=>5|117=>180|116=>179|0=>0|124=>183|21=>21|105=>225|46=>162|119=>262|139=>265|138=>264|n=>n,λ|3=>0|4=>1|n=>n⟩
theorem Tryz.lays160:Go.Proofs.Lays.n160 Tryz.prog Tryz.lays160_ren:={
 mixed:=by kernel_rfl
 f119:=Tryz.func191.trans (congrArg some (by kernel_rfl))
 f120:=Tryz.func180.trans (congrArg some (by kernel_rfl))
 f137:=Tryz.func146.trans (congrArg some (by kernel_rfl))
 f151:=Tryz.func150.trans (congrArg some (by kernel_rfl))
 f152:=Tryz.func179.trans (congrArg some (by kernel_rfl))
 f160:=Tryz.func84.trans (congrArg some (by kernel_rfl))
 f197:=Tryz.func149.trans (congrArg some (by kernel_rfl))
 f217:=Tryz.func168.trans (congrArg some (by kernel_rfl))
 f224:=Tryz.func192.trans (congrArg some (by kernel_rfl))
 f225:=Tryz.func193.trans (congrArg some (by kernel_rfl))
 f227:=Tryz.func111.trans (congrArg some (by kernel_rfl))
 f228:=Tryz.func148.trans (congrArg some (by kernel_rfl))
 f231:=Tryz.func109.trans (congrArg some (by kernel_rfl))
 f232:=Tryz.func110.trans (congrArg some (by kernel_rfl))
 f233:=Tryz.func112.trans (congrArg some (by kernel_rfl))
 f234:=Tryz.func113.trans (congrArg some (by kernel_rfl))
 f235:=Tryz.func114.trans (congrArg some (by kernel_rfl))
 f236:=Tryz.func115.trans (congrArg some (by kernel_rfl))
 f260:=Tryz.func178.trans (congrArg some (by kernel_rfl))
 f266:=Tryz.func187.trans (congrArg some (by kernel_rfl))
 f271:=Tryz.func151.trans (congrArg some (by kernel_rfl))
 t0:=Tryz.underlying0
 a0:=Tryz.isAgg0
 z0:=Tryz.sizeOf0
 v0:=Tryz.zeroValue0
 t3:=Tryz.underlying3
 a3:=Tryz.isAgg3
 z3:=Tryz.sizeOf3
 v3:=Tryz.zeroValue3
 t4:=Tryz.underlying4
 a4:=Tryz.isAgg4
 z4:=Tryz.sizeOf4
 v4:=Tryz.zeroValue4
 t5:=Tryz.underlying5
 a5:=Tryz.isAgg5
 z5:=Tryz.sizeOf5
 v5:=Tryz.zeroValue5
 t9:=Tryz.underlying9
 a9:=Tryz.isAgg9
 z9:=Tryz.sizeOf9
 v9:=Tryz.zeroValue9
 t21:=Tryz.underlying21
 a21:=Tryz.isAgg21
 z21:=Tryz.sizeOf21
 v21:=Tryz.zeroValue21
 t46:=Tryz.underlying162
 a46:=Tryz.isAgg162
 z46:=Tryz.sizeOf162
 v46:=Tryz.zeroValue162
 t105:=Tryz.underlying225
 a105:=Tryz.isAgg225
 z105:=Tryz.sizeOf225
 v105:=Tryz.zeroValue225
 t116:=Tryz.underlying179
 a116:=Tryz.isAgg179
 z116:=Tryz.sizeOf179
 t117:=Tryz.underlying180
 a117:=Tryz.isAgg180
 z117:=Tryz.sizeOf180
 v117:=Tryz.zeroValue180
 t119:=Tryz.underlying262
 a119:=Tryz.isAgg262
 z119:=Tryz.sizeOf262
 t124:=Tryz.underlying183
 a124:=Tryz.isAgg183
 z124:=Tryz.sizeOf183
 v124:=Tryz.zeroValue183
 t138:=Tryz.underlying264
 a138:=Tryz.isAgg264
 z138:=Tryz.sizeOf264
 v138:=Tryz.zeroValue264
 t139:=Tryz.underlying265
 a139:=Tryz.isAgg265
 z139:=Tryz.sizeOf265
 v139:=Tryz.zeroValue265
 g3:=by kernel_rfl
 g4:=by kernel_rfl}
open Go.RowKit in
theorem Tryz.strings_Trim_one(s:ByteArray)(c:UInt8)(a:c.toNat<128)(w:World)(b:s.size<=9223372036854775807):
 Calls Tryz.prog 84 #[.string s,.string ⟨#[c]⟩] w λe w'=>e=.returned (.string ⟨(Lib.trimB s.data.toList c).toArray⟩)/\(w'=w\/w'=w.drew):=Any.strings_Trim_one Tryz.lays160 s c a w b
def Tryz.lays137_ren:Go.Shelf.Ren:=⟨λ|137=>146|217=>168|266=>187|n=>n,λ|9=>9|5=>5|3=>3|n=>n,λ|n=>n⟩
theorem Tryz.lays137:Go.Proofs.Lays.n137 Tryz.prog Tryz.lays137_ren:={
 mixed:=by kernel_rfl
 f137:=Tryz.func146.trans (congrArg some (by kernel_rfl))
 f217:=Tryz.func168.trans (congrArg some (by kernel_rfl))
 f266:=Tryz.func187.trans (congrArg some (by kernel_rfl))
 t3:=Tryz.underlying3
 a3:=Tryz.isAgg3
 z3:=Tryz.sizeOf3
 v3:=Tryz.zeroValue3
 t5:=Tryz.underlying5
 a5:=Tryz.isAgg5
 z5:=Tryz.sizeOf5
 v5:=Tryz.zeroValue5
 t9:=Tryz.underlying9
 a9:=Tryz.isAgg9
 z9:=Tryz.sizeOf9
 v9:=Tryz.zeroValue9}
open Go.RowKit in
theorem Tryz.strings_IndexByte(s:ByteArray)(c:Int)(w:World):
 Calls Tryz.prog 146 #[.string s,.int .u8 c] w λe w'=>e=.returned (.int .i64 (Lib.indexByte s.data.toList c.toNat.toUInt8))/\w'=w:=Any.strings_IndexByte Tryz.lays137 s c w
def Tryz.lays219_ren:Go.Shelf.Ren:=⟨λ|219=>194|217=>168|225=>193|224=>192|267=>197|266=>187|314=>198|n=>n,λ|9=>9|3=>3|4=>4|5=>5|46=>162|146=>232|51=>160|n=>n,λ|1=>2|n=>n⟩
theorem Tryz.lays219:Go.Proofs.Lays.n219 Tryz.prog Tryz.lays219_ren:={
 mixed:=by kernel_rfl
 f217:=Tryz.func168.trans (congrArg some (by kernel_rfl))
 f219:=Tryz.func194.trans (congrArg some (by kernel_rfl))
 f224:=Tryz.func192.trans (congrArg some (by kernel_rfl))
 f225:=Tryz.func193.trans (congrArg some (by kernel_rfl))
 f266:=Tryz.func187.trans (congrArg some (by kernel_rfl))
 f267:=Tryz.func197.trans (congrArg some (by kernel_rfl))
 f314:=Tryz.func198.trans (congrArg some (by kernel_rfl))
 t3:=Tryz.underlying3
 a3:=Tryz.isAgg3
 z3:=Tryz.sizeOf3
 v3:=Tryz.zeroValue3
 t4:=Tryz.underlying4
 a4:=Tryz.isAgg4
 z4:=Tryz.sizeOf4
 v4:=Tryz.zeroValue4
 t5:=Tryz.underlying5
 a5:=Tryz.isAgg5
 z5:=Tryz.sizeOf5
 v5:=Tryz.zeroValue5
 t9:=Tryz.underlying9
 a9:=Tryz.isAgg9
 z9:=Tryz.sizeOf9
 v9:=Tryz.zeroValue9
 t46:=Tryz.underlying162
 a46:=Tryz.isAgg162
 z46:=Tryz.sizeOf162
 v46:=Tryz.zeroValue162
 t51:=Tryz.underlying160
 a51:=Tryz.isAgg160
 z51:=Tryz.sizeOf160
 v51:=Tryz.zeroValue160
 t146:=Tryz.underlying232
 a146:=Tryz.isAgg232
 z146:=Tryz.sizeOf232
 v146:=Tryz.zeroValue232
 g1:=by kernel_rfl}
open Go.RowKit Go.Lib in
theorem Tryz.stringslite_Index_one(s:ByteArray)(c:UInt8)(w:World):
 Calls Tryz.prog 194 #[.string s,.string ⟨#[c]⟩] w λe w'=>e=.returned (.int .i64 (Lib.indexByte s.data.toList c))/\w'=w:=Any.stringslite_Index_one Tryz.lays219 s c w
def Tryz.lays105_ren:Go.Shelf.Ren:=⟨λ|105=>91|212=>121|99=>122|165=>123|166=>124|170=>125|169=>126|263=>155|264=>156|206=>157|240=>158|241=>159|276=>184|277=>185|n=>n,λ|9=>9|3=>3|4=>4|20=>20|0=>0|46=>162|109=>190|5=>5|72=>195|76=>198|51=>160|146=>232|53=>58|148=>234|70=>193|37=>112|75=>197|127=>236|164=>254|80=>157|n=>n,λ|n=>n⟩
theorem Tryz.lays105:Go.Proofs.Lays.n105 Tryz.prog Tryz.lays105_ren:={
 mixed:=by kernel_rfl
 f99:=Tryz.func122.trans (congrArg some (by kernel_rfl))
 f105:=Tryz.func91.trans (congrArg some (by kernel_rfl))
 f165:=Tryz.func123.trans (congrArg some (by kernel_rfl))
 f166:=Tryz.func124.trans (congrArg some (by kernel_rfl))
 f169:=Tryz.func126.trans (congrArg some (by kernel_rfl))
 f170:=Tryz.func125.trans (congrArg some (by kernel_rfl))
 f206:=Tryz.func157.trans (congrArg some (by kernel_rfl))
 f212:=Tryz.func121.trans (congrArg some (by kernel_rfl))
 f240:=Tryz.func158.trans (congrArg some (by kernel_rfl))
 f241:=Tryz.func159.trans (congrArg some (by kernel_rfl))
 f263:=Tryz.func155.trans (congrArg some (by kernel_rfl))
 f264:=Tryz.func156.trans (congrArg some (by kernel_rfl))
 f276:=Tryz.func184.trans (congrArg some (by kernel_rfl))
 f277:=Tryz.func185.trans (congrArg some (by kernel_rfl))
 t0:=Tryz.underlying0
 a0:=Tryz.isAgg0
 z0:=Tryz.sizeOf0
 v0:=Tryz.zeroValue0
 t3:=Tryz.underlying3
 a3:=Tryz.isAgg3
 z3:=Tryz.sizeOf3
 v3:=Tryz.zeroValue3
 t4:=Tryz.underlying4
 a4:=Tryz.isAgg4
 z4:=Tryz.sizeOf4
 v4:=Tryz.zeroValue4
 t5:=Tryz.underlying5
 a5:=Tryz.isAgg5
 z5:=Tryz.sizeOf5
 v5:=Tryz.zeroValue5
 t9:=Tryz.underlying9
 a9:=Tryz.isAgg9
 z9:=Tryz.sizeOf9
 v9:=Tryz.zeroValue9
 t20:=Tryz.underlying20
 a20:=Tryz.isAgg20
 z20:=Tryz.sizeOf20
 v20:=Tryz.zeroValue20
 t37:=Tryz.underlying112
 a37:=Tryz.isAgg112
 z37:=Tryz.sizeOf112
 v37:=Tryz.zeroValue112
 t46:=Tryz.underlying162
 a46:=Tryz.isAgg162
 z46:=Tryz.sizeOf162
 v46:=Tryz.zeroValue162
 t51:=Tryz.underlying160
 a51:=Tryz.isAgg160
 z51:=Tryz.sizeOf160
 v51:=Tryz.zeroValue160
 t53:=Tryz.underlying58
 a53:=Tryz.isAgg58
 z53:=Tryz.sizeOf58
 v53:=Tryz.zeroValue58
 t70:=Tryz.underlying193
 a70:=Tryz.isAgg193
 z70:=Tryz.sizeOf193
 v70:=Tryz.zeroValue193
 t72:=Tryz.underlying195
 a72:=Tryz.isAgg195
 z72:=Tryz.sizeOf195
 v72:=Tryz.zeroValue195
 t75:=Tryz.underlying197
 a75:=Tryz.isAgg197
 z75:=Tryz.sizeOf197
 v75:=Tryz.zeroValue197
 t76:=Tryz.underlying198
 a76:=Tryz.isAgg198
 z76:=Tryz.sizeOf198
 v76:=Tryz.zeroValue198
 t109:=Tryz.underlying190
 a109:=Tryz.isAgg190
 z109:=Tryz.sizeOf190
 v109:=Tryz.zeroValue190
 t127:=Tryz.underlying236
 a127:=Tryz.isAgg236
 z127:=Tryz.sizeOf236
 v127:=Tryz.zeroValue236
 t146:=Tryz.underlying232
 a146:=Tryz.isAgg232
 z146:=Tryz.sizeOf232
 v146:=Tryz.zeroValue232
 t148:=Tryz.underlying234
 a148:=Tryz.isAgg234
 z148:=Tryz.sizeOf234
 v148:=Tryz.zeroValue234
 t164:=Tryz.underlying254
 a164:=Tryz.isAgg254
 z164:=Tryz.sizeOf254
 v164:=Tryz.zeroValue254}
theorem Tryz.Builder_Extra_105:Builder.Extra Tryz.prog Tryz.lays105_ren:={
 sizeBuilder:=by kernel_rfl
 liesBuilder:=by kernel_rfl
 t5:=Tryz.underlying5
 a5:=Tryz.isAgg5
 z5:=Tryz.sizeOf5
 v5:=Tryz.zeroValue5
 infoByte:=by kernel_rfl
 cellsByte:=by kernel_rfl
 sizeByte:=by kernel_rfl
 neB5:=by decide}
open Go.RowKit Go.Lib in
theorem Tryz.strings_Repeat(s:ByteArray)(c:Nat)(w:World)(b:c<=9223372036854775807)(a:s.size*c<=140737488355328):
 Calls Tryz.prog 91 #[.string s,.int .i64 c] w λe w'=>e=.returned (.string ⟨(Lib.repeatL s.data.toList c).toArray⟩)/\Below w.heap.size w w':=Any.strings_Repeat Tryz.lays105 Tryz.Builder_Extra_105 s c w b a
end Go.Proofs
