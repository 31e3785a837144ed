/- Joined texts of the walk, made small by a program. -/
import Derived.Test.YtdnfjhflkkpokaaGreatDoorGk5
import Derived.Test.YtdnfjhflkkpokaaGreatDoorGk4
import Derived.Test.YtdnfjhflkkpokaaGreatDoorRows
import Derived.KernelRfl
import Derived.Laws.RangeAny
import Derived.Laws.RangeString
import Derived.Shelf.Strings.Builder1
import Derived.Shelf.Strings.Builder2
import Derived.Shelf.Strings.OnBuilder
import Derived.Shelf.Small.Bits
import Derived.Shelf.Small.Strs
import Derived.Shelf.Strconv.Itoa0
import Derived.Shelf.Strconv.Itoa1
import Derived.Shelf.LaysM
import Derived.Shelf.Strconv.Itoa2
import Derived.Shelf.Strconv.Itoa3
import Derived.Shelf.Strconv.Itoa4
import Derived.Shelf.Strconv.ParseIntEmpty
import Derived.Shelf.Strconv.Clone
import Derived.Shelf.Strconv.SyntaxError
import Derived.Shelf.LaysC
import Derived.Shelf.Strconv.ToError
import Derived.Shelf.Strconv.Lower
import Derived.Shelf.Strconv.ParseUint10
import Derived.Shelf.Strconv.ParseUint10Empty
import Derived.Shelf.Strconv.ParseUint10Any
import Derived.Shelf.Strconv.ParseInt10
import Derived.Shelf.Strconv.RangeError
import Derived.Shelf.Strconv.ToErrorRange
import Derived.Shelf.Strconv.ParseUintEmpty
import Derived.Shelf.Strconv.ParseUint10b64
import Derived.Shelf.Strconv.ParseUint10b32
import Derived.Shelf.Strconv.ParseUint10b16
import Derived.Shelf.Strconv.ParseUint10b8
import Derived.Shelf.Strconv.ParseUint10At
import Derived.Shelf.Strconv.ParseInt10At64
import Derived.Shelf.Strconv.ParseInt10At32
import Derived.Shelf.Strconv.ParseInt10At16
import Derived.Shelf.Strconv.ParseInt10At8
import Derived.Shelf.Strconv.ParseInt10All
import Derived.Shelf.Strconv.ParseIntPublic10
import Derived.Shelf.Strconv.ErrVarParseInt
import Derived.Shelf.Strings.Search1
import Derived.Shelf.Strings.Search2
import Derived.Shelf.Strings.Search3
import Derived.Shelf.Strings.Cut
import Derived.Shelf.Strings.Shaped
import Derived.Shelf.Sort.Plain
import Derived.Shelf.GgClosure.StringsIndexFunc
import Derived.Ground.GgwProg
import Derived.Shelf.GgClosure.StringsIndexFuncTop
import Derived.Shelf.GgClosure.StringsRunes
import Derived.Shelf.Strings.Prefix
import Derived.Shelf.Slices.Equal
import Derived.Ground.Names2Prog
import Derived.Shelf.Slices.Clone
import Derived.Shelf.Slices.In.SortNone
import Derived.Ground.SlsfProg
import Derived.Shelf.SlSortCmp.Insertion
import Derived.Shelf.SlSortCmp.SiftDown1
import Derived.Shelf.SlSortCmp.HeapSort1
import Derived.Shelf.SlSortCmp.Insertion1
import Derived.Shelf.SlSortCmp.Median1
import Derived.Shelf.SlSortCmp.Pivot1
import Derived.Shelf.SlSortCmp.ReverseRange1
import Derived.Shelf.SlSortCmp.PartialInsertion1
import Derived.Shelf.SlSortCmp.PartitionEqual1
import Derived.Shelf.SlSortCmp.Partition1
import Derived.Shelf.SlSortCmp.Pdq1
import Derived.Shelf.SlSortCmp.Whole1
import Derived.Test.YtdnfjhflkkpokaaGreatDoorProg
set_option linter.unusedSimpArgs false
set_option linter.unusedVariables false
namespace Go.Proofs.YtdnfjhflkkpokaaGreatDoor.Av
open Go
set_option maxHeartbeats 8000000
set_option maxRecDepth 100000
abbrev Atr:=List UInt8×List (List UInt8)
theorem i8(p:Nat->Bool)(xs:List (List UInt8)):AV.refsL p (xs.map AV.str)=true:=AV.refsL_iff.2 λa b=>by obtain⟨x,_,rfl⟩:=ao6.1 b;rfl
theorem ai1(xs:List (List UInt8)):(xs.map AV.str).all AV.one=true:=by rw[apa];intro a b;obtain⟨x,_,rfl⟩:=ao6.1 b;rfl
abbrev atA(a:Atr):List AV:=[.str a.1,.sl (a.2.map AV.str) a.2.length none]
def aJ(l:List Atr):List AV:=l.flatMap atA
theorem Ok(a:Atr)(l:List Atr):aJ (a::l)=.str a.1 :: .sl (a.2.map AV.str) a.2.length none::aJ l:=rfl
theorem VZ(l m:List Atr):aJ (l++m)=aJ l++aJ m:=by simp[aJ]
theorem iH(l:List Atr):(aJ l).length=l.length*2:=by
 induction l with
 |nil=>rfl
 |cons a l ih=>rw[Ok];simp only[apb];omega
theorem kk(p:Nat->Bool):∀l:List Atr,AV.refsL p (aJ l)=true
 |[]=>rfl
 |a::l=>by rw[Ok];simp[AV.refsL,AV.refs,i8,kk p l]
theorem iU(l:List (List UInt8)):AV.frzL (l.map AV.str)=l.map AV.str:=by rw[AV.frzL_eq,apq];rfl
theorem fi:∀l:List Atr,AV.frzL (aJ l)=aJ l
 |[]=>rfl
 |a::l=>by rw[Ok];simp only[AV.frzL,AV.frz,iU,fi l]
theorem jD:∀{l:List Atr}{k:Nat},k<l.length->((aJ l).drop (k*2)).take 2=atA (l.getD k ([],[]))
 |a::l,0,_=>rfl
 |a::l,k+1,h=>by have b:=@jD l k (by simpa using h);rw[show(k+1)*2=k*2+1+1 by omega,Ok];simp[*]
abbrev Ta(l:List (List UInt8)):AV:=.sl (l.map AV.str) l.length none
theorem ad9{l:List Atr}{k:Nat}(a:k<l.length):(aJ l).getD (k*2+1) .undef=Ta (l.getD k ([],[])).2:=by have b:=congrArg (λl=>l[1]?) (jD a);simp_all
end Go.Proofs.YtdnfjhflkkpokaaGreatDoor.Av
set_option maxRecDepth 100000
namespace Go.Proofs.YtdnfjhflkkpokaaGreatDoor.Av
open Go
def KF:LSO:=[Ak 2]
def KE:LSO:=[Ak 3]
def KD:LSO:=[Aa 6 0,Ah 7 6,Ac 8 0]
def KC:LSO:=[Al 9 8 7]
def KB:LSO:=[Am 10 2 6 8,As 11 2 10,Bj 5,Ap 2 5 11]
def KA:List (aw×Kd):=
 [AD 12 3,A9 13 0 5,AA 14 1 13 0 1,od 15 (.bslice false 1 0 [] []) (.read 0 0),A9 16 1 5,AA 17 1 16 0 0,od 18 (.app 0 1 16 [(.str [])] (tm 15) (tm 17)) .eff,Cs 19 14 18,
 Ct 20 19 0 0]
def Gd:List aw :=
 [⟨(some 21),(.app 1 2 40 [(.str []),(.sl [] 0 (some 0))] (tm 12) (tm 20)),none⟩,⟨(some 3),(.mv (tm 21)),none⟩]
def Kz:LSO:=[Ai 22 8 1,Aa 8 22]
def Ky:LSO:=[Aa 23 3,Aa 2 23]
def E6:aK:=⟨24,(ash KF [] (ash KE [] (.seq (ash KD [] (ask 0 (ash KC [] (.seq (asl 9 0) (.seq (.block 1 (ash KB C6 (.dregM KA Gd CY))) (.sreg Kz C4)))))) (ash Ky C4 .ret)))),[(.tmp 2)]⟩
attribute [push_cast] KF KE KD KC KB KA Gd Kz Ky
theorem X4:aL Tryz.prog (λr i=>if r=5/\i=6 then 0 else 1) 16=some E6.raw:=asq
def QU:LSO:=[Af 2]
def QT:LSO:=[Aa 7 0,Ah 8 7,Ac 9 0]
def QS:LSO:=[Al 10 9 8]
def QR:LSO:=[Am 11 2 7 9,As 12 2 11,Bj 4,Ap 2 4 12]
def QQ:LSO:=[Aa 13 0,Ah 14 13,A7 15 14 60,Aa 16 15,.grp none 16 false
 [A8 17 16 1 4,A6 18 16 1 17,AS 19 16 18,AC 20 16 19 60]
 21 (tm 20)]
def QP:LSO:=[Af 2]
def QO:LSO:=[Ad 22 1 4,Ab 23 1 22,Ah 24 23,Ac 25 0]
def QN:LSO:=[Al 26 25 24]
def QM:LSO:=[Am 27 1 23 25,Ab 28 1 27,Aa 6 28]
def QL:LSO:=[Aa 29 6,Ax 30 29,A7 31 30 5000]
def Na:LSO:=[Af 2]
def M9:LSO:=[Ai 32 25 1,Aa 25 32]
def M8:LSO:=[Ai 33 9 1,Aa 9 33]
def M7:LSO:=[A5 2]
def NX:aK:=⟨34,(ash QU [] (.seq (ash QT [] (ask 0 (ash QS [] (.seq (asl 10 0) (.seq (.block 1 (ash QR C6 (.seq (ash QQ CA (asj 21 (.sreg QP []))) (ash QO CJ (ask 2 (ash QN [] (.seq (asl 26 2) (.seq (.block 3 (ash QM C6 (ash QL C6 (asj 31 (.sreg Na []))))) (.sreg M9 C4))))))))) (.sreg M8 C4)))))) (ash M7 [] .ret))),[(.tmp 2)]⟩
attribute [push_cast] QU QT QS QR QQ QP QO QN QM QL Na M9 M8 M7
theorem Z5:asm 13=asn NX:=asq
attribute [push_cast] E6 NX
variable {L:List Blk}{K:aoY}
set_option maxHeartbeats 8000000
set_option maxRecDepth 100000
theorem ak4{l:List Atr}{cap:Option Nat}(t:l.length<=1100000)(p:∀a∈l,a.2.length<=1100000)(h:K (.sl (aJ l) l.length none) L):
  aoX 16 [.sl (aJ l) l.length cap] L K:=by
 replace h:=hid h;refine aoW X4 ?_;refine bR (l:=[]) (n:=0) 3 2 rfl (aps 2).symm ?_;refine ak (λm T' L'=>∃(k:Nat) (C:List AV) (X:List Blk),m=l.length-k/\k<=l.length/\C=aJ (l.take k)/\T'=[(8,.int .i64 (k:Int)),(7,.int .i64 l.length),(6,.sl (aJ l) l.length cap),(3,.gsl C k L.length 2)]/\L'=L++(.spare k 2::X)) ass ⟨0,[],[],rfl,ao2 _,rfl,rfl,rfl⟩ ?_;rintro _ _ _ ⟨k,C,X,rfl,q,d,rfl,rfl⟩;by_cases b:k<l.length;have g1:(k:Int)<(l.length:Int):=aso;have s:=aoV k aso;have i:=jD b;have r:k*2+2<=(aJ l).length:=by rw[iH];omega
 obtain⟨⟨nm,vs⟩,e⟩:∃a,l.getD k ([],[])=a:=⟨_,rfl⟩;have c:aJ (l.take (k+1))=aJ (l.take k)++[.str nm,.sl (vs.map AV.str) vs.length none]:=by rw[aph b,VZ,show l[k]=(nm,vs)by rw[<- e];simp[b]];rfl
 have g:=p (nm,vs) (by rw[<- e];simp[b]);simp only at g;rw[e]at i;simp only[atA]at i;have j:AV.frzL (vs.map AV.str)=vs.map AV.str:=iU vs;replace c:=hid c;replace d:=hid d;clear e p;refine wk ?_;exact ast aso asr ⟨k+1,_,_,rfl,b,by rw[c.o,d.o],rfl,rfl⟩;have f:k=l.length:=aso;subst f;have g1:¬(l.length:Int)<(l.length:Int):=aso;rw[apg]at d;subst d;have j:=fi l;refine wk ?_;refine aY ?_;simp only[AV.frz,j];exact ac (by simp only[AV.refs,kk]) h.o
def acn(n:Nat)(a:Atr):Bool:=decide (n<=60)&&decide (a.2.length<=60)&&a.2.all λv=>decide (v.length<=5000)
def afo(l:List Atr):Bool:=l.all (acn l.length)
theorem agh{l:List Atr}(h:afo l=true):l.length<=60/\∀a∈l,a.2.length<=60/\∀v∈a.2,v.length<=5000:=by simp only[afo,apa,acn,ao3,decide_eq_true_eq]at h;refine⟨?_,λa b=>⟨(h a b).1.2,(h a b).2⟩⟩;rcases l with _|⟨x,t⟩;simp;exact(h x asp).1.1
theorem an1{l:List Atr}{cap:Option Nat}(G:(l.length:Int)<=9223372036854775807)(B:∀a∈l,(a.2.length:Int)<=9223372036854775807)(h:K (.bool (afo l)) L):
  aoX 13 [.sl (aJ l) l.length cap] L K:=by
 obtain⟨R,r⟩:=aoT (l.all (acn l.length));rw[afo,r]at h;replace h:=hid h;replace r:=hid r;refine aoW Z5 ?_;refine ak (λm T' L'=>∃(k:Nat) (X:List Blk),m=l.length-k/\k<=l.length/\Hid ((l.drop k).all (acn l.length)=R)/\T'=[(9,.int .i64 (k:Int)),(8,.int .i64 l.length),(7,.sl (aJ l) l.length cap),(0,.sl (aJ l) l.length cap)]/\L'=L++X) ass ⟨0,[],rfl,ao2 _,hid (by simpa using r.o),rfl,asp⟩ ?_;rintro _ _ _ ⟨k,X,rfl,D,u,rfl,rfl⟩;by_cases d:k<l.length;have g1:(k:Int)<(l.length:Int):=aso;have M:=aoV k aso;have A:=jD d;have I:k*2+2<=(aJ l).length:=by rw[iH];omega
 obtain⟨⟨nm,vs⟩,t⟩:∃a,l.getD k ([],[])=a:=⟨_,rfl⟩;have f:l.drop k=(nm,vs)::l.drop (k+1):=by rw[apw d,<- t];simp[d]
 have z:=B (nm,vs) (by rw[<- t];simp[d]);simp only at z;rw[t]at A;simp only[atA]at A;have b:=u.o;rw[f,aqd]at b;have no:acn l.length (nm,vs)=false->K (.bool false) L:=λe=>by rw[e,apO]at b;have:=h.o;rwa[<- b]at this
 replace no:=hid no;clear u f t B r;by_cases N:(60:Int)<(l.length:Int);have g:=hid (no.o (by simp[acn];omega));clear b;refine wk ?_;exact ac rfl g.o;by_cases H:(60:Int)<(vs.length:Int);have g:=hid (no.o (by simp[acn];omega));clear b;refine wk ?_;exact ac rfl g.o;obtain⟨y,n⟩:=aoT (vs.all (λv=>decide (v.length<=5000)));have q:acn l.length (nm,vs)=y:=by rw[acn,n,decide_eq_true aso,decide_eq_true (by simp only;omega)];rfl
 rw[q]at b;replace b:=hid b;replace n:=hid n;replace no:=hid (λe:y=false=>no.o (q.trans e));clear q;refine wk ?_;refine ak (λm T' L'=>∃j:Nat,m=vs.length-j/\j<=vs.length/\Hid ((vs.drop j).all (λv=>decide (v.length<=5000))=y)/\T'=[(25,.int .i64 (j:Int)),(24,.int .i64 vs.length),(23,.sl (vs.map AV.str) vs.length none),(9,.int .i64 (k:Int)),(8,.int .i64 l.length),(7,.sl (aJ l) l.length cap),(0,.sl (aJ l) l.length cap)]/\L'=L++(X++[.cells [.str nm,.sl (vs.map AV.str) vs.length none]])) ass ⟨0,rfl,ao2 _,hid (by simpa using n.o),rfl,asp⟩ ?_;rintro _ _ _ ⟨j,rfl,F,s,rfl,rfl⟩;by_cases i:j<vs.length;have C:(j:Int)<(vs.length:Int):=aso;have E:=aoV j aso;obtain⟨v,w⟩:=aoT (vs.getD j []);have g3:(vs.map AV.str).getD j .undef=.str v:=by rw[<- w];simp[i]
 have f:vs.drop j=v::vs.drop (j+1):=by rw[apw i,<- w];simp[i]
 have c:=s.o;rw[f,aqd]at c;clear w f s;by_cases J:(5000:Int)<(v.length:Int);have g:=hid (no.o (by rw[<- c,decide_eq_false aso,apO]));clear c;refine wk ?_;exact ac rfl g.o;rw[decide_eq_true aso,apy]at c;replace c:=hid c;refine wk ?_;exact ast aso asr ⟨j+1,rfl,i,c,rfl,rfl⟩;have C:¬(j:Int)<(vs.length:Int):=aso;have c:=s.o;rw[aqE aso,aq1]at c;have p:=b.o;rw[<- c,apy]at p;replace p:=hid p;clear s c;refine wk ?_;exact ast aso asr ⟨k+1,_,rfl,d,p,rfl,rfl⟩;have x:k=l.length:=aso;subst x;have g1:¬(l.length:Int)<(l.length:Int):=aso;have b:=u.o;rw[apM,aq1]at b;have g:=h.o;rw[<- b]at g;replace g:=hid g;clear u b r;refine wk ?_;exact ac rfl g.o
end Go.Proofs.YtdnfjhflkkpokaaGreatDoor.Av
set_option maxRecDepth 100000
namespace Go.Proofs.YtdnfjhflkkpokaaGreatDoor.Av
open Go
def M6:LSO:=[Aw 2]
def M5:LSO:=[Aa 6 0,o1 7 (.s2bO (tm 6)),Aa 3 7]
def M4:LSO:=[Aa 8 3,Ah 9 8,Ac 10 0]
def M3:LSO:=[Al 11 10 9]
def M2:LSO:=[Aa 12 10,Am 13 1 8 10,Ab 14 1 13,Aa 4 12,Aa 5 14]
def M1:LSO:=[Aa 15 5,Ck 16 15,Aa 17 16,.grp none 17 true
 [Ae 18 17 5,og 19 17 true (.bin .leq (tm 18) (.av (.int .u8 90)))]
 20 (tm 19)]
def M0:LSO:=[Aa 21 3,Aa 22 4,Aa 23 5,o1 24 (.bin .add (tm 23) (.av (.int .u8 32))),Am 25 1 21 22,Ap 1 25 24]
def MZ:LSO:=[Ai 26 10 1,Aa 10 26]
def MY:LSO:=[Aa 27 3,Bg 28 27,Aa 2 28]
def Fj:aK:=⟨29,(ash M6 [] (ash M5 C6 (.seq (ash M4 [] (ask 0 (ash M3 [] (.seq (asl 11 0) (.seq (.block 1 (ash M2 CF (ash M1 C7 (asi 20 (.sreg M0 CQ) .skip)))) (.sreg MZ C4)))))) (ash MY C6 .ret)))),[(.tmp 2)]⟩
attribute [push_cast] M6 M5 M4 M3 M2 M1 M0 MZ MY
theorem Yh:aL Tryz.prog (λr i=>if r=1/\i=1 then 2 else 1) 46=some Fj.raw:=asq
def MX:LSO:=[Aw 2]
def MW:LSO:=[Ak 3]
def MV:LSO:=[Aa 6 0,Aj 7 46 6,o1 8 (.s2b (tm 7)),Ah 9 8,Ac 10 0]
def MU:LSO:=[Al 11 10 9]
def MT:LSO:=[Am 12 1 8 10,Ab 13 1 12,Aa 5 13]
def MS:LSO:=[Aa 14 5,o1 15 (.bin .eql (tm 14) (.av (.int .u8 32))),Aa 16 15,.grp none 16 true
 [Ae 17 16 3,AE 18 16 17,AO 19 16 18 0,Ae 20 16 19,.grp (some (16,true)) 20 false
 [Ag 21 20 3,Ag 22 20 3,AS 23 20 22,Ci 24 20 23 1,og 25 20 false (.iaddr 1 (tm 21) (tm 24)),A6 26 20 1 25,Cl 27 20 26]
 28 (tm 27)]
 29 (tm 28)]
def MR:LSO:=[Aa 30 3,Aa 31 5,Bc 32 31,AX 33 30 32,Aa 3 33]
def MQ:LSO:=[Ai 34 10 1,Aa 10 34]
def MP:LSO:=[Aa 35 3,Ah 36 35,A7 37 36 0,Aa 38 37,.grp none 38 true
 [Ae 39 38 3,Ae 40 38 3,AE 41 38 40,BT 42 38 41 1,Bf 43 38 1 39 42,A0 44 38 1 43,B3 45 38 44]
 46 (tm 45)]
def MO:LSO:=[Aa 47 3,Aa 48 3,Ah 49 48,Ba 50 49 1,Cm 51 47 50,Aa 3 51]
def IC:LSO:=[Aa 52 3,Bg 53 52,Aa 2 53]
def Fi:aK:=⟨54,(ash MX [] (ash MW [] (.seq (ash MV CV (ask 0 (ash MU [] (.seq (asl 11 0) (.seq (.block 1 (ash MT C6 (.seq (ash MS C7 (asi 29 (.exit 1) .skip)) (.sreg MR CA)))) (.sreg MQ C4)))))) (.seq (ash MP CA (asi 46 (.sreg MO CB) .skip)) (ash IC C6 .ret))))),[(.tmp 2)]⟩
attribute [push_cast] MX MW MV MU MT MS MR MQ MP MO IC
theorem Yg:asm 104=asn Fi:=asq
def MF:LSO:=[Aw 2]
def ME:LSO:=[Ak 3]
def MD:LSO:=[Ac 4 0]
def MC:LSO:=[Aa 6 4,Aa 7 0,Ax 8 7,Al 9 6 8]
def MB:LSO:=[Aa 12 0,Aa 13 4,AK 14 12 13,Aa 5 14]
def MA:LSO:=[Aa 15 5,Ck 16 15,Aa 17 16,.grp none 17 true
 [Ae 18 17 5,og 19 17 true (.bin .leq (tm 18) (.av (.int .u8 90)))]
 20 (tm 19)]
def Mz:LSO:=[Aa 21 5,o1 22 (.bin .sub (tm 21) (.av (.int .u8 65))),o1 23 (.bin .add (tm 22) (.av (.int .u8 97))),Aa 5 23]
def My:LSO:=[Aa 24 3,Aa 25 5,Bc 26 25,AX 27 24 26,Aa 3 27]
def Mx:LSO:=[Aa 10 4,Ai 11 10 1,Aa 4 11]
def Mw:LSO:=[Aa 28 3,Bg 29 28,Aa 2 29]
def Fg:aK:=⟨30,(ash MF [] (ash ME [] (.seq (ash MD [] (ask 0 (.seq (ash MC C7 (asl 9 0)) (.seq (.block 1 (ash MB C7 (.seq (ash MA C7 (asi 20 (.sreg Mz C7) .skip)) (.sreg My CA)))) (.sreg Mx C6))))) (ash Mw C6 .ret)))),[(.tmp 2)]⟩
attribute [push_cast] MF ME MD MC MB MA Mz My Mx Mw
theorem Ye:asm 49=asn Fg:=asq
def Mv:LSO:=[Aw 2]
def Mu:LSO:=[Aa 8 0,Aj 9 49 8,Aa 3 9]
def Mt:LSO:=[Ak 4]
def Mr:LSO:=[Ac 5 0]
def Mq:LSO:=[Aa 10 5,Aa 11 3,Ax 12 11,Al 13 10 12]
def Mp:LSO:=[Af 6]
def Mo:LSO:=[Aa 16 5,Aa 7 16]
def Mn:LSO:=[Aa 17 7,Aa 18 3,Ax 19 18,Al 20 17 19,Aa 21 20,.grp none 21 true
 [Ae 22 21 6,Bt 23 21 22]
 24 (tm 23)]
def Mm:LSO:=[Aa 27 3,Aa 28 7,AK 29 27 28,o1 30 (.bin .neq (tm 29) (.av (.int .u8 32))),Aa 6 30]
def Ml:LSO:=[Aa 25 7,Ai 26 25 1,Aa 7 26]
def Ir:LSO:=[Aa 31 6,A3 32 31,Aa 33 32,.grp none 33 false
 [Ag 34 33 3,Ag 35 33 5,B1 36 33 34 35,Cl 37 33 36,Ag 38 33 37,.grp (some (33,false)) 38 true
 [Ae 39 38 4,AE 40 38 39,AO 41 38 40 0,Ae 42 38 41,.grp (some (38,true)) 42 false
 [Ag 43 42 3,Ag 44 42 5,Ci 45 42 44 1,B1 46 42 43 45,Cl 47 42 46]
 48 (tm 47)]
 49 (tm 48)]
 50 (tm 49)]
def Iq:LSO:=[Aa 51 4,Aa 52 3,Aa 53 5,AK 54 52 53,Bc 55 54,AX 56 51 55,Aa 4 56]
def Ip:LSO:=[Aa 14 5,Ai 15 14 1,Aa 5 15]
def Io:LSO:=[Aa 57 4,Bg 58 57,Aa 2 58]
def Ff:aK:=⟨59,(ash Mv [] (ash Mu C6 (ash Mt [] (.seq (ash Mr [] (ask 0 (.seq (ash Mq C7 (asl 13 0)) (.seq (.block 1 (ash Mp [] (.seq (ash Mo C4 (ask 2 (.seq (ash Mn CB (asl 24 2)) (.seq (.block 3 (.sreg Mm CA)) (.sreg Ml C6))))) (.seq (ash Ir C7 (asi 50 (.exit 1) .skip)) (.sreg Iq CC))))) (.sreg Ip C6))))) (ash Io C6 .ret))))),[(.tmp 2)]⟩
attribute [push_cast] Mv Mu Mt Mr Mq Mp Mo Mn Mm Ml Ir Iq Ip Io
theorem Yd:asm 135=asn Ff:=asq
def MN:LSO:=[Co 2,Af 3]
def MM:LSO:=[Aa 5 0,o1 6 (.bin .geq (tm 5) (.av (.int .u8 48))),Aa 7 6,.grp none 7 true
 [Ae 8 7 0,og 9 7 true (.bin .leq (tm 8) (.av (.int .u8 57)))]
 10 (tm 9),Aa 4 10]
def ML:LSO:=[Aa 11 0,BN 12 11,Aa 2 12,A5 3]
def MK:LSO:=[Aa 14 0,o1 15 (.bin .geq (tm 14) (.av (.int .u8 97))),Aa 16 15,.grp none 16 true
 [Ae 17 16 0,og 18 16 true (.bin .leq (tm 17) (.av (.int .u8 102)))]
 19 (tm 18),Aa 13 19]
def MJ:LSO:=[Aa 20 0,o1 21 (.bin .sub (tm 20) (.av (.int .u8 97))),o1 22 (.bin .add (tm 21) (.av (.int .u8 10))),Aa 2 22,A5 3]
def MI:LSO:=[Aa 24 0,Ck 25 24,Aa 26 25,.grp none 26 true
 [Ae 27 26 0,og 28 26 true (.bin .leq (tm 27) (.av (.int .u8 70)))]
 29 (tm 28),Aa 23 29]
def MH:LSO:=[Aa 30 0,o1 31 (.bin .sub (tm 30) (.av (.int .u8 65))),o1 32 (.bin .add (tm 31) (.av (.int .u8 10))),Aa 2 32,A5 3]
def MG:LSO:=[Co 2,Af 3]
def Fh:aK:=⟨33,(ash MN [] (.seq (.block 0 (ash MM CA (asi 4 (ash ML CM .ret) (ash MK CA (asi 13 (ash MJ CF .ret) (ash MI CA (asj 23 (.sreg MH CF)))))))) (ash MG [] .ret))),[(.tmp 2),(.tmp 3)]⟩
attribute [push_cast] MN MM ML MK MJ MI MH MG
theorem Yf:asm 205=asn Fh:=asq
def IB:LSO:=[Aw 2,Af 3]
def IA:LSO:=[Aa 10 0,Ax 11 10,o1 12 (.bin .rem (tm 11) (iv 2)),An 13 12 1]
def Iz:LSO:=[Aw 2,Af 3]
def Iy:LSO:=[Aa 14 0,Ax 15 14,o1 16 (.bin .quo (tm 15) (iv 2)),o1 17 (.mkslice 1 1 [(.int .u8 0)] (iv 0) (tm 16)),Aa 4 17]
def Ix:LSO:=[Ac 5 0]
def Iw:LSO:=[Aa 18 5,Aa 19 0,Ax 20 19,Al 21 18 20]
def Iv:LSO:=[Aa 25 0,Aa 26 5,AK 27 25 26,Aj 28 205 27,Aa 24 28,Ao 29 24,Aq 30 24,Aa 6 29,Aa 7 30]
def Iu:LSO:=[Aa 32 0,Aa 33 5,Ai 34 33 1,AK 35 32 34,Aj 36 205 35,Aa 31 36,Ao 37 31,Aq 38 31,Aa 8 37,Aa 9 38]
def It:LSO:=[Aa 39 7,A3 40 39,Aa 41 40,.grp none 41 false
 [Ag 42 41 9,AZ 43 41 42]
 44 (tm 43)]
def Is:LSO:=[Aw 2,Af 3]
def DG:LSO:=[Aa 45 4,Aa 46 6,o1 47 (.bin .shl (tm 46) (.av (.int .u64 4))),Aa 48 8,o1 49 (.bin .or (tm 47) (tm 48)),Bc 50 49,AX 51 45 50,Aa 4 51]
def DF:LSO:=[Aa 22 5,Ai 23 22 2,Aa 5 23]
def DE:LSO:=[Aa 52 4,Bg 53 52,Aa 2 53,A5 3]
def wK:aK:=⟨54,(ash IB [] (.seq (ash IA C7 (asj 13 (.sreg Iz []))) (ash Iy CA (.seq (ash Ix [] (ask 0 (.seq (ash Iw C7 (asl 21 0)) (.seq (.block 1 (ash Iv CR (ash Iu Dl (.seq (ash It C7 (asj 44 (.sreg Is []))) (.sreg DG CE))))) (.sreg DF C6))))) (ash DE CM .ret))))),[(.tmp 2),(.tmp 3)]⟩
attribute [push_cast] IB IA Iz Iy Ix Iw Iv Iu It Is DG DF DE
theorem WC:asm 178=asn wK:=asq
def Ib:LSO:=[Co 2]
def Ia:LSO:=[Aa 3 0,o1 4 (.bin .lss (tm 3) (.av (.int .u8 10)))]
def H9:LSO:=[Aa 5 0,o1 6 (.bin .add (.av (.int .u8 48)) (tm 5)),Aa 2 6]
def H8:LSO:=[Aa 7 0,o1 8 (.bin .add (.av (.int .u8 97)) (tm 7)),o1 9 (.bin .sub (tm 8) (.av (.int .u8 10))),Aa 2 9]
def wI:aK:=⟨10,(ash Ib [] (.seq (ash Ia C4 (asj 4 (.sreg H9 C6))) (ash H8 C7 .ret))),[(.tmp 2)]⟩
attribute [push_cast] Ib Ia H9 H8
theorem WA:asm 248=asn wI:=asq
def Im:LSO:=[Aw 2,Af 3]
def Il:LSO:=[Ak 4]
def Ik:LSO:=[Aa 9 0,Aj 10 49 9,Aa 5 10]
def Ij:LSO:=[Ac 6 0]
def Ii:LSO:=[Aa 11 6,Ai 12 11 1,Aa 13 5,Ax 14 13,Al 15 12 14]
def Ih:LSO:=[Af 7]
def Ig:LSO:=[Ac 8 0]
def If:LSO:=[Aa 18 8,AJ 19 18 256,Aa 20 19,.grp none 20 true
 [Ae 21 20 7,Bt 22 20 21]
 23 (tm 22)]
def Ie:LSO:=[Aa 26 8,o1 27 (.bin .quo (tm 26) (iv 16)),o1 28 (.conv .u8 (tm 27)),Aj 29 248 28,Aa 30 5,Aa 31 6,AK 32 30 31,AH 33 29 32,Aa 34 33,.grp none 34 true
 [Ae 35 34 8,BM 36 34 35 16,og 37 34 true (.conv .u8 (tm 36)),Bb 38 34 248 37,Ae 39 34 5,Ae 40 34 6,Cg 41 34 40 1,Bk 42 34 39 41,B7 43 34 38 42]
 44 (tm 43)]
def Ic:LSO:=[Aa 45 4,Aa 46 8,o1 47 (.conv .u8 (tm 46)),Bc 48 47,AX 49 45 48,Aa 4 49]
def DD:LSO:=[A5 7]
def DC:LSO:=[Aa 24 8,Ai 25 24 1,Aa 8 25]
def DB:LSO:=[Aa 50 7,A3 51 50]
def DA:LSO:=[Aw 2,Af 3]
def Dz:LSO:=[Aa 16 6,Ai 17 16 2,Aa 6 17]
def Dy:LSO:=[Aa 52 0,Ax 53 52,o1 54 (.bin .rem (tm 53) (iv 2)),An 55 54 1]
def Dx:LSO:=[Aw 2,Af 3]
def Dw:LSO:=[Aa 56 4,Bg 57 56,Aa 2 57,A5 3]
def wJ:aK:=⟨58,(ash Im [] (ash Il [] (ash Ik C6 (.seq (ash Ij [] (ask 0 (.seq (ash Ii CA (asl 15 0)) (.seq (.block 1 (ash Ih [] (.seq (ash Ig [] (ask 2 (.seq (ash If C7 (asl 23 2)) (.seq (.block 3 (.seq (.sdreg Ie [.pure,.pure,.pure,(.read 0 0),.pure,.pure,(.read 0 0),.pure,.pure,.pure,.pure,.pure,(.read 0 0),.pure,.pure,.pure,(.read 0 0)] CG) (asi 44 (ash Ic CB (.sreg DD [])) .skip))) (.sreg DC C6))))) (ash DB C4 (asj 51 (.sreg DA [])))))) (.sreg Dz C6))))) (.seq (ash Dy C7 (asj 55 (.sreg Dx []))) (ash Dw CM .ret)))))),[(.tmp 2),(.tmp 3)]⟩
attribute [push_cast] Im Il Ik Ij Ii Ih Ig If Ie Ic DD DC DB DA Dz Dy Dx Dw
theorem WB:asm 237=asn wJ:=asq
attribute [push_cast] Fj Fg wK wJ
variable {L:List Blk}{K:aoY}
set_option maxHeartbeats 8000000
set_option maxRecDepth 100000
def ga(c:UInt8):UInt8:=if 65<=c.toNat/\c.toNat<=90 then c+32 else c
def aj(s:List UInt8):List UInt8:=s.map ga
theorem ab6{c:UInt8}(a:65<=c.toNat)(b:c.toNat<=90):((ga c).toNat:Int)=(c.toNat:Int)+32:=by rw[ga,if_pos ⟨a,b⟩,UInt8.toNat_add];have:(32:UInt8).toNat=32:=rfl;omega
theorem Nv{c:UInt8}(h:¬(65<=c.toNat/\c.toNat<=90)):ga c=c:=by rw[ga,if_neg h]
theorem ku(l:List UInt8):(u8s l).all ae0=true:=by simp only[u8s,List.all_map,apa];intro x _;have:=x.toNat_lt;simp[ae0]
theorem jq(l:List UInt8):(u8s l).map abI=l:=by
 induction l with
 |nil=>rfl
 | cons x l ih =>
   simp only[u8s,apv,apq]at ih⊢;rw[ih];simp[abI]
theorem Yl(l:List UInt8)(c:UInt8):u8s (l++[c])=u8s l++[.int .u8 c.toNat]:=by simp[u8s]
theorem ZA{s:List UInt8}{k:Nat}(h:k<s.length):aj (s.take (k+1))=aj (s.take k)++[ga (s.getD k 0)]:=by rw[aph h,aj,apz];simp[aj,h]
theorem cX{s:List UInt8}(x:(s.length:Int)<=140737488351232)(h:K (.str (aj s)) L):aoX 49 [.str s] L K:=by
 replace h:=hid h;refine aoW Ye ?_;refine bR (l:=[]) (n:=0) 3 1 rfl (aps 1).symm ?_;refine ak (λn T' L'=>∃(k:Nat) (v:List AV),n=s.length-k/\k<=s.length/\v=u8s (aj (s.take k))/\T'=[(4,.int .i64 (k:Int)),(3,.gsl v k L.length 1),(2,.str []),(0,.str s)]/\L'=L++[.spare k 1]) ass ⟨0,[],rfl,ao2 _,rfl,rfl,rfl⟩ ?_;rintro _ _ _ ⟨k,v,rfl,t,rfl,rfl,rfl⟩;by_cases d:k<s.length
 .have r:(k:Int)<(s.length:Int):=aso;have w:=aoV k aso;have a:=hid (ZA d);have e:s.getD k 0=s.getD k 0:=rfl;obtain⟨c,q⟩:=aoT (s.getD k 0);rw[q]at a;have i:=c.toNat_lt;by_cases f:65<=c.toNat/\c.toNat<=90;have y:(65:Int)<=(c.toNat:Int):=aso;have A:(c.toNat:Int)<=90:=aso;have j:=hid (ab6 f.1 f.2);have m:IntKind.u8.wrap ((c.toNat:Int)-65)=(c.toNat:Int)-65:=dw aso aso;have p:IntKind.u8.wrap ((c.toNat:Int)-65+97)=(c.toNat:Int)-65+97:=dw aso aso;clear f;refine wk ?_;refine ast aso ass ⟨k+1,_,rfl,d,?_,rfl,rfl⟩;rw[a.o,Yl,j.o];simp only[show(c.toNat:Int)-65+97=c.toNat+32 by omega]
  .have j:=hid (Nv f);have m:¬((65:Int)<=(c.toNat:Int)/\(c.toNat:Int)<=90):=aso;have p:(decide ((65:Int)<=(c.toNat:Int))&&decide ((c.toNat:Int)<=90))=false:=(by simp;omega);clear f;refine wk ?_
   all_goals first
    |omega
    | (refine ast aso (CutS (b := by simp)) ⟨k + 1, _, rfl, d, ?_, rfl, rfl⟩
       rw[a.o,Yl,j.o])
 have g:k=s.length:=aso;subst g;have r:¬(s.length:Int)<(s.length:Int):=aso;have z:=ku (aj s);have B:=jq (aj s);have u:s.take s.length=s:=apg;refine wk ?_;exact ac rfl h.o
theorem jB{s:List UInt8}(E:(s.length:Int)<=140737488351232)(h:K (.str (aj s)) L):aoX 46 [.str s] L K:=by
 replace h:=hid h;refine aoW Yh ?_;refine ak (λn T' L'=>∃(k:Nat) (v:List AV),n=s.length-k/\k<=s.length/\v=u8s (aj (s.take k)++s.drop k)/\T'=[(10,.int .i64 (k:Int)),(9,.int .i64 s.length),(8,.lsl L.length 0 s.length none 1),(3,.lsl L.length 0 s.length none 1),(2,.str [])]/\L'=L++[.bytes v]) ass ⟨0,_,rfl,ao2 _,rfl,rfl,rfl⟩ ?_;rintro _ _ _ ⟨k,v,rfl,C,j,rfl,rfl⟩;by_cases g:k<s.length
 .have B:(k:Int)<(s.length:Int):=aso;have D:=aoV k aso;obtain⟨c,u⟩:=aoT (s.getD k 0);have t:s.drop k=c::s.drop (k+1):=by rw[apw g,<- u,apo,ao8 g];rfl
  have l:(aj (s.take k)).length=k:=(by simp[aj];omega);have d:v=u8s (aj (s.take k)) ++ .int .u8 c.toNat::u8s (s.drop (k+1)):=(by rw[j,t];simp[u8s]);have i:(u8s (aj (s.take k))).length=k:=(by simp[u8s,l]);have A:v.length=s.length:=(by rw[j];simp[u8s,aj];omega);have w:k<v.length:=aso;have y:v.getD k .undef=.int .u8 c.toNat:=(by rw[d];simp[apo,ape,i]);have a:=ZA g;rw[u]at a;have e:u8s (aj (s.take (k+1))++s.drop (k+1))=u8s (aj (s.take k)) ++ .int .u8 (ga c).toNat::u8s (s.drop (k+1)):=(by rw[a];simp[u8s]);have f:∀x,v.take k++x::v.drop (k+1)=u8s (aj (s.take k))++x::u8s (s.drop (k+1)):=λx=>by rw[d,List.take_left' i,List.drop_append,i,aqE aso,show k+1-k=1 by omega];rfl
  clear j t l a;replace d:=hid d;replace e:=hid e;replace f:=hid f;have q:=c.toNat_lt;by_cases m:65<=c.toNat/\c.toNat<=90;have F:(65:Int)<=(c.toNat:Int):=aso;have M:(c.toNat:Int)<=90:=aso;have r:=hid (ab6 m.1 m.2);have G:IntKind.u8.wrap ((c.toNat:Int)+32)=(c.toNat:Int)+32:=dw aso aso;clear m;refine wk ?_;refine ast aso ass ⟨k+1,_,rfl,g,?_,rfl,rfl⟩;rw[e.o,r.o];exact f.o _
  .have r:=hid (Nv m);have H:(decide ((65:Int)<=(c.toNat:Int))&&decide ((c.toNat:Int)<=90))=false:=(by simp;omega);clear m;refine wk ?_
   all_goals first
    |omega
    | (refine ast aso (CutS (b := by simp)) ⟨k + 1, _, rfl, g, ?_, rfl, rfl⟩
       rw[e.o,r.o];exact d.o)
 have p:k=s.length:=aso;subst p;have B:¬(s.length:Int)<(s.length:Int):=aso;have d:v=u8s (aj s):=by rw[j];simp
 clear j;subst d;have I:=ku (aj s);have N:=jq (aj s);have z:(u8s (aj s)).length=s.length:=by simp[u8s,aj]
 have J:(u8s (aj s)).take s.length=u8s (aj s):=by rw[<- z];exact apg
 refine wk ?_;exact ac rfl h.o
theorem nq{s:List UInt8}(a:(s.length:Int)<=100000)(h:K (.str (aj s)) L):aoX 49 [.str s] L K:=cX aso h
theorem NC{s:List UInt8}(a:(s.length:Int)<=100000)(h:K (.str (aj s)) L):aoX 46 [.str s] L K:=jB aso h
def lK(c:UInt8):Option Nat:=if 48<=c.toNat/\c.toNat<=57 then some (c.toNat-48)else if 97<=c.toNat/\c.toNat<=102 then some (c.toNat-87)else if 65<=c.toNat/\c.toNat<=70 then some (c.toNat-55)else none
theorem Oh{c:UInt8}{x:Nat}(h:lK c=some x):x<16:=by unfold lK at h;split at h;cases h;omega;split at h;cases h;omega;split at h;cases h;omega;cases h
theorem ae5{c:UInt8}{L:List Blk}{K:aoY}(h:K (.tup [.int .u8 ((lK c).getD 0:Nat),.bool (lK c).isSome]) L):aoX 205 [.int .u8 c.toNat] L K:=by
 have j:=c.toNat_lt;obtain⟨n,f⟩:=aoT (c.toNat);unfold lK at h;rw[f]at h j⊢;clear f;refine ab Yf (by simp[Fh]) ?_;simp only[Fh,ag];by_cases a:48<=n/\n<=57;rw[if_pos a]at h;replace h:=hid h;obtain⟨d,a2⟩:=a;have i:(48:Int)<=(n:Int):=aso;have g:(n:Int)<=57:=aso;have m:IntKind.u8.wrap ((n:Int)-48)=(n:Int)-48:=dw aso aso;clear d a2;refine wk ?_;refine aa ?_;have:=h.o;simpa[show((n-48:Nat):Int)=(n:Int)-48 by omega]using this
 .rw[if_neg a]at h;have p:(decide ((48:Int)<=(n:Int))&&decide ((n:Int)<=57))=false:=(by simp;omega);by_cases b:97<=n/\n<=102;rw[if_pos b]at h;replace h:=hid h;obtain⟨d,a2⟩:=b;have i:(97:Int)<=(n:Int):=aso;have g:(n:Int)<=102:=aso;have k:IntKind.u8.wrap ((n:Int)-97)=(n:Int)-97:=dw aso aso;have l:IntKind.u8.wrap ((n:Int)-97+10)=(n:Int)-97+10:=dw aso aso;clear d a2 a;refine wk ?_;refine aa ?_;have:=h.o;simpa[show((n-87:Nat):Int)=(n:Int)-97+10 by omega]using this
  .rw[if_neg b]at h;have c2:(decide ((97:Int)<=(n:Int))&&decide ((n:Int)<=102))=false:=(by simp;omega);by_cases e:65<=n/\n<=70;rw[if_pos e]at h;replace h:=hid h;obtain⟨d,a2⟩:=e;have i:(65:Int)<=(n:Int):=aso;have g:(n:Int)<=70:=aso;have k:IntKind.u8.wrap ((n:Int)-65)=(n:Int)-65:=dw aso aso;have l:IntKind.u8.wrap ((n:Int)-65+10)=(n:Int)-65+10:=dw aso aso;clear d a2 a b;refine wk ?_;refine aa ?_;have:=h.o;simpa[show((n-55:Nat):Int)=(n:Int)-65+10 by omega]using this
   .rw[if_neg e]at h;have c3:(decide ((65:Int)<=(n:Int))&&decide ((n:Int)<=70))=false:=(by simp;omega);replace h:=hid h;clear a b e
    repeat' first
     |refine bH ?_
     | (first|refine bv asq ?_|refine aP asq ?_|refine aS ?_|refine cT ?_|refine bJ (fun _=>?_)|refine aH ?_|refine bz ?_)
       refine sm ?_
     | (first|refine bp asq ?_|refine bm ?_|refine aR ?_|refine bw ?_|refine bP (aG ?_))
       refine sl ?_
     |exact bL
     |first|apply bM|apply bq|apply bN|apply br|apply bO|apply bu
     |refine aV ?_
     |refine aQ ?_
     |first|refine aT rfl ?_|refine aU rfl ?_|refine aB rfl ?_ ?_|refine aX rfl (λ_=>?_) (λ_=>?_)|refine aW rfl (λ_=>?_) (λ_=>?_)
     |((first|refine aA (λ_=>?_) (λ_=>?_)|refine aE (λ_=>?_) (λ_=>?_))<;>try refine sm ?_)
     |refine And.intro trivial ?_
     |refine And.intro aso ?_
     |refine be rfl (λ_=>?_) (λ_=>?_)
     |refine And.intro ?_ ?_
    all_goals first
     |omega
     |(refine aa ?_;simpa using h.o)
def VD(a b:UInt8):Option UInt8:=match lK a,lK b with
 |some x,some y=>some (UInt8.ofNat (16*x+y))
 |_,_=>none
def Sh(a b:UInt8):AV:=match VD a b with
 |some c=>.tup [.str [c],.bool true]
 |none=>.tup [.str [],.bool false]
theorem amK:∀x y:_root_.Fin 16,IntKind.u8.wrap (((BitVec.ofInt IntKind.u8.bits (IntKind.u8.wrap ((x.val:Int)*2^min 4 IntKind.u8.bits)) |||BitVec.ofInt IntKind.u8.bits (y.val:Int)).toNat:Nat):Int)=16*(x.val:Int)+(y.val:Int):=by decide +kernel
theorem aif{a b:UInt8}(h:K (Sh a b) L):aoX 178 [.str [a,b]] L K:=by
 have A:[a,b].length=2:=rfl;have w:[a,b].getD 0 0=a:=rfl;have r:[a,b].getD 1 0=b:=rfl;have B:IntKind.i64.wrap (Int.tdiv 2 2)=1:=by decide
 have u:Int.tmod 2 2=0:=by decide
 have s:gu [AV.int IntKind.u8 0] 1=[AV.int IntKind.u8 0]:=rfl;have p:IntKind.i64.wrap 1=1:=by decide
 have v:IntKind.i64.wrap 2=2:=by decide
 replace h:=hid h;refine aoW WC ?_;refine ak (λn T' L'=>(n=1/\T'=[(5,.int .i64 0),(4,.lsl L.length 0 0 (some 1) 1),(0,.str [a,b])]/\L'=L++[.cells [.int .u8 0]])\/(n=0/\∃x y:Nat,Hid (lK a=some x)/\Hid (lK b=some y)/\T'=[(5,.int .i64 2),(4,.lsl (L.length+1) 0 1 none 1),(0,.str [a,b])]/\L'=L++[.dead,.cells [.int .u8 ((16*x+y:Nat):Int)]])) (n0:=1) (T0:=[(5,.int .i64 0),(4,.lsl L.length 0 0 (some 1) 1),(0,.str [a,b])]) (L0:=L++[.cells [.int .u8 0]]) ass (.inl ⟨rfl,rfl,rfl⟩) ?_;rintro _ _ _ (⟨rfl,rfl,rfl⟩|⟨rfl,x,y,d,e,rfl,rfl⟩);rcases d:lK a with _|x;have c:=h.o;simp only[Sh,VD,d]at c;replace c:=hid c;have j:(lK a).getD 0=0:=by rw[d];rfl
 have m:(lK a).isSome=false:=by rw[d];rfl
 clear d;have kk1:=@hid _ @ae5;refine wk ?_;exact ac rfl c.o;have j:(lK a).getD 0=x:=by rw[d];rfl
 have m:(lK a).isSome=true:=by rw[d];rfl
 have l:=hid d;rcases e:lK b with _|y;have c:=h.o;simp only[Sh,VD,d,e]at c;replace c:=hid c;have i:(lK b).getD 0=0:=by rw[e];rfl
 have k:(lK b).isSome=false:=by rw[e];rfl
 clear d e;have kk1:=@hid _ @ae5;refine wk ?_;exact ac rfl c.o;have i:(lK b).getD 0=y:=by rw[e];rfl
 have k:(lK b).isSome=true:=by rw[e];rfl
 have g:=hid e;have f:=amK ⟨x,Oh d⟩ ⟨y,Oh e⟩;simp only at f;clear d e;have kk1:=@hid _ @ae5;refine wk ?_;refine ah 0 _ _ aso asr (.inr ⟨rfl,x,y,hid rfl,hid rfl,rfl,?_⟩)
 first|rfl|rw[f]
 have c:=h.o;simp only[Sh,VD,d.o,e.o]at c;replace c:=hid c;have C:=Oh d.o;have t:=Oh e.o;have q:ae0 (.int .u8 (16*(x:Int)+(y:Int)))=true:=rfl;have z:abI (.int .u8 (16*(x:Int)+(y:Int)))=UInt8.ofNat (16*x+y):=by simp only[abI];rw[show(16*(x:Int)+(y:Int)).toNat=16*x+y by omega]
 refine wk ?_;exact ac rfl c.o
def JI(b:List UInt8):Bool:=b.isEmpty ||b.getLast? == some 32
def bf(b:List UInt8)(c:UInt8):List UInt8:=if c=32/\JI b=true then b else b++[c]
def cN(s:List UInt8):List UInt8:=s.foldl bf []
def d8(b:List UInt8):List UInt8:=if b.getLast?=some 32 then b.dropLast else b
def b9(s:List UInt8):List UInt8:=d8 (cN (aj s))
theorem Vp(b:List UInt8)(c:UInt8):(bf b c).length<=b.length+1:=by unfold bf;split<;>simp
theorem EG{s:List UInt8}{k:Nat}(h:k<s.length):cN (s.take (k+1))=bf (cN (s.take k)) (s.getD k 0):=by rw[aph h,cN,arn];simp[cN,h]
theorem rN(s:List UInt8):∀k,(cN (s.take k)).length<=k
 |0=>by simp[cN]
 | k+1=>by
   have a:=rN s k;by_cases h:k<s.length
   .rw[EG h];have:=Vp (cN (s.take k)) (s.getD k 0);omega
   .rw[apA aso,<- apA (l:=s) (i:=k) aso];omega
theorem EF{s:List UInt8}(I:(s.length:Int)<=100000)(h:K (.str (b9 s)) L):aoX 104 [.str s] L K:=by
 replace h:=hid h;refine ab Yg (by simp[Fi]) ?_;simp only[Fi,ag];obtain⟨t,J⟩:=aoT (aj s);have O:(t.length:Int)<=100000:=by rw[<- J];simpa[aj]using I
 have kk1:=@asv _ _ _ _ (NC I);refine wk ?_;refine bR (l:=[]) (n:=0) 3 1 rfl (aps 1).symm ?_;refine ak (λn T' L'=>∃(k:Nat) (b:List UInt8) (v:List AV) (m:Nat),n=t.length-k/\k<=t.length/\b=cN (t.take k)/\v=u8s b/\m=b.length/\T'=[(10,.int .i64 (k:Int)),(9,.int .i64 t.length),(8,.sl (u8s t) t.length none),(3,.gsl v m L.length 1),(2,.str [])]/\L'=L++[.spare m 1]) ass ⟨0,[],[],0,rfl,ao2 _,rfl,rfl,rfl,rfl,rfl⟩ ?_;rintro _ _ _ ⟨k,b,v,m,rfl,T,u,rfl,rfl,rfl,rfl⟩;replace u:=hid u;by_cases i:k<t.length;have R:(k:Int)<(t.length:Int):=aso;have W:=aoV k aso;have j:=hid (EG i);obtain⟨c,y⟩:=aoT (t.getD k 0);have Y:(u8s t).getD k .undef=.int .u8 c.toNat:=by simp[u8s,i,<- y]
 have N:k<(u8s t).length:=by simpa[u8s]using i
 rw[y]at j;have G:b.length<=k:=by rw[u.o];exact rN t k
 have f:∀A,A=bf b c->A=cN (t.take (k+1)):=λA e=>by rw[j.o,<- u.o];exact e
 have q:((c.toNat:Int)=32)↔c=32:=⟨λe=>aqS.1 (by have:(32:UInt8).toNat=32:=rfl;omega),λe=>by rw[e];rfl⟩;replace f:=hid f;replace q:=hid q;clear j u y;have F:(u8s b).length=b.length:=by simp[u8s]
 have rest:∀A,A=bf b c->A.length<=b.length+1:=λA e=>by rw[e];exact Vp b c
 clear rest;by_cases y:(c.toNat:Int)=32;rcases aq7 b with a|⟨d,x,a⟩;have H:(b.length:Int)=0:=by rw[a];rfl
 have B:=hid (f.o b (by rw[bf,if_pos ⟨q.o.1 y,by rw[a];rfl⟩]));clear a;refine wk ?_;exact ast aso ass ⟨k+1,b,_,_,rfl,i,B.o,rfl,rfl,rfl,rfl⟩;have H:¬(b.length:Int)=0:=by rw[a];simp;omega
 have B:IntKind.i64.wrap ((b.length:Int)-1)=(d.length:Int):=by rw[ae aso aso,a];simp
 have Q:(u8s b).getD d.length .undef=.int .u8 x.toNat:=by rw[a];simp[u8s,apo]
 have E:d.length<(u8s b).length:=by rw[a];simp[u8s]
 have P:(d.length:Int)<(b.length:Int):=by rw[a];simp;omega
 have g:x=32↔(x.toNat:Int)=32:=⟨λe=>by rw[e];rfl,λe=>aqS.1 (by have:(32:UInt8).toNat=32:=rfl;omega)⟩;have p:JI b=true↔x=32:=by rw[a];simp[JI]
 replace a:=hid a;replace g:=hid g;replace p:=hid p;by_cases C:(x.toNat:Int)=32;have D:=hid (f.o b (by rw[bf,if_pos ⟨q.o.1 y,p.o.2 (g.o.2 C)⟩]));refine wk ?_;exact ast aso ass ⟨k+1,b,_,_,rfl,i,D.o,rfl,rfl,rfl,rfl⟩;have D:=hid (f.o (b++[c]) (by rw[bf,if_neg λe=>C (g.o.1 (p.o.1 e.2))]));refine wk ?_;exact ast aso ass ⟨k+1,b++[c],_,_,rfl,i,D.o,(by rw[Yl,y]),asp,rfl,rfl⟩;have B:=hid (f.o (b++[c]) (by rw[bf,if_neg λe=>y (q.o.2 e.1)]));refine wk ?_;exact ast aso ass ⟨k+1,b++[c],_,_,rfl,i,B.o,(Yl b c).symm,asp,rfl,rfl⟩
 .have hke:k=t.length:=aso;subst hke;have R:¬(t.length:Int)<(t.length:Int):=aso;have G:b.length<=t.length:=(by rw[u.o];exact rN t _);have F:(u8s b).length=b.length:=(by simp[u8s]);have z:d8 b=b9 s:=(by rw[b9,J,u.o,apg]);have B:=ku b;have Q:=jq b;replace u:=hid z;clear z;rcases aq7 b with a|⟨d,x,a⟩;have H:¬(0:Int)<(b.length:Int):=(by rw[a];simp);have E:=hid (show b=b9 s by rw[<- u.o,a];rfl);clear a;refine wk ?_;refine ac rfl ?_;rw[E.o];exact h.o
  .have H:(0:Int)<(b.length:Int):=(by rw[a];simp;try omega);have E:IntKind.i64.wrap ((b.length:Int)-1)=(d.length:Int):=(by rw[ae aso aso,a];simp);have P:(u8s b).getD d.length .undef=.int .u8 x.toNat:=(by rw[a];simp[u8s,apo]);have D:d.length<(u8s b).length:=(by rw[a];simp[u8s]);have V:(d.length:Int)<(b.length:Int):=(by rw[a];simp;omega);have S:(u8s b).take d.length=u8s d:=(by rw[a];simp[u8s]);have M:(u8s d).length=d.length:=(by simp[u8s]);have U:=ku d;have X:=jq d;have g:x=32↔(x.toNat:Int)=32:=⟨λe=>by rw[e];rfl,λe=>aqS.1 (by have:(32:UInt8).toNat=32:=rfl;omega)⟩;have w:d8 b=if x=32 then d else b:=by rw[a];simp[d8]
   replace a:=hid a;replace w:=hid w;by_cases C:(x.toNat:Int)=32;have r:=hid (show d=b9 s by rw[<- u.o,w.o,if_pos (g.2 C)]);replace g:=hid g;refine wk ?_;refine ac rfl ?_;rw[r.o];exact h.o;have r:=hid (show b=b9 s by rw[<- u.o,w.o,if_neg λe=>C (g.1 e)]);replace g:=hid g;refine wk ?_;refine ac rfl ?_;rw[r.o];exact h.o
end Go.Proofs.YtdnfjhflkkpokaaGreatDoor.Av
set_option maxRecDepth 100000
namespace Go.Proofs.YtdnfjhflkkpokaaGreatDoor.Av
open Go
variable {s typ b:List UInt8}{ip:Nat}{cap:Option Nat}{bl:Bool}{d:UInt8}
def Xc:LSO:=[Af 2]
def Xb:LSO:=[Aa 5 0,BR 6 5,Aa 7 6,.grp none 7 false
 [Ag 8 7 0,Br 9 7 8,AC 10 7 9 32]
 11 (tm 10),Aa 12 11,.grp none 12 false
 [Ag 13 12 0,Cc 14 12 13 0,og 15 12 false (.conv .i32 (tm 14)),AM 16 12 174 15,AZ 17 12 16]
 18 (tm 17)]
def Xa:LSO:=[Af 2]
def W9:LSO:=[Aa 19 0,o1 20 (.rangeS (tm 19))]
def W8:LSO:=[o1 21 (.nextS (tm 20)),Ao 22 21]
def W7:LSO:=[Be 23 21,Aa 4 23]
def W6:LSO:=[Aa 24 4,Aj 25 174 24,A3 26 25,Aa 27 26,.grp none 27 true
 [Ae 28 27 4,og 29 27 true (.bin .lss (tm 28) (.av (.int .i32 48))),Ae 30 27 29,.grp (some (27,true)) 30 false
 [Ag 31 30 4,og 32 30 false (.bin .gtr (tm 31) (.av (.int .i32 57)))]
 33 (tm 32)]
 34 (tm 33),Aa 35 34,.grp none 35 true
 [Ae 36 35 4,og 37 35 true (.bin .neq (tm 36) (.av (.int .i32 45)))]
 38 (tm 37)]
def W5:LSO:=[Af 2]
def W4:LSO:=[A5 2]
def WJ:aK:=⟨39,(ash Xc [] (.seq (ash Xb CB (asj 18 (.sreg Xa []))) (.seq (ash W9 C4 (ask 0 (ash W8 [] (.seq (asl 22 0) (.block 1 (ash W7 C4 (ash W6 CC (asj 38 (.sreg W5 []))))))))) (ash W4 [] .ret)))),[(.tmp 2)]⟩
attribute [push_cast] Xc Xb Xa W9 W8 W7 W6 W5 W4
theorem acv:asm 120=asn WJ:=asq
def Rp:LSO:=[Af 2]
def Ro:LSO:=[Aa 3 0,o1 4 (.bin .geq (tm 3) (.av (.int .i32 97))),Aa 5 4,.grp none 5 true
 [Ae 6 5 0,og 7 5 true (.bin .leq (tm 6) (.av (.int .i32 122)))]
 8 (tm 7),Aa 9 8,.grp none 9 false
 [Ag 10 9 0,og 11 9 false (.bin .geq (tm 10) (.av (.int .i32 65))),Ag 12 9 11,.grp (some (9,false)) 12 true
 [Ae 13 12 0,og 14 12 true (.bin .leq (tm 13) (.av (.int .i32 90)))]
 15 (tm 14)]
 16 (tm 15),Aa 2 16]
def NZ:aK:=⟨17,(ash Rp [] (ash Ro CC .ret)),[(.tmp 2)]⟩
attribute [push_cast] Rp Ro
theorem Z7:asm 174=asn NZ:=asq
def YU:LSO:=[Ay 3 1,Af 4]
def YT:LSO:=[Aa 5 0,o1 6 (.mkfn 176 [(tm 3)]),Ar 7 175 5 6,Aa 4 7]
def Z8:aK:=⟨8,(ash YU [] (ash YT C7 .ret)),[(.tmp 4)]⟩
attribute [push_cast] YU YT
theorem ad6:asm 121=asn Z8:=asq
def Uv:LSO:=[Ay 2 0,Af 3]
def Uu:LSO:=[Ad 4 0 2,Ab 5 1 4,Aj 6 46 5,Ab 7 1 1,Aj 8 46 7,AH 9 6 8,Aa 3 9]
def SA:aK:=⟨10,(ash Uv [] (.seq (.sdreg Uu [.pure,(.read 0 0),(.read 0 0),(.read 0 0)] CC) .ret)),[(.tmp 3)]⟩
attribute [push_cast] Uv Uu
theorem aaG:asm 176=asn SA:=asq
def Ul:LSO:=[Aw 2,Aw 3,Af 4]
def Uk:LSO:=[Ak 5]
def Uj:LSO:=[Af 6]
def Ui:LSO:=[Ac 7 0]
def Uh:LSO:=[Aa 11 7,Aa 12 0,Ax 13 12,Al 14 11 13,Aa 15 14,.grp none 15 true
 [Ae 16 15 0,Ae 17 15 7,Bk 18 15 16 17,og 19 15 true (.bin .neq (tm 18) (.av (.int .u8 44)))]
 20 (tm 19),Aa 21 20,.grp none 21 true
 [Ae 22 21 0,Ae 23 21 7,Bk 24 21 22 23,og 25 21 true (.bin .neq (tm 24) (.av (.int .u8 43)))]
 26 (tm 25)]
def Ug:LSO:=[Aa 27 0,Aa 28 7,AK 29 27 28,Aa 8 29]
def Uf:LSO:=[Aa 30 8,o1 31 (.bin .eql (tm 30) (.av (.int .u8 32))),Aa 6 31]
def Ue:LSO:=[Aa 33 8,o1 34 (.bin .neq (tm 33) (.av (.int .u8 92))),Aa 32 34]
def Ud:LSO:=[Aa 35 8,BS 36 35,Aa 37 36,.grp none 37 false
 [Ag 38 37 8,og 39 37 false (.call 177 [(.av (.str [34,59,60,62])),(tm 38)]),BP 40 37 39 0]
 41 (tm 40),Aa 42 41,.grp none 42 false
 [Ag 43 42 5,AS 44 42 43,AI 45 42 44 0,Ag 46 42 45,.grp (some (42,false)) 46 true
 [Ae 47 46 8,B3 48 46 47,Ae 49 46 48,.grp (some (46,true)) 49 false
 [Ag 50 49 8,og 51 49 false (.bin .eql (tm 50) (.av (.int .u8 35)))]
 52 (tm 51)]
 53 (tm 52)]
 54 (tm 53)]
def Uc:LSO:=[Aw 2,Aw 3,Af 4]
def Rl:LSO:=[Aa 56 7,Ai 57 56 1,Aa 58 0,Ax 59 58,Al 60 57 59,Aa 61 60,.grp none 61 true
 [Ae 62 61 0,Ae 63 61 7,Cg 64 61 63 1,Bk 65 61 62 64,og 66 61 true (.call 177 [(.av (.str [34,43,44,59,60,62,92,32,35,61])),(tm 65)]),og 67 61 true (.bin .geq (tm 66) (iv 0))]
 68 (tm 67),Aa 55 68]
def Rk:LSO:=[Aa 69 7,Ai 70 69 1,Aa 7 70]
def Rj:LSO:=[Aa 71 0,Aa 72 7,AK 73 71 72,Aa 8 73]
def Ri:LSO:=[Aa 75 7,Ai 76 75 2,Aa 77 0,Ax 78 77,Al 79 76 78,Aa 74 79]
def Rh:LSO:=[Aa 81 0,Aa 82 7,Ai 83 82 1,Aa 84 7,Ai 85 84 3,Ch 86 81 83 85,Aj 87 178 86,Aa 80 87,Ao 88 80,Aq 89 80,Aa 9 88,Aa 10 89]
def Rg:LSO:=[Aa 90 10,A3 91 90]
def Rf:LSO:=[Aw 2,Aw 3,Af 4]
def Re:LSO:=[Aa 92 9,BO 93 92 0,Aa 8 93]
def Rc:LSO:=[Aa 94 7,Ai 95 94 2,Aa 7 95]
def Rb:LSO:=[Aw 2,Aw 3,Af 4]
def Ra:LSO:=[Aa 96 5,Aa 97 8,Bc 98 97,AX 99 96 98,Aa 5 99]
def Q9:LSO:=[Aa 100 7,Ai 101 100 1,Aa 7 101]
def Q8:LSO:=[Aa 102 5,Bg 103 102,Aa 104 0,Aa 105 7,BQ 106 104 105,Aa 107 6,A3 108 107,Aa 2 103,Aa 3 106,Aa 4 108]
def Sz:aK:=⟨109,(ash Ul [] (ash Uk [] (ash Uj [] (ash Ui [] (.seq (ask 0 (.seq (ash Uh CE (asl 26 0)) (.block 1 (ash Ug C7 (ash Uf C6 (.seq (.block 2 (ash Ue C6 (asi 32 (ash Ud CB (asj 54 (.sreg Uc []))) (ash Rl CE (asi 55 (ash Rk C6 (.sreg Rj C7)) (ash Ri CB (asi 74 (ash Rh CW (.seq (ash Rg C4 (asj 91 (.sreg Rf []))) (ash Re C6 (.sreg Rc C6)))) (ash Rb [] .ret)))))))) (ash Ra CA (.sreg Q9 C6)))))))) (.seq (.sdreg Q8 [.pure,(.read 0 0),.pure,.pure,(.read 0 0),.pure,.pure,.pure,.pure] [true,true,true,false,false,false,false,false,false,false]) .ret)))))),[(.tmp 2),(.tmp 3),(.tmp 4)]⟩
attribute [push_cast] Ul Uk Uj Ui Uh Ug Uf Ue Ud Uc Rl Rk Rj Ri Rh Rg Rf Re Rc Rb Ra Q9 Q8
theorem aaF:asm 122=asn Sz:=asq
def U6:LSO:=[Ak 2,Ac 3 0]
def U5:LSO:=[Aa 10 0,Ax 11 10,A7 12 11 4096]
def U4:LSO:=[Ak 2,Ac 3 5]
def U3:LSO:=[Aa 13 0,BR 14 13]
def U2:LSO:=[Ak 2,Ac 3 0]
def U1:LSO:=[Ak 4]
def U0:LSO:=[Ak 5]
def UZ:LSO:=[Aa 15 4,Ah 16 15,An 17 16 32,Aa 18 17,.grp none 18 false
 [Ag 19 18 5,AS 20 18 19,AI 21 18 20 8]
 22 (tm 21)]
def UY:LSO:=[Ak 2,Ac 3 9]
def UX:LSO:=[Aa 24 0,o1 25 (.call 119 [(tm 24),(.av (.str [61]))]),Aa 23 25,Ao 26 23,Aq 27 23,Be 28 23,Aa 6 26,Aa 7 27,Aa 8 28]
def RW:LSO:=[Aa 29 8,A3 30 29,Aa 31 30,.grp none 31 false
 [Ag 32 31 6,AM 33 31 120 32,AZ 34 31 33]
 35 (tm 34)]
def RV:LSO:=[Ak 2,Ac 3 4]
def RU:LSO:=[Aa 36 5,Aa 37 6,Ar 38 121 36 37]
def RT:LSO:=[Ak 2,Ac 3 21]
def RS:LSO:=[Aa 40 7,Aj 41 122 40,Aa 39 41,Ao 42 39,Aq 43 39,Be 44 39,Aa 9 42,Aa 7 43,Aa 8 44]
def RR:LSO:=[Aa 45 8,A3 46 45]
def RQ:LSO:=[Ak 2,Ac 3 4]
def RP:LSO:=[Aa 47 5,Aa 48 6,Aa 49 9,o1 50 (.build [(.str []),(.str [])] [(0,(1,(tm 48))),(1,(1,(tm 49)))]),B9 51 50,BA 52 47 51,Aa 5 52]
def RO:LSO:=[Aa 53 7,BR 54 53]
def RN:LSO:=[Aa 55 4,Aa 56 5,Bl 57 56,Bh 58 55 57,Aa 2 58,Ac 3 0]
def RM:LSO:=[Aa 59 7,BO 60 59 0,o1 61 (.bin .eql (tm 60) (.av (.int .u8 44)))]
def RL:LSO:=[Aa 62 4,Aa 63 5,Bl 64 63,Bh 65 62 64,Aa 4 65,Ak 5]
def RK:LSO:=[Aa 66 7,o1 67 (.slS (tm 66) (some (iv 1)) none),Aa 0 67]
def SF:aK:=⟨68,(ash U6 [] (.seq (ash U5 C6 (asj 12 (.sreg U4 []))) (.seq (ash U3 C4 (asj 14 (.sreg U2 []))) (ash U1 [] (ash U0 [] (ask 0 (.block 1 (.seq (ash UZ CA (asj 22 (.sreg UY []))) (ash UX Dc (.seq (ash RW C7 (asj 35 (.sreg RV []))) (.seq (ash RU C6 (asj 38 (.sreg RT []))) (ash RS Dc (.seq (ash RR C4 (asj 46 (.sreg RQ []))) (ash RP CC (.seq (ash RO C4 (asj 54 (.sreg RN CP))) (.seq (ash RM C6 (asi 61 (.sreg RL CP) .skip)) (.sreg RK C6))))))))))))))))),[(.tmp 2),(.tmp 3)]⟩
attribute [push_cast] U6 U5 U4 U3 U2 U1 U0 UZ UY UX RW RV RU RT RS RR RQ RP RO RN RM RL RK
theorem aaJ:asm 77=asn SF:=asq
def No:LSO:=[Aw 2]
def Nn:LSO:=[Ak 3]
def Nm:LSO:=[Aa 7 0,o1 8 (.s2b (tm 7)),Ah 9 8,Ac 10 0]
def Nl:LSO:=[Al 11 10 9]
def Nk:LSO:=[Aa 12 10,Am 13 1 8 10,Ab 14 1 13,Aa 4 12,Aa 5 14]
def Nj:LSO:=[Aa 15 4,An 16 15 0,Aa 17 16,.grp none 17 true
 [Ae 18 17 5,B3 19 17 18,Ae 20 17 19,.grp (some (17,true)) 20 false
 [Ag 21 20 5,og 22 20 false (.bin .eql (tm 21) (.av (.int .u8 35)))]
 23 (tm 22)]
 24 (tm 23),Aa 25 24,.grp none 25 false
 [Ag 26 25 4,Ag 27 25 0,Br 28 25 27,Ci 29 25 28 1,BB 30 25 26 29,Ag 31 25 30,.grp (some (25,false)) 31 true
 [Ae 32 31 5,B3 33 31 32]
 34 (tm 33)]
 35 (tm 34),Aa 6 35]
def Ni:LSO:=[Aa 37 5,BS 38 37,Aa 36 38]
def Nh:LSO:=[Aa 39 3,o1 40 (.app 1 1 1 [(.int .u8 0)] (tm 39) (.av (.str [92,48,48]))),Aa 3 40]
def Ng:LSO:=[Aa 42 6,Aa 43 42,.grp none 43 false
 [Ag 44 43 5,og 45 43 false (.call 177 [(.av (.str [34,43,44,59,60,62,92])),(tm 44)]),BP 46 43 45 0]
 47 (tm 46),Aa 41 47]
def Nf:LSO:=[Aa 48 3,o1 49 (.bslice false 1 1 [(.int .u8 0)] [(0,(1,(.av (.int .u8 92))))]),AX 50 48 49,Aa 3 50]
def JC:LSO:=[Aa 51 3,Aa 52 5,Bc 53 52,AX 54 51 53,Aa 3 54]
def JB:LSO:=[Ai 55 10 1,Aa 10 55]
def JA:LSO:=[Aa 56 3,Bg 57 56,Aa 2 57]
def Fm:aK:=⟨58,(ash No [] (ash Nn [] (.seq (ash Nm CJ (ask 0 (ash Nl [] (.seq (asl 11 0) (.seq (.block 1 (ash Nk CF (ash Nj CC (.seq (.block 2 (ash Ni C6 (asi 36 (ash Nh C6 (.exit 1)) (ash Ng C7 (asi 41 (.sreg Nf C7) .skip))))) (.sreg JC CA))))) (.sreg JB C4)))))) (ash JA C6 .ret)))),[(.tmp 2)]⟩
attribute [push_cast] No Nn Nm Nl Nk Nj Ni Nh Ng Nf JC JB JA
theorem Yj:asm 131=asn Fm:=asq
def UF:LSO:=[Ac 2 0]
def UE:LSO:=[Aa 7 0,Ah 8 7,Ac 9 0]
def UD:LSO:=[Al 10 9 8]
def UC:LSO:=[Aa 11 9,Am 12 1 7 9,Ab 13 1 12,Aa 3 11,Aa 4 13]
def UB:LSO:=[Aa 15 3,An 16 15 32,Aa 14 16]
def UA:LSO:=[Ac 2 9]
def Uz:LSO:=[Aa 18 4,Ah 19 18,An 20 19 0,Aa 17 20]
def Uy:LSO:=[Ac 2 2]
def Ux:LSO:=[Aa 21 4,Ah 22 21,Ac 23 0]
def Uw:LSO:=[Al 24 23 22]
def Rz:LSO:=[Aa 25 23,Am 26 2 21 23,As 27 2 26,Bm 6,Aa 5 25,Ap 2 6 27]
def Ry:LSO:=[Aa 29 5,An 30 29 8,Aa 28 30]
def Rx:LSO:=[Ac 2 9]
def Rw:LSO:=[Ad 32 0 6,Ab 33 1 32,Aj 34 120 33,A3 35 34,Aa 31 35]
def Rv:LSO:=[Ac 2 20]
def Ru:LSO:=[Aa 37 4,Aa 38 5,Cj 39 37 38,Ad 40 0 6,Ab 41 1 40,Ar 42 121 39 41,Aa 36 42]
def Rt:LSO:=[Ac 2 21]
def Rs:LSO:=[Ai 43 23 1,Aa 23 43]
def Rr:LSO:=[Ai 44 9 1,Aa 9 44]
def Rq:LSO:=[Ac 2 0]
def SC:aK:=⟨45,(ash UF [] (.seq (ash UE [] (ask 0 (ash UD [] (.seq (asl 10 0) (.seq (.block 1 (ash UC CF (.seq (.block 2 (ash UB C6 (asi 14 (ash UA [] .ret) (ash Uz C7 (asj 17 (.sreg Uy [])))))) (ash Ux [] (ask 3 (ash Uw [] (.seq (asl 24 3) (.seq (.block 4 (ash Rz CF (.block 5 (ash Ry C6 (asi 28 (ash Rx [] .ret) (ash Rw CA (asi 31 (ash Rv [] .ret) (.seq (.sdreg Ru [.pure,.pure,(.read 0 0),.pure,(.read 0 0)] CC) (asj 36 (.sreg Rt [])))))))))) (.sreg Rs C4))))))))) (.sreg Rr C4)))))) (ash Rq [] .ret))),[(.tmp 2)]⟩
attribute [push_cast] UF UE UD UC UB UA Uz Uy Ux Uw Rz Ry Rx Rw Rv Ru Rt Rs Rr Rq
theorem aaH:asm 84=asn SC:=asq
def UW:LSO:=[Aw 2,Ac 3 0]
def UV:LSO:=[Aa 11 0,Aj 12 84 11,Aa 4 12]
def UU:LSO:=[Aa 13 4,AB 14 13 0]
def UT:LSO:=[Aa 15 4,Aw 2,Aa 3 15]
def UR:LSO:=[Ac 5 0]
def UQ:LSO:=[Aa 16 0,Ah 17 16,Ac 18 0]
def UP:LSO:=[Al 19 18 17]
def UO:LSO:=[Am 20 1 16 18,Ab 21 1 20,Aa 7 21]
def UN:LSO:=[Aa 22 7,Ah 23 22,Ac 24 0]
def UM:LSO:=[Al 25 24 23]
def RJ:LSO:=[Am 26 2 22 24,As 27 2 26,Bm 9,Ap 2 9 27]
def RI:LSO:=[Ad 28 1 9,Ab 29 1 28,Ax 30 29,A7 31 30 4096]
def RH:LSO:=[Aw 2,Ac 3 5]
def RG:LSO:=[Aa 32 5,Ai 33 32 1,Aa 5 33]
def RF:LSO:=[Ai 34 24 1,Aa 24 34]
def RE:LSO:=[Ai 35 18 1,Aa 18 35]
def RD:LSO:=[Aa 36 0,o1 37 (.call 85 [(tm 36),(.av (.bool false))]),Aa 10 37]
def RC:LSO:=[Aa 38 10,Ax 39 38,A7 40 39 4096]
def RB:LSO:=[Aw 2,Ac 3 5]
def RA:LSO:=[Aa 41 10,Aa 2 41,Ac 3 0]
def SD:aK:=⟨42,(ash UW [] (.seq (ash UV C6 (ash UU C4 (asj 14 (.sreg UT CD)))) (ash UR [] (.seq (ash UQ [] (ask 0 (ash UP [] (.seq (asl 19 0) (.seq (.block 1 (ash UO C6 (ash UN [] (ask 2 (ash UM [] (.seq (asl 25 2) (.seq (.block 3 (ash RJ C6 (.seq (ash RI C7 (asj 31 (.sreg RH []))) (.sreg RG C6)))) (.sreg RF C4)))))))) (.sreg RE C4)))))) (ash RD C6 (.seq (ash RC C6 (asj 40 (.sreg RB []))) (ash RA CD .ret))))))),[(.tmp 2),(.tmp 3)]⟩
attribute [push_cast] UW UV UU UT UR UQ UP UO UN UM RJ RI RH RG RF RE RD RC RB RA
theorem aaI:asm 36=asn SD:=asq
def Xh:LSO:=[Aw 2,Ac 3 0]
def Xg:LSO:=[Aa 7 0,Aj 8 36 7,Aa 6 8,Ao 9 6,Aq 10 6,Aa 4 9,Aa 5 10]
def Xf:LSO:=[Aa 11 5,AB 12 11 0]
def Xe:LSO:=[Aa 13 5,Aw 2,Aa 3 13]
def Xd:LSO:=[Aa 14 0,o1 15 (.call 85 [(tm 14),(.av (.bool true))]),Aa 2 15,Ac 3 0]
def WK:aK:=⟨16,(ash Xh [] (.seq (ash Xg CC (ash Xf C4 (asj 12 (.sreg Xe CD)))) (ash Xd CM .ret))),[(.tmp 2),(.tmp 3)]⟩
attribute [push_cast] Xh Xg Xf Xe Xd
theorem acw:asm 58=asn WK:=asq
def YZ:LSO:=[Aw 2,Ac 3 0]
def YY:LSO:=[Aa 7 0,Aj 8 77 7,Aa 6 8,Ao 9 6,Aq 10 6,Aa 4 9,Aa 5 10]
def YX:LSO:=[Aa 11 5,AB 12 11 0]
def YW:LSO:=[Aa 13 5,Aw 2,Aa 3 13]
def YV:LSO:=[Aa 14 4,Aj 15 58 14,Ao 16 15,Aq 17 15,Aa 2 16,Aa 3 17]
def Z9:aK:=⟨18,(ash YZ [] (ash YY CH (.seq (ash YX C4 (asj 12 (.sreg YW CD))) (ash YV CP .ret)))),[(.tmp 2),(.tmp 3)]⟩
attribute [push_cast] YZ YY YX YW YV
theorem ad7:asm 109=asn Z9:=asq
def dL:LSO:=[Af 4]
def dK:LSO:=[Aa 5 0,Aa 6 1,Ar 7 204 5 6,AL 8 7 0,Aa 4 8]
def cW:aK:=⟨9,(ash dL [] (ash dK CA .ret)),[(.tmp 4)]⟩
attribute [push_cast] dL dK
theorem iM:asm 175=asn cW:=asq
def eu:LSO:=[Ac 4 0]
def eo:LSO:=[Aa 6 0,Ah 7 6,Ac 8 0]
def em:LSO:=[Al 9 8 7]
def ek:LSO:=[Aa 10 8,Aa 5 10]
def eh:LSO:=[Aa 11 1,Aa 12 0,Aa 13 5,Am 14 2 12 13,As 15 2 14,B0 16 11 15]
def ef:LSO:=[Aa 17 5,Aa 4 17]
def ee:LSO:=[Ai 18 8 1,Aa 8 18]
def ed:LSO:=[Ac 4 (-1)]
def du:aK:=⟨19,(ash eu [] (.seq (ash eo CD (ask 0 (ash em [] (.seq (asl 9 0) (.seq (.block 1 (ash ek C4 (ash eh CB (asj 16 (.sreg ef C4))))) (.sreg ee C4)))))) (ash ed [] .ret))),[(.tmp 4)]⟩
attribute [push_cast] eu eo em ek eh ef ee ed
theorem jg:asm 204=asn du:=asq
def FP:LSO:=[Aw 4,Aw 5,Af 6]
def FO:LSO:=[Aa 7 0,Aa 8 1,Ar 9 173 7 8,Ao 10 9,Aq 11 9,Be 12 9,Aa 4 10,Aa 5 11,Aa 6 12]
def jv:aK:=⟨13,(ash FP [] (ash FO Dc .ret)),[(.tmp 4),(.tmp 5),(.tmp 6)]⟩
attribute [push_cast] FP FO
theorem Es:asm 119=asn jv:=asq
def iA:LSO:=[Aw 4,Aw 5,Af 6]
def iz:LSO:=[Aa 8 0,Aa 9 1,Ar 10 168 8 9,Aa 7 10]
def iy:LSO:=[Aa 11 7,AL 12 11 0]
def ix:LSO:=[Aa 13 0,Aa 14 7,o1 15 (.slS (tm 13) none (some (tm 14))),Aa 16 0,Aa 17 7,Aa 18 1,Ax 19 18,AU 20 17 19,BQ 21 16 20,Aa 4 15,Aa 5 21,A5 6]
def iw:LSO:=[Aa 22 0,Aa 4 22,Aw 5,Af 6]
def cS:aK:=⟨23,(ash iA [] (.seq (ash iz C7 (ash iy C4 (asj 12 (.sdreg ix [.pure,.pure,(.read 0 0),.pure,.pure,.pure,(.read 0 0),.pure,(.read 0 0),.pure] Dk)))) (ash iw CJ .ret))),[(.tmp 4),(.tmp 5),(.tmp 6)]⟩
attribute [push_cast] iA iz iy ix iw
theorem gW:asm 173=asn cS:=asq
attribute [push_cast] NZ Z8 Sz Fm SC SD WK Z9 cW du jv
set_option maxHeartbeats 8000000
set_option maxRecDepth 100000
theorem YD{n:Int}(b : -2147483648<=n)(a:n<2147483648):IntKind.i32.wrap n=n:=by simp only[IntKind.wrap,IntKind.bits,IntKind.signed];simp;omega
theorem ZI{p:Nat}(h:p<s.length)(a:(s.getD p 0).toNat<128):XY s p=((s.getD p 0).toNat,1):=by
 have e:s.getD p 0=s[p]:=by simp[h]
 rw[e]at a⊢;exact decode_ascii ⟨⟨s⟩⟩ p h a
theorem abr{p:Nat}(h:p<s.length)(a:128<=(s.getD p 0).toNat):128<=(XY s p).1:=by
 have e:s.getD p 0=s[p]:=by simp[h]
 rw[e]at a;exact(decode_high ⟨⟨s⟩⟩ p h a).1
def o3(x:Int):Bool:=(decide (97<=x)&&decide (x<=122)) ||(decide (65<=x)&&decide (x<=90))
theorem oY{x:Int}{L:List Blk}{K:aoY}(h:K (.bool (o3 x)) L):aoX 174 [.int .i32 x] L K:=by
 refine aoW Z7 ?_
 all_goals (first|refine ac rfl (Kto h ?_)|refine aa (Kto h ?_)|refine ac (by simp only[AV.refs,AV.refsL, *];rfl) (Kto h ?_)|refine aY (ac rfl (Kto h ?_))|(trace_state;fail))
 all_goals (first|(simp[o3, *];done)|(simp[o3, *];omega)|(simp[o3, *];intros;omega)|(simp_all[Hid,o3];done)|(simp_all[Hid,o3];omega))
def SY(x:Int):Bool:=o3 x ||(decide (48<=x)&&decide (x<=57)) ||decide (x=45)
def jE(s:List UInt8):Bool:=decide (1<=s.length)&&decide (s.length<=32)&&o3 ((s.getD 0 0).toNat:Int)&&s.all λc=>SY (c.toNat:Int)
theorem aaU{x:Int}(h:128<=x):SY x=false:=by simp only[SY,o3,arm,arA,decide_eq_false_iff_not];omega
theorem abJ{s:List UInt8}{L:List Blk}{K:aoY}(h:K (.bool (jE s)) L):aoX 120 [.str s] L K:=by
 have no:jE s=false->K (.bool false) L:=λe=>by rw[<- e];exact h
 replace no:=hid no;replace h:=hid h;refine ab acv (by simp[WJ]) ?_;simp only[WJ,ag];by_cases B:s=[];subst B;refine wk ?_;exact aa (no.o rfl);have z:0<s.length:=apQ.2 B;by_cases I:(32:Int)<(s.length:Int);refine wk ?_;exact aa (no.o (by simp[jE];omega));obtain⟨c0,l⟩:=aoT (s.getD 0 0);have y:=c0.toNat_lt;have w0:IntKind.i32.wrap (c0.toNat:Int)=(c0.toNat:Int):=YD aso aso;cases hl0:o3 (c0.toNat:Int)with
 | false =>
   have kk1:=@hid _ @oY;refine wk ?_;refine aa (no.o ?_);simp only[jE,l,hl0,ary,apO]
 | true =>
   have kk1:=@hid _ @oY;refine wk ?_;refine ak (λn T' L'=>∃p,n=s.length-p/\p<=s.length/\Hid (∀c∈s.take p,SY (c.toNat:Int)=true)/\T'=[(20,.ptr L.length 0)]/\L'=L++[.siter s p]) ass ⟨0,rfl,ao2 _,hid asp,rfl,rfl⟩ ?_;rintro _ _ _ ⟨p,rfl,D,b,rfl,rfl⟩;by_cases a:p<s.length
   .obtain⟨c,hc⟩:=aoT (s.getD p 0);have f:c∈s:=(by rw[<- hc];simp[a]);have j:s.take (p+1)=s.take p++[c]:=(by rw[aph a,<- hc];simp[a]);replace j:=hid j;have g:SY (c.toNat:Int)=false->K (.bool false) L:=λe=>no.o (by have:(s.all λc=>SY (c.toNat:Int))=false:=List.all_eq_false.2 ⟨c,f,by rw[e];simp⟩;simp only[jE,this,ary])
    replace g:=hid g;by_cases A:c.toNat<128
    .have u:=ZI a (by rw[hc];exact A);rw[hc]at u;obtain⟨x,v⟩:∃x:Nat,c.toNat=x:=⟨_,rfl⟩;rw[v]at u g;have r:=hid v;clear v hc f A y w0;cases k:o3 (x:Int)with
     | true =>
       have kk1:=@hid _ @oY;refine wk ?_;refine ast aso ass ⟨p+1,rfl,a,hid λd i=>?_,rfl,rfl⟩;rw[j.o]at i;rcases ao5.1 i with h|h
       .exact b.o d h
       .rw[apr.1 h,r.o,SY,k];rfl
     | false =>
       repeat' first
        |refine bH ?_
        | (first|refine bv asq ?_|refine aP asq ?_|refine aS ?_|refine cT ?_|refine bJ (fun _=>?_)|refine aH ?_|refine bz ?_|refine oY ?_|refine bg (oY ⟨rfl,rfl⟩) (oY ⟨rfl,rfl⟩) ?_|refine aM (oY ⟨rfl,rfl⟩) ?_)
          refine sm ?_
        | (first|refine bp asq ?_|refine bm ?_|refine aR ?_|refine bw ?_|refine bP (aG ?_))
          refine sl ?_
        |exact bL
        |first|apply bM|apply bq|apply bN|apply br|apply bO|apply bu
        |refine aV ?_
        |refine aQ ?_
        |first|refine aT rfl ?_|refine aU rfl ?_|refine aB rfl ?_ ?_|refine aX rfl (λ_=>?_) (λ_=>?_)|refine aW rfl (λ_=>?_) (λ_=>?_)
        |((first|refine aA (λ_=>?_) (λ_=>?_)|refine aE (λ_=>?_) (λ_=>?_))<;>try refine sm ?_)
        |refine And.intro trivial ?_
        |refine And.intro aso ?_
        |refine be rfl (λ_=>?_) (λ_=>?_)
        |refine And.intro ?_ ?_
       .rename_i hb;refine ac rfl (g.o ?_);simp only[SY,k,aqg,arm,arA,decide_eq_false_iff_not];omega
       .rename_i hb;refine ast aso ass ⟨p+1,rfl,a,hid λd i=>?_,rfl,rfl⟩;rw[j.o]at i;rcases ao5.1 i with h|h
        .exact b.o d h
        .rw[apr.1 h,r.o];simp only[SY,k,aqg,apN,ao3,decide_eq_true_eq];omega
    .have hh:=abr a (by rw[hc];omega);obtain⟨⟨x,H⟩,u⟩:∃q,XY s p=q:=⟨_,rfl⟩;rw[u]at hh;simp only at hh;have m:=hid (g.o (aaU (show(128:Int)<=(c.toNat:Int)by omega)));have k:o3 (x:Int)=false:=by have:=aaU (show(128:Int)<=(x:Int)by omega);simp only[SY,arm]at this;exact this.1.1
     have G:¬(x:Int)<48:=aso;have F:(57:Int)<(x:Int):=aso;have E:¬(x:Int)=45:=aso;clear hc f y w0;have kk1:=@hid _ @oY;refine wk ?_;exact ac rfl m.o
   .have hke:p=s.length:=aso;subst hke;have t:=h.o;have e:jE s=true:=by
     have C:(s.all λc=>SY (c.toNat:Int))=true:=apa.2 λc w=>b.o c (by rw[apg];exact w)
     simp only[jE,C,l,hl0,arh];simp;omega
    rw[e]at t;replace t:=hid t;clear e;refine wk ?_;exact ac rfl t.o
variable {L:List Blk}{K:aoY}
abbrev Ava:=List UInt8×List UInt8
variable {r:List Ava}
def pu(a:Ava):List AV:=[.str a.1,.str a.2]
def bd(r:List Ava):List AV:=r.flatMap pu
abbrev aeH(r:List Ava)(cap:Option Nat):AV:=.sl (bd r) r.length cap
def lX(r:List Ava)(typ:List UInt8):Bool:=r.any λa=>decide (aj a.1=aj typ)
theorem am8{a:Ava}(e:(a.1.length:Int)<=100000)(d:(typ.length:Int)<=100000)(c:L[ip]?=some (.cells [.str typ]))(h:K (.bool (decide (aj a.1=aj typ))) L):
  aoX 176 [.agg (pu a),.ptr ip 0] L K:=by
 obtain⟨t,v⟩:=a;replace h:=hid h;have b:ip<L.length:=(aoZ.1 c).1;have g1:(L++[Blk.cells [.str t,.str v]])[ip]?=some (.cells [.str typ]):=by rw[ao4 b];exact c
 simp only[pu];refine ab aaG (by simp[SA]) ?_;simp only[SA,ag];have kk1:=@asv _ _ _ _ (NC e);have kk2:=@asv _ _ _ _ (NC d);refine wk ?_;exact ac rfl h.o
theorem dm(r:List Ava):(bd r).length=r.length*2:=by
 induction r with
 |nil=>rfl
 |cons a r ih=>simp only[bd,apD,apd,pu,apb,apJ]at ih⊢;omega
theorem gS:∀{r:List Ava}{k:Nat},k<r.length->((bd r).drop (k*2)).take 2=pu (r.getD k ([],[]))
 |a::r,0,_=>rfl
 |a::r,k+1,h=>by have b:=@gS r k (by simpa using h);rw[show(k+1)*2=k*2+1+1 by omega];simpa[bd,pu]using b
theorem ajt(A:r.length<=100000)(u:∀a∈r,(a.1.length:Int)<=100000)(w:(typ.length:Int)<=100000)(y:L[ip]?=some (.cells [.str typ]))(h:lX r typ=false->K (.int .i64 (-1)) L)(f:∀k:Nat,lX r typ=true->K (.int .i64 k) L):aoX 204 [aeH r cap,.func 176 [.ptr ip 0]] L K:=by
 replace h:=hid h;replace f:=hid f;replace u:=hid u;refine aoW jg ?_;refine ak (λn T' L'=>∃(k:Nat),n=r.length-k/\k<=r.length/\Hid (lX (r.take k) typ=false)/\T'=[(8,.int .i64 (k:Int)),(7,.int .i64 r.length),(0,aeH r cap),(1,.func 176 [.ptr ip 0])]/\L=L') (CutS (b:=ao0 _)) ⟨0,rfl,ao2 _,hid rfl,rfl,rfl⟩ ?_;rintro _ _ _ ⟨k,rfl,z,v,rfl,rfl⟩;by_cases d:k<r.length;have g1:(k:Int)<(r.length:Int):=aso;have B:=aoV k aso;have x:=gS d;have C:k*2+2<=(bd r).length:=by rw[dm];omega
 obtain⟨a,m⟩:=aoT (r.getD k ([],[]));have j:a∈r:=by rw[<- m];simp[d]
 have g:r.take (k+1)=r.take k++[a]:=by rw[aph d,<- m];simp[d]
 rw[m]at x;have p:lX (r.take (k+1)) typ=decide (aj a.1=aj typ):=by have:=v.o;simp only[lX]at this⊢;rw[g,arB,this];simp
 have c:decide (aj a.1=aj typ)=true->lX r typ=true:=λe=>aqz.2 ⟨a,j,e⟩
 replace c:=hid c;replace p:=hid p;replace g:=hid g;have s:=hid (u.o a j);clear m j;refine wk ?_;refine am8 s.o w y ?_;refine sk ?_;cases l:decide (aj a.1=aj typ)with
 | true =>
   have t:=hid (f.o k (c.o l));replace l:=hid l;refine wk ?_;exact aa t.o
 | false =>
   replace l:=hid l;refine wk ?_;exact ast aso (CutS (b:=ao0 _)) ⟨k+1,rfl,d,hid (by rw[p.o,l.o]),rfl,rfl⟩
 have q:k=r.length:=aso;subst q;have g1:¬(r.length:Int)<(r.length:Int):=aso;have i:=v.o;rw[apg]at i;have t:=hid (h.o i);clear i;refine wk ?_;exact aa t.o
theorem ad3(c:r.length<=100000)(i:∀a∈r,(a.1.length:Int)<=100000)(d:(typ.length:Int)<=100000)(f:L[ip]?=some (.cells [.str typ]))(h:K (.bool (lX r typ)) L):
  aoX 175 [aeH r cap,.func 176 [.ptr ip 0]] L K:=by
 replace h:=hid h;refine aoW iM ?_;refine ajt c i d f (λe=>?_) (λk e=>?_);have b:=h.o;rw[e]at b;replace b:=hid b;refine asw ?_;exact aa b.o;have b:=h.o;rw[e]at b;replace b:=hid b;have g:(0:Int)<=(k:Int):=aso;refine asw ?_;exact aa b.o
theorem amp(d:r.length<=100000)(c:∀a∈r,(a.1.length:Int)<=100000)(b:(typ.length:Int)<=100000)(h:K (.bool (lX r typ)) L):
  aoX 121 [aeH r cap,.str typ] L K:=by
 replace h:=hid h;refine aoW ad6 ?_;refine ad3 d c b asp ?_;refine asw ?_;exact ac rfl h.o
theorem iD{a:List UInt8}{c:UInt8}{L:List Blk}{K:aoY}(h:K (.int .i64 (Lib.indexByte a c)) L):aoX 177 [.str a,.int .u8 c.toNat] L K :=
 dD Tryz.func177 rfl asq (λw0 S0 E w vs g b=>by simp only[VRL,VR]at b;obtain⟨_,_,rfl,rfl,_,_,rfl,rfl,rfl⟩:=b;exact(Tryz.strings_IndexByte ⟨⟨a⟩⟩ c.toNat w).mono λe w' ⟨f,d⟩=>⟨_,f,by simp[VR],by subst d;exact EA.refl _⟩) h
theorem rO(a:List UInt8)(c:UInt8):(0<=Lib.indexByte a c)↔c∈a:=by
 induction a with
 |nil=>simp[Lib.indexByte]
 | cons b l ih =>
   have e:=Lib.indexByte_ge l c;unfold Lib.indexByte;by_cases d:b=c
   .simp[d]
   .have e1:(b == c)=false:=(by simpa using d);rw[e1];simp only[apj,if_false];have f:c∈b::l↔c∈l:=(by simp[Ne.symm d]);rw[f,<- ih];split
    .rename_i h;simp at h;omega
    .rename_i h;simp at h;omega
theorem bQ(c d:UInt8):(c.toNat:Int)=(d.toNat:Int)↔c=d:=by constructor;intro h;exact aqS.1 aso;rintro rfl;rfl
def wrB(i n:Nat)(c:UInt8):List UInt8 :=
 if c=0 then[92,48,48]else if(i=0/\(c=32\/c=35))\/(i+1=n/\c=32)\/c∈[34,43,44,59,60,62,92]then[92,c]else[c]
def wrL(n:Nat):Nat->List UInt8->List UInt8
 |_,[]=>[]
 |i,c::s=>wrB i n c++wrL n (i+1) s
def gU(s:List UInt8):List UInt8:=wrL s.length 0 s
theorem akF(i n:Nat)(c:UInt8):(wrB i n c).length<=3:=by unfold wrB;split;simp;split<;>simp
theorem iI(z:s.length<=100000)(h:K (.str (gU s)) L):aoX 131 [.str s] L K:=by
 replace h:=hid h;have C:IntKind.i64.wrap ((s.length:Int)-1)=(s.length:Int)-1:=ae aso aso;refine aoW Yj ?_;refine bR (l:=[]) (n:=0) 3 1 rfl (aps 1).symm ?_;refine ak (λn T' L'=>∃(i m:Nat) (b:List UInt8),n=s.length-i/\i<=s.length/\m<=3*i/\Hid (m=b.length/\b++wrL s.length i (s.drop i)=gU s)/\T'=[(10,.int .i64 (i:Int)),(9,.int .i64 s.length),(8,.sl (u8s s) s.length none),(3,.gsl (u8s b) m L.length 1),(0,.str s)]/\L'=L++[.spare m 1]) ass ⟨0,0,[],rfl,ao2 _,aso,hid ⟨rfl,rfl⟩,rfl,rfl⟩ ?_;rintro _ _ _ ⟨i,m,b,rfl,y,x,q,rfl,rfl⟩;by_cases d:i<s.length
 .have g1:(i:Int)<(s.length:Int):=aso;have A:=aoV i aso;obtain⟨c,u⟩:=aoT (s.getD i 0);have g3:(u8s s).getD i .undef=.int .u8 c.toNat:=(by rw[<- u];simp[u8s,d]);have p:s.drop i=c::s.drop (i+1):=(by rw[apw d,<- u];simp[d]);have a:=q.o.2;rw[p]at a;simp only[wrL]at a;have g4:=ku;have B:(u8s s).length=s.length:=(by simp[u8s]);clear u p;replace a:=hid a
  repeat' first
   |refine bH ?_
   | (first|refine bv asq ?_|refine aP asq ?_|refine aS ?_|refine cT ?_|refine bJ (fun _=>?_)|refine aH ?_|refine bz ?_|refine iD ?_|refine bg (iD ⟨rfl,rfl⟩) (iD ⟨rfl,rfl⟩) ?_|refine aM (iD ⟨rfl,rfl⟩) ?_)
     refine sm ?_
   | (first|refine bp asq ?_|refine bm ?_|refine aR ?_|refine bw ?_|refine bP (aG ?_))
     refine sl ?_
   |exact bL
   |first|apply bM|apply bq|apply bN|apply br|apply bO|apply bu
   |refine aV ?_
   |refine aQ ?_
   |first|refine aT rfl ?_|refine aU rfl ?_|refine aB rfl ?_ ?_|refine aX rfl (λ_=>?_) (λ_=>?_)|refine aW rfl (λ_=>?_) (λ_=>?_)
   |((first|refine aA (λ_=>?_) (λ_=>?_)|refine aE (λ_=>?_) (λ_=>?_))<;>try refine sm ?_)
   |refine And.intro trivial ?_
   |refine And.intro aso ?_
   |refine be rfl (λ_=>?_) (λ_=>?_)
   |refine And.intro ?_ ?_
  rfl;omega;rename_i k;have f:=(bQ c 0).1 k;rw[show u8s b++AV.frzL (u8s [92,48,48])=u8s (b++[92,48,48])by simp[u8s,AV.frzL,AV.frz]];refine ast aso asr ⟨i+1,m+3,b++[92,48,48],rfl,d,aso,hid ⟨by simp[q.o.1],?_⟩,rfl,rfl⟩;rw[<- a.o,wrB,if_pos f,apc];rename_i k w;have f:¬c=0:=λe=>k ((bQ c 0).2 e)
  have j:(i=0/\(c=32\/c=35))\/(i+1=s.length/\c=32)\/c∈[34,43,44,59,60,62,92]:=by rcases w with(⟨r,g⟩|⟨r,g⟩)|e;exact .inl ⟨aso,g.imp (bQ c 32).1 (bQ c 35).1⟩;exact .inr (.inl ⟨aso,(bQ c 32).1 g⟩);exact .inr (.inr ((rO _ _).1 e))
  rw[show u8s b++[AV.int IntKind.u8 92,AV.int IntKind.u8 (c.toNat:Int)]=u8s (b++[92,c])by simp[u8s]];refine ast aso asr ⟨i+1,m+1+1,b++[92,c],rfl,d,aso,hid ⟨by simp[q.o.1],?_⟩,rfl,rfl⟩;rw[<- a.o,wrB,if_neg f,if_pos j,apc];rename_i k w;have f:¬c=0:=λe=>k ((bQ c 0).2 e)
  have j:¬((i=0/\(c=32\/c=35))\/(i+1=s.length/\c=32)\/c∈[34,43,44,59,60,62,92]):=λj=>w (by rcases j with⟨r,g⟩|⟨r,g⟩|e;exact .inl (.inl ⟨aso,g.imp (bQ c 32).2 (bQ c 35).2⟩);exact .inl (.inr ⟨aso,(bQ c 32).2 g⟩);exact .inr ((rO _ _).2 e))
  rw[show u8s b++[AV.int IntKind.u8 (c.toNat:Int)]=u8s (b++[c])by simp[u8s]];refine ast aso asr ⟨i+1,m+1,b++[c],rfl,d,aso,hid ⟨by simp[q.o.1],?_⟩,rfl,rfl⟩;rw[<- a.o,wrB,if_neg f,if_neg j,apc]
 have v:i=s.length:=aso;subst v;have g1:¬(s.length:Int)<(s.length:Int):=aso;have r:=ku b;have g:=jq b;have e:=q.o.2;rw[apM,wrL,apG]at e;have t:=h.o;rw[<- e]at t;replace t:=hid t;clear e;refine wk ?_;exact ac rfl t.o
abbrev rU:List UInt8:=[34,43,44,59,60,62,92,32,35,61]
def i7:List UInt8->Bool->List UInt8->Option (List UInt8×List UInt8×Bool)
 |b,bl,[]=>some (b,[], !bl)
 | b,bl,c::s=>if c=44\/c=43 then some (b,c::s, !bl)
   else if c≠92 then(if c=0\/c∈([34,59,60,62]:List UInt8)\/(b=[]/\(c=32\/c=35))then none else i7 (b++[c]) (decide (c=32)) s)
   else match s with
    |[]=>none
    | d::s1=>if d∈rU then i7 (b++[d]) false s1 else match s1 with
      |[]=>none
      | e::s2=>match VD d e with
        |none=>none
        |some x=>i7 (b++[x]) false s2
def agx(o:Option (List UInt8×List UInt8×Bool)):AV:=match o with
 |none=>.tup [.str [],.str [],.bool false]
 |some (v,r,f)=>.tup [.str v,.str r,.bool f]
theorem rS  :i7 b bl []=some (b,[], !bl):=by rw[i7.eq_def]
theorem rL{c:UInt8}(h:c=44\/c=43):i7 b bl (c::s)=some (b,c::s, !bl):=by rw[i7.eq_def];simp only[if_pos h]
theorem mV{c:UInt8}(h:¬(c=44\/c=43))(a:c≠92):i7 b bl (c::s)=if c=0\/c∈([34,59,60,62]:List UInt8)\/(b=[]/\(c=32\/c=35))then none else i7 (b++[c]) (decide (c=32)) s:=by rw[i7.eq_def];simp only[if_neg h,if_pos a]
theorem N8  :i7 b bl [92]=none:=by rw[i7.eq_def];rfl
theorem wT(h:d∈rU):i7 b bl (92::d::s)=i7 (b++[d]) false s:=by rw[i7.eq_def];simp only[show ¬((92:UInt8)=44\/(92:UInt8)=43)by decide,if_false,ne_eq,not_true_eq_false,if_pos h]
theorem N7(h:¬d∈rU):i7 b bl [92,d]=none:=by rw[i7.eq_def];simp only[show ¬((92:UInt8)=44\/(92:UInt8)=43)by decide,if_false,ne_eq,not_true_eq_false,if_neg h]
theorem SS{e:UInt8}(h:¬d∈rU):i7 b bl (92::d::e::s)=match VD d e with|none=>none|some x=>i7 (b++[x]) false s:=by rw[i7.eq_def];simp only[show ¬((92:UInt8)=44\/(92:UInt8)=43)by decide,if_false,ne_eq,not_true_eq_false,if_neg h]
theorem mQ{i:Nat}(h:i<s.length):s.drop i=s.getD i 0::s.drop (i+1):=by rw[apw h];simp[h]
theorem akH(X:s.length<=100000)(h:K (agx (i7 [] false s)) L):aoX 122 [.str s] L K:=by
 replace h:=hid h;refine aoW aaF ?_;refine bR (l:=[]) (n:=0) 5 1 rfl (aps 1).symm ?_;refine ak (λn T' L'=>∃(i m:Nat) (b:List UInt8) (bl:Bool),n=s.length-i/\i<=s.length/\m<=i/\Hid (m=b.length/\i7 b bl (s.drop i)=i7 [] false s)/\T'=[(7,.int .i64 (i:Int)),(6,.bool bl),(5,.gsl (u8s b) m L.length 1),(0,.str s)]/\L'=L++[.spare m 1]) ass ⟨0,0,[],false,rfl,ao2 _,aso,hid ⟨rfl,rfl⟩,rfl,rfl⟩ ?_;rintro _ _ _ ⟨i,m,b,bl,rfl,W,V,w,rfl,rfl⟩;have Y:=ku b;have e2:=jq b;by_cases z:i<s.length
 .have g1:(i:Int)<(s.length:Int):=aso;have g2:=aoV i aso;obtain⟨c,M⟩:=aoT (s.getD i 0);have j:=mQ z;rw[M]at j;have a:=w.o.2;rw[j]at a;have C:(s.drop i).take (s.length-i)=s.drop i:=apA asp;have O:(i:Int)<=(s.length:Int):=aso;by_cases p:c=44\/c=43;rw[rL p]at a;have f:=h.o;rw[<- a]at f;simp only[agx]at f;rw[<- j]at f;replace f:=hid f;have B:((c.toNat:Int)=44)\/((c.toNat:Int)=43):=p.imp (bQ c 44).2 (bQ c 43).2;clear a p j;rcases B with B|B;refine wk ?_;exact ac rfl f.o;refine wk ?_;exact ac rfl f.o
  .have B:¬(c.toNat:Int)=44:=λe=>p (.inl ((bQ c 44).1 e))
   have R:¬(c.toNat:Int)=43:=λe=>p (.inr ((bQ c 43).1 e))
   by_cases y:c=92;subst y;have g3:IntKind.i64.wrap ((i:Int)+2)=(i:Int)+2:=ae aso aso;have g4:IntKind.i64.wrap ((i:Int)+3)=(i:Int)+3:=ae aso aso;have g5:IntKind.i64.wrap ((i:Int)+1+1)=(i:Int)+1+1:=ae aso aso;have S:IntKind.i64.wrap ((i:Int)+2+1)=(i:Int)+2+1:=ae aso aso;have Z:((i:Int)+1).toNat=i+1:=aso;have t3:((i:Int)+3).toNat=i+3:=aso;by_cases I:i+1<s.length;have P:(i:Int)+1<(s.length:Int):=aso;obtain⟨d,Q⟩:=aoT (s.getD (i+1) 0);have g:=mQ I;rw[Q]at g;rw[g]at a;by_cases q:d∈rU;rw[wT q]at a;have N:=(rO rU d).2 q;clear j g;replace a:=hid a;have kk1:=@hid _ @iD;refine wk ?_;rw[show u8s b++[AV.int IntKind.u8 (d.toNat:Int)]=u8s (b++[d])by simp[u8s],show decide (((UInt8.toNat 92:Nat):Int)=32)=false from rfl];refine ast aso asr ⟨i+1+1,m+1,b++[d],false,rfl,I,aso,hid ⟨by simp[w.o.1],a.o⟩,rfl,rfl⟩;have N:¬0<=Lib.indexByte rU d:=λe=>q ((rO rU d).1 e)
   by_cases H:i+2<s.length;have G:(i:Int)+2<(s.length:Int):=aso;have f4:(i:Int)+1<=(i:Int)+3:=aso;have T:(i:Int)+3<=(s.length:Int):=aso;have f6:(0:Int)<=(i:Int)+1:=aso;obtain⟨e,J⟩:=aoT (s.getD (i+2) 0);have k:=mQ H;rw[J]at k;rw[k,SS q]at a;have F:(s.drop (i+1)).take (i+3-(i+1))=[d,e]:=by rw[g,k,show i+3-(i+1)=2 by omega];rfl
   clear j g k;replace a:=hid a;have kk1:=@hid _ @iD;refine wk ?_;refine aif ?_;rcases v:VD d e with _|x;rw[show Sh d e=.tup [.str [],.bool false]by simp only[Sh,v]];have f:=h.o;rw[<- a.o,v]at f;simp only[agx]at f;replace f:=hid f;clear v;refine asw ?_;exact ac rfl f.o;rw[show Sh d e=.tup [.str [x],.bool true]by simp only[Sh,v]];have t:=a.o;rw[v]at t;simp only at t;replace t:=hid t;have q1:[x].getD 0 0=x:=rfl;clear v a;refine asw ?_;rw[show u8s b++[AV.int IntKind.u8 (x.toNat:Int)]=u8s (b++[x])by simp[u8s],show decide (((UInt8.toNat 92:Nat):Int)=32)=false from rfl];refine ast aso asr ⟨i+2+1,m+1,b++[x],false,rfl,H,aso,hid ⟨by simp[w.o.1],t.o⟩,rfl,rfl⟩;have G:¬(i:Int)+2<(s.length:Int):=aso;have r:s.drop (i+1+1)=[]:=aqE aso;rw[r,N7 q]at a;have f:=h.o;rw[<- a]at f;replace f:=hid f;clear j g a;have kk1:=@hid _ @iD;refine wk ?_;exact ac rfl f.o;have P:¬(i:Int)+1<(s.length:Int):=aso;have G:¬(i:Int)+2<(s.length:Int):=aso;have r:s.drop (i+1)=[]:=aqE aso;rw[r,N8]at a;have f:=h.o;rw[<- a]at f;replace f:=hid f;clear j a;have kk1:=@hid _ @iD;refine wk ?_;exact ac rfl f.o
   .rw[mV p y]at a;have U:¬(c.toNat:Int)=92:=λe=>y ((bQ c 92).1 e)
    clear j;replace a:=hid a
    repeat' first
     |refine bH ?_
     | (first|refine bv asq ?_|refine aP asq ?_|refine aS ?_|refine cT ?_|refine bJ (fun _=>?_)|refine aH ?_|refine bz ?_|refine iD ?_|refine bg (iD ⟨rfl,rfl⟩) (iD ⟨rfl,rfl⟩) ?_|refine aM (iD ⟨rfl,rfl⟩) ?_)
       refine sm ?_
     | (first|refine bp asq ?_|refine bm ?_|refine aR ?_|refine bw ?_|refine bP (aG ?_))
       refine sl ?_
     |exact bL
     |first|apply bM|apply bq|apply bN|apply br|apply bO|apply bu
     |refine aV ?_
     |refine aQ ?_
     |first|refine aT rfl ?_|refine aU rfl ?_|refine aB rfl ?_ ?_|refine aX rfl (λ_=>?_) (λ_=>?_)|refine aW rfl (λ_=>?_) (λ_=>?_)
     |((first|refine aA (λ_=>?_) (λ_=>?_)|refine aE (λ_=>?_) (λ_=>?_))<;>try refine sm ?_)
     |refine And.intro trivial ?_
     |refine And.intro aso ?_
     |refine be rfl (λ_=>?_) (λ_=>?_)
     |refine And.intro ?_ ?_
    rename_i v;have u:c=0\/c∈([34,59,60,62]:List UInt8)\/(b=[]/\(c=32\/c=35)):=by rcases v with(e|e)|⟨e,D⟩;exact .inl ((bQ c 0).1 e);exact .inr (.inl ((rO _ _).1 e));refine .inr (.inr ⟨apK.1 ?_,D.imp (bQ c 32).1 (bQ c 35).1⟩);have:=w.o.1;omega
    have f:=h.o;rw[<- a.o,if_pos u]at f;exact ac rfl f;rename_i v;have u:¬(c=0\/c∈([34,59,60,62]:List UInt8)\/(b=[]/\(c=32\/c=35))):=λe=>v (by rcases e with e|e|⟨e,D⟩;exact .inl (.inl ((bQ c 0).2 e));exact .inl (.inr ((rO _ _).2 e));refine .inr ⟨?_,D.imp (bQ c 32).2 (bQ c 35).2⟩;have:=w.o.1;rw[e]at this;simp at this;omega)
    have A:decide ((c.toNat:Int)=32)=decide (c=32):=by have:=bQ c 32;simp only[decide_eq_decide];exact this
    rw[show u8s b++[AV.int IntKind.u8 (c.toNat:Int)]=u8s (b++[c])by simp[u8s],A];refine ast aso asr ⟨i+1,m+1,b++[c],decide (c=32),rfl,z,aso,hid ⟨by simp[w.o.1],?_⟩,rfl,rfl⟩;rw[<- a.o,if_neg u]
 have E:i=s.length:=aso;subst E;have g1:¬(s.length:Int)<(s.length:Int):=aso;have f:=h.o;rw[<- w.o.2,apM,rS]at f;simp only[agx]at f;replace f:=hid f;have C:(s.drop s.length).take (s.length-s.length)=[]:=asp;refine wk ?_;exact ac rfl f.o
def lN:List UInt8->Option (List UInt8×List UInt8)
 |[]=>none
 | c::s=>if c=61 then some ([],s) else match lN s with
   |none=>none
   |some (a,b)=>some (c::a,b)
theorem ZK:∀s:List UInt8,(Lib.indexByte s 61=-1/\lN s=none)\/∃n:Nat,n<s.length/\Lib.indexByte s 61=(n:Int)/\lN s=some (s.take n,s.drop (n+1))
 |[]=>.inl ⟨rfl,rfl⟩
 | c::s=>by
   by_cases b:c=61
   .subst b;exact .inr ⟨0,asp,by simp[Lib.indexByte],by simp[lN]⟩
   .have e1:(c == 61)=false:=(by simpa using b);unfold Lib.indexByte;rw[e1];simp only[apj,if_false,lN,if_neg b];rcases ZK s with⟨d,a⟩|⟨n,e,d,a⟩
    .exact .inl ⟨by rw[d];rfl,by rw[a]⟩
    .refine .inr ⟨n+1,by simp;omega,?_,by rw[a];simp⟩;rw[d];have:((n:Int) == -1)=false:=asp;rw[this];simp
def ZJ(s:List UInt8):AV:=match lN s with
 |some (a,b)=>.tup [.str a,.str b,.bool true]
 |none=>.tup [.str s,.str [],.bool false]
theorem adH{a:List UInt8}{c:UInt8}{L:List Blk}{K:aoY}(h:K (.int .i64 (Lib.indexByte a c)) L):aoX 168 [.str a,.str [c]] L K :=
 dD Tryz.func168 rfl asq (λw0 S0 E w vs g b=>by simp only[VRL,VR]at b;obtain⟨_,_,rfl,rfl,_,_,rfl,rfl,rfl⟩:=b;exact(Tryz.stringslite_Index_one ⟨⟨a⟩⟩ c w).mono λe w' ⟨f,d⟩=>⟨_,f,by simp[VR],by subst d;exact EA.refl _⟩) h
theorem aj0(e:s.length<=100000)(h:K (ZJ s) L):aoX 173 [.str s,.str [61]] L K:=by have g:[(61:UInt8)].length=1:=rfl;rcases ZK s with⟨b,a⟩|⟨n,d,b,a⟩;simp only[ZJ,a]at h;replace h:=hid h;clear a;refine ab gW (by simp[cS]) ?_;simp only[cS,ag];have kk1:=@hid _ @adH;refine wk ?_;exact aa h.o;simp only[ZJ,a]at h;replace h:=hid h;have g1:(0:Int)<=(n:Int):=aso;have f:=aoV n aso;have g3:(n:Int)<=(s.length:Int):=aso;have g4:(n:Int)+1<=(s.length:Int):=aso;have i:(0:Int)<=(n:Int)+1:=aso;have j:((n:Int)+1).toNat=n+1:=aso;have c:(s.drop (n+1)).take (s.length-(n+1))=s.drop (n+1):=apA asp;clear a;refine ab gW (by simp[cS]) ?_;simp only[cS,ag];have kk1:=@hid _ @adH;refine wk ?_;exact aa h.o
theorem aoe(c:s.length<=100000)(h:K (ZJ s) L):aoX 119 [.str s,.str [61]] L K:=by
 rcases hc:lN s with _|⟨a,b⟩
 all_goals
  simp only[ZJ,hc]at h;replace h:=hid h
 refine aoW Es ?_;refine aj0 c ?_;simp only[ZJ,hc];refine asw ?_;exact aa h.o;refine aoW Es ?_;refine aj0 c ?_;simp only[ZJ,hc];refine asw ?_;exact aa h.o
abbrev Rdn:=List Ava
abbrev am(r:Rdn):AV:=aeH r none
def tU:Nat->List Rdn->Rdn->List UInt8->List Rdn×Int
 |0,_,_,_=>([],4)
 | f+1,out,now,s=>if out.length=32\/now.length=8 then ([],9) else match lN s with
   |none=>([],4)
   | some (typ,rest)=>if jE typ=false then ([],4) else if lX now typ=true then ([],21) else match i7 [] false rest with
     |none=>([],4)
     | some (v,r2,ok)=>if ok=false then ([],4) else match r2 with
       |[]=>(out++[now++[(typ,v)]],0)
       |c::s'=>if c=44 then tU f (out++[now++[(typ,v)]]) [] s' else tU f out (now++[(typ,v)]) s'
def dV(s:List UInt8):List Rdn×Int:=if 4096<s.length then([],5)else if s=[]then([],0)else tU (s.length+1) [] [] s
def aaw(p:List Rdn×Int):AV:=.tup [.sl (p.1.map am) p.1.length none,.int .i64 p.2]
theorem adY:∀{s a b:List UInt8},lN s=some (a,b)->b.length<s.length/\a.length<=s.length
 |[],a,b,h=>by simp[lN]at h
 | c::s,a,b,h=>by
   simp only[lN]at h;split at h
   .simp only[ao1,apf]at h;obtain⟨rfl,rfl⟩:=h;simp
   .split at h
    .cases h
    .rename_i a' b' hc;simp only[ao1,apf]at h;obtain⟨rfl,rfl⟩:=h;have:=adY hc;simp;omega
theorem aid:∀(n:Nat){s b:List UInt8}{bl:Bool}{v r:List UInt8}{ok:Bool},s.length<=n->i7 b bl s=some (v,r,ok)->r.length<=s.length:=by
 intro n;induction n with
 | zero =>
   intro s b bl v r ok a h;obtain rfl:=apK.1 (Nat.le_zero.1 a);rw[rS]at h;cases h;simp
 | succ n ih =>
   intro s b bl v r ok a h;cases s with
   |nil=>rw[rS]at h;cases h;simp
   | cons c s =>
     simp only[apb]at a;by_cases i:c=44\/c=43
     .rw[rL i]at h;cases h;simp
     by_cases f:c=92
     .subst f;cases s with
      |nil=>rw[N8]at h;cases h
      | cons d s =>
        by_cases g:d∈rU
        .rw[wT g]at h;have:=ih (by simp at a;omega) h;simp;omega
        .cases s with
         |nil=>rw[N7 g]at h;cases h
         | cons e s =>
           rw[SS g]at h;split at h
           .cases h
           .have:=ih (by simp at a;omega) h;simp;omega
     .rw[mV i f]at h;split at h
      .cases h
      .have:=ih aso h;simp;omega
section
variable {P:Program}{N:Nat}{own:Nat->Nat->Nat}{Q:Exit->Tm->List Blk->Prop}{T:Tm}{L:List Blk}
theorem acI{lc:bK}(t sz B:Nat){l:List AV}{n:Nat}{v:AV}(c:ay T t=some v)(j:B<L.length)(f:(v=.sl [] 0 (some 0)/\l=[]/\n=0)\/∃i,B<i/\v=.gsl l n i sz/\L[i]?=some (.spare n sz))(h:∀i X,B<i->(L++X)[i]?=some (.spare n sz)->AW P N own lc Q ((t,.gsl l n i sz)::T) (L++X)):AW P N own lc Q T L:=by
 rcases f with⟨rfl,rfl,rfl⟩|⟨i,a,rfl,g⟩;exact bR t sz c asp (h L.length [.spare 0 sz] j asp);have b:=h i [] a (by simpa using g);rw[apG]at b;refine b.weakT λt' k e=>?_
 simp only[ay]at e;split at e;rename_i d;subst d;cases e;exact c;exact e
end
variable {L:List Blk}{K:aoY}
set_option maxHeartbeats 8000000
set_option maxRecDepth 100000
def anx(B:Nat)(r:Rdn)(v:AV)(L:List Blk):Prop:=(v=.sl [] 0 (some 0)/\bd r=[]/\r.length=0)\/∃i,B<i/\v=.gsl (bd r) r.length i 2/\L[i]?=some (.spare r.length 2)
theorem abD(r:Rdn)(t v:List UInt8):bd (r++[(t,v)])=bd r++[.str t,.str v]:=by simp[bd,pu]
theorem gR(r:Rdn):AV.frzL (bd r)=bd r:=by
 induction r with
 |nil=>rfl
 |cons a r ih=>simpa[bd,pu,AV.frzL,AV.frz]using ih
theorem jd{L0 X:List Blk}{e:Int}{K:aoY}(h:K (aaw ([],e)) L0):Fin L0 (.tup [.sl [] 0 (some 0),.int .i64 e]) (L0++X) K:=aY (ac rfl h)
theorem bB(d:List Rdn):AV.frzL (d.map am)=d.map am:=by
 rw[AV.frzL_eq,apq];refine aqj λr _=>?_
 simp only[Function.comp,AV.frz,gR]
theorem ahK(q:Nat->Bool)(r:Rdn):AV.refsL q (bd r)=true:=by
 induction r with
 |nil=>rfl
 |cons a r ih=>simpa[bd,pu,AV.refsL,AV.refs]using ih
theorem fD(q:Nat->Bool):∀d:List Rdn,AV.refsL q (d.map am)=true
 |[]=>rfl
 |r::d=>by simp only[apv,AV.refsL,AV.refs,ahK,fD q d,aq5]
theorem wU(h:jE s=true):s.length<=32:=by simp only[jE,ao3,decide_eq_true_eq]at h;exact h.1.1.2
theorem am7{r:Rdn}{i n:Nat}(b:r.length=n)(e:n<=8)(d:∀a∈r,a.1.length<=32)(f:typ.length<=4096)(h:K (.bool (lX r typ)) L):
  aoX 121 [.gsl (bd r) n i 2,.str typ] L K:=by
 subst b;exact iK (by simpa only[AV.frzL,AV.frz,gR]using amp (cap:=none) aso (λa c=>by have:=d a c;omega) aso h)
theorem abT(h:K (aaw (dV s)) L):aoX 77 [.str s] L K:=by
 refine ab aaJ (by simp[SF]) ?_;simp only[SF,ag];by_cases Q:4096<s.length;have f1:(4096:Int)<(s.length:Int):=aso;rw[dV,if_pos Q]at h;replace h:=hid h;clear Q;refine wk ?_;exact aY (aa h.o);have f1:¬(4096:Int)<(s.length:Int):=aso;rw[dV,if_neg Q]at h;by_cases h2:s=[];rw[if_pos h2]at h;replace h:=hid h;refine wk ?_;exact aY (aa h.o);rw[if_neg h2]at h;replace h:=hid h;have hs:=hid (show s.length<=4096 by omega);clear Q;obtain⟨R,S⟩:=aoT (tU (s.length+1) [] [] s);rw[S]at h;refine wk ?_;refine bR (l:=[]) (n:=0) 4 1 rfl (aps 1).symm ?_;refine ak (λn T' L'=>∃(f m:Nat) (out:List Rdn) (j:Rdn) (u:List UInt8) (v:AV) (X:List Blk),f=n/\u.length<=4096/\m=out.length/\m<=32/\j.length<=8/\Hid (u.length<f/\tU f out j u=R/\(∀a∈j,a.1.length<=32)/\anx L.length j v L')/\L'[L.length]?=some (.spare m 1)/\T'=[(5,v),(4,.gsl (out.map am) m L.length 1),(0,.str u)]/\L'=L++X) ass ⟨s.length+1,0,[],[],s,_,[.spare 0 1],rfl,hs.o,rfl,aso,asp,hid ⟨aso,S,asp,.inl ⟨rfl,rfl,rfl⟩⟩,asp,rfl,rfl⟩ ?_;clear h2;clear hs;rintro _ _ _ ⟨f,m,out,j,u,v,X,rfl,hu,D,E,F,hI,U,rfl,rfl⟩;obtain⟨hf,B,M,hv⟩:=hI.o;clear hI;clear S;obtain⟨f,rfl⟩:∃g,f=g+1:=⟨f-1,aso⟩;have hB:L.length<(L++X).length:=(aoZ.1 U).1;refine acI 5 2 L.length rfl hB hv λi Y ai J=>?_
 rw[apc]at J⊢;have C:(L++(X++Y))[L.length]?=some (.spare m 1):=by rw[<- apc,ao4 hB];exact U
 generalize X++Y=Z at J C⊢;clear U hB hv;have s5:∀A,(L++Z).set i A=L++Z.set (i-L.length) A:=λA=>apu _ _ aso
 have s4:∀(W:List Blk) A,(L++W).set L.length A=L++W.set 0 A:=λW A=>by rw[apu _ _ (ao0 _),aqq]
 have hz:i-L.length≠0:=aso;have al:∀A,(L++Z.set (i-L.length) A)[L.length]?=some (.spare m 1):=λA=>by rw[<- s5,api aso];exact C
 have V:∀A,(L++Z.set (i-L.length) A)[i]?=some A:=λA=>by rw[<- s5,apB,if_pos rfl,if_pos (aoZ.1 J).1]
 have ap:=hu;obtain⟨c,N⟩:∃c:Nat,j.length=c:=⟨_,rfl⟩;rw[tU]at B;rw[N]at B J F⊢;by_cases t:out.length=32\/c=8;rw[if_pos t]at B;have d:=h.o;rw[<- B]at d;replace d:=hid d;have k:(m:Int)=32\/(m:Int)≠32/\(c:Int)=8:=aso;clear B t;clear D;rcases k with k|⟨k,k'⟩;refine wk ?_;exact jd d.o;refine wk ?_;exact jd d.o;rw[if_neg t]at B;have k1:¬(m:Int)=32:=aso;have k2:¬(c:Int)=8:=aso;replace D:=hid D;clear t;replace B:=hid B;replace M:=hid M;refine wk ?_;refine aoe aso ?_;rcases hcut:lN u with _|⟨typ,rest⟩;rw[show ZJ u=.tup [.str u,.str [],.bool false]by simp only[ZJ,hcut]];have d:=h.o;rw[<- B.o,hcut]at d;simp only at d;replace d:=hid d;refine asw ?_;exact jd d.o;rw[show ZJ u=.tup [.str typ,.str rest,.bool true]by simp only[ZJ,hcut]];have r:=B.o;rw[hcut]at r;simp only at r;have an:=adY hcut;replace r:=hid r;clear hcut B;refine sk ?_;cases hty:jE typ with
 | false =>
   have d:=h.o;rw[<- r.o,if_pos hty]at d;replace d:=hid d;have kk1:=@hid _ @abJ;refine wk ?_;exact jd d.o
 | true =>
   have y:=r.o;rw[if_neg (by rw[hty];simp)]at y;replace y:=hid y;clear r;have kk1:=@hid _ @abJ;refine wk ?_;refine am7 N F M.o aso ?_;cases hha:lX j typ with
   | true =>
     have d:=h.o;rw[<- y.o,if_pos hha]at d;replace d:=hid d;refine asw ?_;exact jd d.o
   | false =>
     have z:=y.o;rw[if_neg (by rw[hha];simp)]at z;replace z:=hid z;clear y;refine asw ?_;refine akH aso ?_;rcases hvl:i7 [] false rest with _|⟨w,r2,T⟩
     .have d:=h.o;rw[<- z.o,hvl]at d;simp only at d;replace d:=hid d;simp only[agx];refine asw ?_;exact jd d.o
     .have q:=z.o;rw[hvl]at q;simp only at q;have ad:=aid _ (ao0 _) hvl;replace q:=hid q;clear z hvl;simp only[agx];refine sk ?_;cases T with
      | false =>
        have d:=h.o;rw[<- q.o,if_pos rfl]at d;replace d:=hid d;refine wk ?_;exact jd d.o
      | true =>
        have p:=q.o;rw[if_neg asp]at p;replace p:=hid p;clear q;have q1:(c+1)*32<=140737488355328:=aso;have q2:c+1<=140737488355328:=aso;have q3:(m+1)*24<=140737488355328:=aso;have q4:m+1<=140737488355328:=aso;have O:bd j++[AV.str typ,AV.str w]=bd (j++[(typ,w)]):=(abD _ _ _).symm;have P:out.map am++[AV.sl (AV.frzL (bd j++[AV.str typ,AV.str w])) (c+1) none]=(out++[j++[(typ,w)]]).map am:=by rw[O,gR,apz];simp[N]
        have H:(out++[j++[(typ,w)]]).length=m+1:=(by simp[D.o]);have G:(j++[(typ,w)]).length=c+1:=(by simp[N]);have e5:∀a∈j++[(typ,w)],a.1.length<=32:=λa ha=>by
         rcases ao5.1 ha with h|h
         .exact M.o a h
         .rw[apr.1 h];exact wU hty
        replace O:=hid O;replace P:=hid P;replace H:=hid H;replace G:=hid G;replace e5:=hid e5;cases r2 with
        | nil =>
          have d:=h.o;rw[<- p.o]at d;simp only at d;replace d:=hid d;refine wk ?_;rw[P.o];refine aY (ac ?_ ?_)
          .simp only[AV.frz,AV.frzL,bB,AV.refs,AV.refsL,fD,aq5]
          .simp only[AV.frz,AV.frzL,bB];have:=d.o;simp only[aaw,H.o]at this;exact this
        | cons x s' =>
          simp only at p;have q5:¬(x::s'=[]):=asp;have q7:((s'.length:Int)+1).toNat-1=s'.length:=aso;have I:s'.take (((s'.length:Int)+1).toNat-1)=s':=(by rw[q7,apg]);simp only[apb]at ad;clear q7;replace I:=hid I;by_cases hx:x=44
          .subst hx;refine wk ?_;rw[I.o,P.o];refine ast ?_ (CutS (b:=?_)) ⟨f,m+1,out++[j++[(typ,w)]],[],s',.sl [] 0 (some 0),_,rfl,aso,H.o.symm,aso,asp,hid ⟨aso,?_,asp,.inl ⟨rfl,rfl,rfl⟩⟩,?_,rfl,rfl⟩
           .omega
           .have:=(aoZ.1 C).1;simp at this⊢;omega
           .rw[<- p.o,if_pos rfl]
           .have:=(aoZ.1 C).1;rw[<- s4,apB,if_pos rfl,if_pos (by simp at this⊢;omega)]
          .have q6:¬(x.toNat:Int)=44:=λe=>hx ((bQ x 44).1 e)
           refine wk ?_;rw[I.o,O.o];refine ast ?_ (CutS (b:=?_)) ⟨f,m,out,j++[(typ,w)],s',.gsl (bd (j++[(typ,w)])) (c+1) i 2,_,rfl,aso,D.o,E,by rw[G.o];omega,hid ⟨aso,?_,e5.o,.inr ⟨i,ai,by rw[G.o],by rw[G.o];exact V _⟩⟩,al _,rfl,rfl⟩
           .omega
           .have:=(aoZ.1 C).1;simp at this⊢;omega
           .rw[<- p.o,if_neg hx]
def dW:Rdn->Rdn->Int
 |_,[]=>0
 |done,a::t=>if done.length=8 then 9 else if jE a.1=false then 20 else if lX done a.1=true then 21 else dW (done++[a]) t
def jJ:Nat->List Rdn->Int
 |_,[]=>0
 |i,r::t=>if i=32 then 9 else if r=[]then 2 else if dW [] r≠0 then dW [] r else jJ (i+1) t
theorem mY{d:List Rdn}{k:Nat}(h:k<d.length):(d.map am).getD k .undef=am (d.getD k []):=by simp[h]
theorem WM{r:Rdn}{k:Nat}:(bd r).take (k*2)=bd (r.take k):=by
 induction r generalizing k with
 |nil=>simp[bd]
 | cons a r ih =>
   cases k with
   |zero=>simp[bd]
   | succ k =>
     have:=@ih k;simp only[bd]at this;rw[show(k+1)*2=k*2+1+1 by omega];simp[bd,pu,this]
theorem am6{r:Rdn}{n:Nat}(b:r.length=n)(e:n<=8)(d:∀a∈r,a.1.length<=32)(f:typ.length<=32)(h:K (.bool (lX r typ)) L):
  aoX 121 [.sl (bd r) n cap,.str typ] L K:=by
 subst b;exact amp aso (λa c=>by have:=d a c;omega) aso h
theorem alQ{d:List Rdn}(W:d.length<=1100000)(E:∀r∈d,r.length<=1100000)(h:K (.int .i64 (jJ 0 d)) L):aoX 84 [.sl (d.map am) d.length cap] L K:=by
 replace h:=hid h;have I:=hid (λk=>@mY d k);replace E:=hid E;refine aoW aaH ?_;refine ak (λn T' L'=>∃(i:Nat) (X:List Blk),n=d.length-i/\i<=d.length/\i<=32/\Hid (jJ i (d.drop i)=jJ 0 d)/\T'=[(9,.int .i64 (i:Int)),(8,.int .i64 d.length),(7,.sl (d.map am) d.length cap)]/\L'=L++X) ass ⟨0,[],rfl,ao2 _,aso,hid rfl,rfl,asp⟩ ?_;rintro _ _ _ ⟨i,X,rfl,hi,N,M,rfl,rfl⟩;by_cases m:i<d.length
 .have g1:(i:Int)<(d.length:Int):=aso;have g2:=aoV i aso;have U:=I.o i m;have G:=E.o (d.getD i []) (by rw[apo,ao8 m];exact apZ _);obtain⟨r,x⟩:=aoT (d.getD i []);have B:d.drop i=r::d.drop (i+1):=(by rw[apw m,<- x];simp[m]);rw[x]at U G;have b:=M.o;rw[B,jJ]at b;clear B x;by_cases q:i=32;rw[if_pos q]at b;have c:=h.o;rw[<- b]at c;replace c:=hid c;have R:(i:Int)=32:=aso;have T:(32:Int)<(d.length:Int):=aso;clear q b;refine wk ?_;exact ac rfl c.o;rw[if_neg q]at b;have R:¬(i:Int)=32:=aso;by_cases w:r=[];rw[if_pos w]at b;subst w;have c:=h.o;rw[<- b]at c;replace c:=hid c;clear q b;refine wk ?_;exact ac rfl c.o;rw[if_neg w]at b;have Z:¬(r.length:Int)=0:=(by have:=apQ.2 w;omega);have g:∀e:Int,dW [] r=e->e≠0->K (.int .i64 e) L:=λe O a2=>by rw[if_pos (by rw[O];exact a2),O]at b;rw[b];exact h.o
  replace g:=hid g;replace b:=hid b;clear q;refine wk ?_;refine ak (λn T' L'=>∃(k:Nat) (Y:List Blk),n=r.length-k/\k<=r.length/\k<=8/\Hid (dW (r.take k) (r.drop k)=dW [] r/\∀a∈r.take k,a.1.length<=32)/\T'=[(23,.int .i64 (k:Int)),(22,.int .i64 r.length),(21,am r),(4,am r),(9,.int .i64 (i:Int)),(8,.int .i64 d.length),(7,.sl (d.map am) d.length cap)]/\L'=L++(X++Y)) ass ⟨0,[],rfl,ao2 _,aso,hid ⟨rfl,asp⟩,rfl,asp⟩ ?_;rintro _ _ _ ⟨k,Y,rfl,V,Q,p,rfl,rfl⟩;by_cases j:k<r.length
  .have g3:(k:Int)<(r.length:Int):=aso;have g4:=aoV k aso;have J:=gS j;have e4:k*2+2<=(bd r).length:=(by rw[dm];omega);obtain⟨⟨ty,H⟩,A⟩:∃a,r.getD k ([],[])=a:=⟨_,rfl⟩;have D:r.drop k=(ty,H)::r.drop (k+1):=(by rw[apw j,<- A];simp[j]);have t:r.take (k+1)=r.take k++[(ty,H)]:=(by rw[aph j,<- A];simp[j]);rw[A]at J;simp only[pu]at J;obtain⟨l,v⟩:=p.o;rw[D,dW]at l;have y:(r.take k).length=k:=(by simp;omega);rw[y]at l;clear D A p;have e5:(bd r).take (k*2)=bd (r.take k):=WM;have g5:(k:Int)<=(r.length:Int):=aso;replace l:=hid l;replace v:=hid v;replace t:=hid t;have S:=hid y;clear y
   repeat' first
    |refine bH ?_
    | (first|refine bv asq ?_|refine aP asq ?_|refine aS ?_|refine cT ?_|refine bJ (fun _=>?_)|refine aH ?_|refine bz ?_)
      refine sm ?_
    | (first|refine bp asq ?_|refine bm ?_|refine aR ?_|refine bw ?_|refine bP (aG ?_))
      refine sl ?_
    |exact bL
    |first|apply bM|apply bq|apply bN|apply br|apply bO|apply bu
    |refine aV ?_
    |refine aQ ?_
    |first|refine aT rfl ?_|refine aU rfl ?_|refine aB rfl ?_ ?_|refine aX rfl (λ_=>?_) (λ_=>?_)|refine aW rfl (λ_=>?_) (λ_=>?_)
    |((first|refine aA (λ_=>?_) (λ_=>?_)|refine aE (λ_=>?_) (λ_=>?_))<;>try refine sm ?_)
    |refine And.intro trivial ?_
    |refine And.intro aso ?_
    |refine be rfl (λ_=>?_) (λ_=>?_)
    |refine And.intro ?_ ?_
   rename_i P;have c:=g.o 9 (by rw[<- l.o,if_pos aso]) (by decide);exact ac rfl c;rename_i P;have f:=l.o;rw[if_neg aso]at f;refine abJ ?_;cases hty:jE ty with
   | false =>
     have c:=hid (g.o 20 (by rw[<- f,if_pos hty]) (by decide));clear f;refine asw ?_;exact ac rfl c.o
   | true =>
     rw[if_neg (by rw[hty];simp)]at f;replace f:=hid f;have C:=wU hty;refine asw ?_;refine aM (am6 S.o aso v.o C ⟨rfl,rfl⟩) ?_;cases hha:lX (r.take k) ty with
     | true =>
       have c:=hid (g.o 21 (by rw[<- f.o,if_pos hha]) (by decide));refine asw ?_;exact ac rfl c.o
     | false =>
       have u:=f.o;rw[if_neg (by rw[hha];simp),<- t.o]at u;replace u:=hid u;clear f;refine asw ?_;refine ast aso ass ⟨k+1,Y++[.cells [.str ty,.str H]],rfl,j,aso,hid ⟨u.o,λa A=>?_⟩,rfl,asp⟩;rw[t.o]at A;rcases ao5.1 A with h|h
       .exact v.o a h
       .rw[apr.1 h];exact C
  have z:k=r.length:=aso;subst z;have g3:¬(r.length:Int)<(r.length:Int):=aso;have F:=p.o.1;rw[apM,dW]at F;have s:=b.o;rw[<- F]at s;simp only[ne_eq,not_true_eq_false,if_false]at s;replace s:=hid s;clear F;refine wk ?_;exact ast aso ass ⟨i+1,X++Y,rfl,m,aso,hid s.o,rfl,rfl⟩
 have z:i=d.length:=aso;subst z;have g1:¬(d.length:Int)<(d.length:Int):=aso;have c:=h.o;rw[<- M.o,apM,jJ]at c;replace c:=hid c;refine wk ?_;exact ac rfl c.o
end Go.Proofs.YtdnfjhflkkpokaaGreatDoor.Av
namespace Go.Proofs
open Go.Shelf
def Tryz.lays190_ren:Go.Shelf.Ren:=⟨λ|190=>132|125=>100|258=>187|128=>154|129=>155|302=>210|303=>211|304=>212|305=>213|306=>214|307=>215|308=>216|309=>217|310=>218|333=>234|329=>192|330=>193|334=>235|335=>236|336=>156|344=>247|n=>n,λ|31=>50|9=>9|3=>3|46=>185|0=>0|51=>229|53=>231|4=>4|183=>223|182=>222|131=>161|5=>5|218=>273|222=>180|228=>292|229=>293|n=>n,λ|n=>n⟩
theorem Tryz.lays190:Go.Proofs.Lays.n190 Tryz.prog Tryz.lays190_ren:={
 mixed:=by kernel_rfl
 f125:=Tryz.func100.trans (congrArg some (by kernel_rfl))
 f128:=Tryz.func154.trans (congrArg some (by kernel_rfl))
 f129:=Tryz.func155.trans (congrArg some (by kernel_rfl))
 f190:=Tryz.func132.trans (congrArg some (by kernel_rfl))
 f258:=Tryz.func187.trans (congrArg some (by kernel_rfl))
 f302:=Tryz.func210.trans (congrArg some (by kernel_rfl))
 f303:=Tryz.func211.trans (congrArg some (by kernel_rfl))
 f304:=Tryz.func212.trans (congrArg some (by kernel_rfl))
 f305:=Tryz.func213.trans (congrArg some (by kernel_rfl))
 f306:=Tryz.func214.trans (congrArg some (by kernel_rfl))
 f307:=Tryz.func215.trans (congrArg some (by kernel_rfl))
 f308:=Tryz.func216.trans (congrArg some (by kernel_rfl))
 f309:=Tryz.func217.trans (congrArg some (by kernel_rfl))
 f310:=Tryz.func218.trans (congrArg some (by kernel_rfl))
 f329:=Tryz.func192.trans (congrArg some (by kernel_rfl))
 f330:=Tryz.func193.trans (congrArg some (by kernel_rfl))
 f333:=Tryz.func234.trans (congrArg some (by kernel_rfl))
 f334:=Tryz.func235.trans (congrArg some (by kernel_rfl))
 f335:=Tryz.func236.trans (congrArg some (by kernel_rfl))
 f336:=Tryz.func156.trans (congrArg some (by kernel_rfl))
 f344:=Tryz.func247.trans (congrArg some (by kernel_rfl))
 t0:=Tryz.underlying0
 a0:=Tryz.isAgg0
 z0:=Tryz.sizeOf0
 v0:=Tryz.zeroValue0
 t3:=Tryz.underlying3
 a3:=Tryz.isAgg3
 z3:=Tryz.sizeOf3
 v3:=Tryz.zeroValue3
 t4:=Tryz.underlying4
 a4:=Tryz.isAgg4
 z4:=Tryz.sizeOf4
 v4:=Tryz.zeroValue4
 t5:=Tryz.underlying5
 a5:=Tryz.isAgg5
 z5:=Tryz.sizeOf5
 v5:=Tryz.zeroValue5
 t9:=Tryz.underlying9
 a9:=Tryz.isAgg9
 z9:=Tryz.sizeOf9
 v9:=Tryz.zeroValue9
 t31:=Tryz.underlying50
 a31:=Tryz.isAgg50
 z31:=Tryz.sizeOf50
 v31:=Tryz.zeroValue50
 t46:=Tryz.underlying185
 a46:=Tryz.isAgg185
 z46:=Tryz.sizeOf185
 v46:=Tryz.zeroValue185
 t51:=Tryz.underlying229
 a51:=Tryz.isAgg229
 z51:=Tryz.sizeOf229
 v51:=Tryz.zeroValue229
 t53:=Tryz.underlying231
 a53:=Tryz.isAgg231
 z53:=Tryz.sizeOf231
 v53:=Tryz.zeroValue231
 t131:=Tryz.underlying161
 a131:=Tryz.isAgg161
 z131:=Tryz.sizeOf161
 v131:=Tryz.zeroValue161
 t182:=Tryz.underlying222
 a182:=Tryz.isAgg222
 z182:=Tryz.sizeOf222
 v182:=Tryz.zeroValue222
 t183:=Tryz.underlying223
 a183:=Tryz.isAgg223
 z183:=Tryz.sizeOf223
 v183:=Tryz.zeroValue223
 t218:=Tryz.underlying273
 a218:=Tryz.isAgg273
 z218:=Tryz.sizeOf273
 v218:=Tryz.zeroValue273
 t222:=Tryz.underlying180
 a222:=Tryz.isAgg180
 z222:=Tryz.sizeOf180
 v222:=Tryz.zeroValue180
 t228:=Tryz.underlying292
 a228:=Tryz.isAgg292
 z228:=Tryz.sizeOf292
 v228:=Tryz.zeroValue292
 t229:=Tryz.underlying293
 a229:=Tryz.isAgg293
 z229:=Tryz.sizeOf293
 v229:=Tryz.zeroValue293}
open Go.Sort Go.RowKit in
theorem Tryz.slices_Sort_string(blk off cap:Nat)(a:List (List UInt8))(w:World)(d:Holds encStr w blk off a.toArray)(b:blk<w.heap.size)(c:a.length<4611686018427387904):
 Calls Tryz.prog 132 #[.slice (some ⟨blk,off,none⟩) a.length cap] w λe w' =>
  e=.returned (.tuple #[])/\∃n os,w'=grow (putRow encStr (Sort.ahead w n) blk off (a.mergeSort λx y=>decide (x<=y)).toArray) os:=Any.slices_Sort_string Tryz.lays190 blk off cap a w d b c
open Go.RowKit Go.Sort in
theorem Tryz.slices_Sort_string_none(p:Option Addr)(cap:Nat)(w:World):
 Calls Tryz.prog 132 #[.slice p 0 cap] w λe w'=>e=.returned (.tuple #[])/\w'=w:=Any.slices_Sort_string_none Tryz.lays190 p cap w
end Go.Proofs
