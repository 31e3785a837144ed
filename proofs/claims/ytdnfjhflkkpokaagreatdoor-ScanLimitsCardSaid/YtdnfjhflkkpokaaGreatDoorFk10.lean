/- Joined texts of the walk, made small by a program. -/
import Derived.Test.YtdnfjhflkkpokaaGreatDoorFk4
import Derived.Test.YtdnfjhflkkpokaaGreatDoorRows
import Derived.KernelRfl
import Derived.Test.YtdnfjhflkkpokaaGreatDoorFk7
import Derived.Laws.Externs
import Derived.Lib.Overlaps
import Derived.Test.YtdnfjhflkkpokaaGreatDoorFk5
import Derived.Test.YtdnfjhflkkpokaaGreatDoorFk6
import Derived.Test.YtdnfjhflkkpokaaGreatDoorFk9
import Derived.Shelf.Strings.Builder1
import Derived.Shelf.Strings.Builder2
import Derived.Shelf.Strings.OnBuilder
import Derived.Shelf.Small.Bits
import Derived.Shelf.Small.Strs
import Derived.Shelf.Strconv.Itoa0
import Derived.Shelf.Strconv.Itoa1
import Derived.Shelf.LaysM
import Derived.Shelf.Strconv.Itoa2
import Derived.Shelf.Strconv.Itoa3
import Derived.Shelf.Strconv.Itoa4
import Derived.Shelf.Strconv.ParseIntEmpty
import Derived.Shelf.Strconv.Clone
import Derived.Shelf.Strconv.SyntaxError
import Derived.Shelf.LaysC
import Derived.Shelf.Strconv.ToError
import Derived.Shelf.Strconv.Lower
import Derived.Shelf.Strconv.ParseUint10
import Derived.Shelf.Strconv.ParseUint10Empty
import Derived.Shelf.Strconv.ParseUint10Any
import Derived.Shelf.Strconv.ParseInt10
import Derived.Shelf.Strconv.RangeError
import Derived.Shelf.Strconv.ToErrorRange
import Derived.Shelf.Strconv.ParseUintEmpty
import Derived.Shelf.Strconv.ParseUint10b64
import Derived.Shelf.Strconv.ParseUint10b32
import Derived.Shelf.Strconv.ParseUint10b16
import Derived.Shelf.Strconv.ParseUint10b8
import Derived.Shelf.Strconv.ParseUint10At
import Derived.Shelf.Strconv.ParseInt10At64
import Derived.Shelf.Strconv.ParseInt10At32
import Derived.Shelf.Strconv.ParseInt10At16
import Derived.Shelf.Strconv.ParseInt10At8
import Derived.Shelf.Strconv.ParseInt10All
import Derived.Shelf.Strconv.ParseIntPublic10
import Derived.Shelf.Strconv.ErrVarParseInt
import Derived.Shelf.Strings.Search1
import Derived.Shelf.Strings.Search2
import Derived.Shelf.Strings.Search3
import Derived.Shelf.Strings.Cut
import Derived.Shelf.Strings.Shaped
import Derived.Shelf.Sort.Plain
import Derived.Shelf.GgClosure.StringsIndexFunc
import Derived.Ground.GgwProg
import Derived.Shelf.GgClosure.StringsIndexFuncTop
import Derived.Shelf.GgClosure.StringsRunes
import Derived.Shelf.Strings.Prefix
import Derived.Shelf.Slices.Equal
import Derived.Ground.Names2Prog
import Derived.Shelf.Slices.Clone
import Derived.Shelf.Slices.In.SortNone
import Derived.Ground.SlsfProg
import Derived.Shelf.SlSortCmp.Insertion
import Derived.Shelf.SlSortCmp.SiftDown1
import Derived.Shelf.SlSortCmp.HeapSort1
import Derived.Shelf.SlSortCmp.Insertion1
import Derived.Shelf.SlSortCmp.Median1
import Derived.Shelf.SlSortCmp.Pivot1
import Derived.Shelf.SlSortCmp.ReverseRange1
import Derived.Shelf.SlSortCmp.PartialInsertion1
import Derived.Shelf.SlSortCmp.PartitionEqual1
import Derived.Shelf.SlSortCmp.Partition1
import Derived.Shelf.SlSortCmp.Pdq1
import Derived.Shelf.SlSortCmp.Whole1
import Derived.Shelf.Spec.SlicesGrow
import Derived.Ground.Names8Prog
import Derived.Test.YtdnfjhflkkpokaaGreatDoorProg
set_option linter.unusedSimpArgs false
set_option linter.unusedVariables false
set_option maxRecDepth 100000
namespace Go.Proofs.YtdnfjhflkkpokaaGreatDoor.Av
open Go
variable {f:FuncId}{caps C:List AV}{v:AV}{cap:Option Nat}{n:List UInt8}{ty:Typ}{ts:List Typ}
def JR:LSO:=[Ac 4 0,Af 5]
def JQ:LSO:=[Aa 6 0,Aa 7 1,Aj 8 46 7,o1 9 (.call 158 [(tm 6),(tm 8),(.av (.func 159 []))]),Ao 10 9,Aq 11 9,Aa 4 10,Aa 5 11]
def jC:aK:=⟨12,(asI JR [] (asI JQ CI .ret)),[(.tmp 4),(.tmp 5)]⟩
attribute [push_cast] JR JQ
theorem Ey:asN 103=asO jC:=asR
def vP:LSO:=[Az 2 0,Ac 4 0]
def vO:LSO:=[Ad 5 0 2,Ab 6 1 5,Aj 7 46 6,Aa 8 1,As 9 118 7 8,Aa 4 9]
def iH:aK:=⟨10,(asI vP [] (asI vO CB .ret)),[(.tmp 4)]⟩
attribute [push_cast] vP vO
theorem tH:asN 159=asO iH:=asR
def JP:LSO:=[Az 3 0,Ac 6 0,Af 7,Af 8]
def JO:LSO:=[Ad 14 1 3,Ab 15 1 14,Aa 16 2,As 17 68 15 16,Aa 13 17,Ao 18 13,Aq 19 13,Aa 9 18,Aa 10 19]
def JN:LSO:=[Aa 20 10,A7 21 20]
def JM:LSO:=[Ac 6 0,Af 7,Af 8]
def JL:LSO:=[Aa 23 1,Aa 24 9,o1 25 (.mkfn 166 [(tm 3)]),AI 26 165 23 24 25,Aa 22 26,Ao 27 22,Aq 28 22,Aa 11 27,Aa 12 28]
def JK:LSO:=[Aa 29 11,Aa 30 12,Aa 6 29,Aa 7 30,A0 8]
def jB:aK:=⟨31,(asI JP [] (asI JO CR (.seq (asI JN C4 (asK 21 (.sreg JM []))) (asI JL CR (asI JK CW .ret))))),[(.tmp 6),(.tmp 7),(.tmp 8)]⟩
attribute [push_cast] JP JO JN JM JL JK
theorem Ex:asN 111=asO jB:=asR
def vN:LSO:=[Ac 5 0]
def vM:LSO:=[Ad 9 1 2,Ab 10 1 9,Aa 11 0,As 12 68 10 11,Aa 8 12,Ao 13 8,Aq 14 8,Aa 6 13,Aa 7 14]
def vL:LSO:=[Aa 15 6,Aa 16 1,As 17 118 15 16,Aa 5 17]
def pA:aK:=⟨18,(asI vN [] (asI vM Dj (asI vL C7 .ret))),[(.tmp 5)]⟩
attribute [push_cast] vN vM vL
theorem Ta:asN 166=asO pA:=asR
def Rz:LSO:=[Ak 4]
def Ry:LSO:=[Aa 8 0,Aa 9 1,As 10 103 8 9,Aa 7 10,Ao 11 7,Aq 12 7,Aa 5 11,Aa 6 12]
def Rx:LSO:=[Aa 13 6]
def Rw:LSO:=[Aa 14 0,Aa 15 5,Am 16 2 14 15,Ad 17 1 16,Ab 18 1 17,Aj 19 47 18,Aa 4 19]
def Rv:LSO:=[Ak 4]
def i7:aK:=⟨20,(asI Rz [] (.seq (asI Ry CI (asI Rx [] (asK 13 (.sreg Rw CC)))) (asI Rv [] .ret))),[(.tmp 4)]⟩
attribute [push_cast] Rz Ry Rx Rw Rv
theorem tI:asN 67=asO i7:=asR
def Ru:LSO:=[Az 4 0,Af 8]
def Rt:LSO:=[Ar 17 2 4,Aa 18 2,As 19 45 17 18,Aa 16 19,Ao 20 16,Aq 21 16,By 9,Ap 4 9 20,Aa 10 21]
def Rs:LSO:=[Aa 23 1,Aa 24 2,As 25 103 23 24,Aa 22 25,Ao 26 22,Aq 27 22,Aa 11 26,Aa 12 27]
def Rr:LSO:=[Aa 28 10,A7 29 28,Aa 30 29,.grp none 30 false
 [Ag 31 30 12,AZ 32 30 31]
 33 (tm 32)]
def Rq:LSO:=[Af 8]
def Rp:LSO:=[Ar 35 4 9,Aa 36 1,Aa 37 11,Am 38 2 36 37,Ad 39 1 38,Ab 40 1 39,Aa 41 3,AI 42 111 35 40 41,Aa 34 42,Ao 43 34,Aq 44 34,Ba 45 34,Aa 13 43,Aa 14 44,Aa 15 45]
def Ro:LSO:=[Aa 46 14,Aa 8 46]
def Ow:aK:=⟨47,(asI Ru [] (asI Rt CI (asI Rs CI (.seq (asI Rr C7 (asK 33 (.sreg Rq []))) (.seq (.sdreg Rp [(.read 0 0),.pure,.pure,(.read 0 0),.pure,(.read 0 0),.pure,(.read 0 0),.pure,.pure,.pure,.pure,.pure,.pure] [false,true,false,false,false,false,false,false,false,false,false,false,false,false,false]) (asI Ro C4 .ret)))))),[(.tmp 8)]⟩
attribute [push_cast] Ru Rt Rs Rr Rq Rp Ro
theorem aay:asN 70=asO Ow:=asR
def FV:LSO:=[Az 2 0,By 4,Af 5]
def FU:LSO:=[Ar 6 2 2,o1 7 (.build [(.sl [] 0 (some 0)),(.sl [] 0 (some 0))] [(0,(2,(tm 6)))]),Aa 8 1,As 9 95 7 8,Ao 10 9,Aq 11 9,Ap 4 4 10,Aa 5 11]
def wt:aK:=⟨12,(asI FV [] (asI FU CC .ret)),[(.cell true 4 4),(.tmp 5)]⟩
attribute [push_cast] FV FU
theorem WY:asN 45=asO wt:=asR
def n7:LSO:=[Az 2 0,Az 3 1,By 4,Af 5]
def nZ:LSO:=[Ad 7 0 2,Ad 8 0 7,Ab 9 1 8,o1 10 (.mkfn 144 [(tm 3)]),As 11 143 9 10,Aa 6 11]
def nY:LSO:=[Aa 12 6,AJ 13 12 0]
def nX:LSO:=[o1 14 (.build [(.str []),(.int .i64 0),(.bool false),(.bool false)] []),Ap 4 4 14,Af 5]
def nW:LSO:=[Ad 15 0 2,Ad 16 0 15,Ab 17 1 16,Aa 18 6,Am 19 4 17 18,Ar 20 4 19,Ap 4 4 20,A0 5]
def jO:aK:=⟨21,(asI n7 [] (asI nZ CB (.seq (asI nY C4 (asK 13 (.sreg nX C4))) (asI nW CC .ret)))),[(.cell true 4 4),(.tmp 5)]⟩
attribute [push_cast] n7 nZ nY nX nW
theorem J5:asN 95=asO jO:=asR
def kZ:LSO:=[Az 2 0,Af 3]
def kY:LSO:=[Ad 4 0 2,Ab 5 1 4,Ab 6 1 1,As 7 145 5 6,Aa 3 7]
def iX:aK:=⟨8,(asI kZ [] (asI kY CA .ret)),[(.tmp 3)]⟩
attribute [push_cast] kZ kY
theorem Ev:asN 144=asO iX:=asR
def FT:LSO:=[Af 4]
def FR:LSO:=[Aa 5 0,Aj 6 46 5,Aa 7 1,Aj 8 46 7,AF 9 6 8,Aa 4 9]
def wq:aK:=⟨10,(asI FT [] (asI FR CB .ret)),[(.tmp 4)]⟩
attribute [push_cast] FT FR
theorem WX:asN 145=asO wq:=asR
def dV:LSO:=[Ac 4 0]
def dU:LSO:=[Aa 6 0,Ah 7 6,Ac 8 0]
def dT:LSO:=[Al 9 8 7]
def dS:LSO:=[Aa 10 8,Aa 5 10]
def dR:LSO:=[Aa 11 1,Aa 12 0,Aa 13 5,Am 14 4 12 13,Ar 15 4 14,B1 16 11 15]
def dQ:LSO:=[Aa 17 5,Aa 4 17]
def dP:LSO:=[Ai 18 8 1,Aa 8 18]
def dO:LSO:=[Ac 4 (-1)]
def dl:aK:=⟨19,(asI dV [] (.seq (asI dU CD (asL 0 (asI dT [] (.seq (asM 9 0) (.seq (.block 1 (asI dS C4 (asI dR CB (asK 16 (.sreg dQ C4))))) (.sreg dP C4)))))) (asI dO [] .ret))),[(.tmp 4)]⟩
attribute [push_cast] dV dU dT dS dR dQ dP dO
theorem iR:asN 143=asO dl:=asR
def cN:LSO:=[Ac 6 0,Af 7]
def cM:LSO:=[Aa 12 0,Ah 13 12,Aa 8 13]
def cL:LSO:=[Aa 14 8,Ac 9 0,Aa 10 14]
def cK:LSO:=[Aa 15 9,Aa 16 10,Al 17 15 16]
def cJ:LSO:=[Aa 18 9,Aa 19 10,AX 20 18 19,o1 21 (.conv .u64 (tm 20)),o1 22 (.bin .shr (tm 21) (.av (.int .u64 1))),Bz 23 22,
 Aa 11 23]
def cI:LSO:=[Aa 24 2,Aa 25 0,Aa 26 11,Am 27 2 25 26,Ar 28 2 27,Aa 29 1,BJ 30 24 28 29,AJ 31 30 0]
def cH:LSO:=[Aa 32 11,Ai 33 32 1,Aa 9 33]
def cG:LSO:=[Aa 34 11,Aa 10 34]
def cF:LSO:=[Aa 35 9,Aa 36 9,Aa 37 8,Al 38 36 37,Aa 39 38,.grp none 39 true
 [Ae 40 39 2,Ae 41 39 0,Ae 42 39 9,Bg 43 39 2 41 42,og 44 39 true (.load true 2 (tm 43)),Ae 45 39 1,og 46 39 true (.callv (tm 40) [(tm 44),(tm 45)]),AP 47 39 46 0]
 48 (tm 47),Aa 6 35,Aa 7 48]
def aU:aK:=⟨49,(asI cN [] (asI cM C6 (asI cL CD (.seq (asL 0 (.seq (asI cK C6 (asM 17 0)) (.block 1 (asI cJ CC (asI cI CE (asJ 31 (.sreg cH C6) (.sreg cG C4))))))) (asI cF CI .ret))))),[(.tmp 6),(.tmp 7)]⟩
attribute [push_cast] cN cM cL cK cJ cI cH cG cF
theorem cA:asN 158=asO aU:=asR
def di:LSO:=[Ac 6 0,Af 7]
def dh:LSO:=[Aa 12 0,Ah 13 12,Aa 8 13]
def df:LSO:=[Aa 14 8,Ac 9 0,Aa 10 14]
def de:LSO:=[Aa 15 9,Aa 16 10,Al 17 15 16]
def dd:LSO:=[Aa 18 9,Aa 19 10,AX 20 18 19,o1 21 (.conv .u64 (tm 20)),o1 22 (.bin .shr (tm 21) (.av (.int .u64 1))),Bz 23 22,
 Aa 11 23]
def dc:LSO:=[Aa 24 2,Aa 25 0,Aa 26 11,Am 27 1 25 26,Ab 28 1 27,Aa 29 1,BJ 30 24 28 29,AJ 31 30 0]
def db:LSO:=[Aa 32 11,Ai 33 32 1,Aa 9 33]
def da:LSO:=[Aa 34 11,Aa 10 34]
def cZ:LSO:=[Aa 35 9,Aa 36 9,Aa 37 8,Al 38 36 37,Aa 39 38,.grp none 39 true
 [Ae 40 39 2,Ae 41 39 0,Ae 42 39 9,Bg 43 39 1 41 42,A5 44 39 1 43,Ae 45 39 1,og 46 39 true (.callv (tm 40) [(tm 44),(tm 45)]),AP 47 39 46 0]
 48 (tm 47),Aa 6 35,Aa 7 48]
def be:aK:=⟨49,(asI di [] (asI dh C6 (asI df CD (.seq (asL 0 (.seq (asI de C6 (asM 17 0)) (.block 1 (asI dd CC (asI dc CE (asJ 31 (.sreg db C6) (.sreg da C4))))))) (asI cZ CI .ret))))),[(.tmp 6),(.tmp 7)]⟩
attribute [push_cast] di dh df de dd dc db da cZ
theorem cW:asN 165=asO be:=asR
def gK:LSO:=[Ak 2]
def gJ:LSO:=[Aa 3 0,o1 4 (.slnil false (tm 3))]
def gI:LSO:=[Ak 2]
def gH:LSO:=[Ce 5,Aa 6 0,BK 7 5 6,Aa 2 7]
def cq:aK:=⟨8,(asI gK [] (.seq (asI gJ C4 (asK 4 (.sreg gI []))) (asI gH C7 .ret))),[(.tmp 2)]⟩
attribute [push_cast] gK gJ gI gH
theorem gl:aL Tryz.prog (λr i=>if r=3/\i=2 then 2 else 1) 47=some cq.raw:=asR
attribute [push_cast] jB pA i7 Ow wt jO dl aU be cq
set_option maxHeartbeats 8000000
set_option maxRecDepth 100000
def aig(L:List Blk)(C:List AV)(n s:Nat)(v:AV):Prop:=(∃cap,v=.sl C n cap)\/∃i cp rest,v=.lsl i 0 n cp s/\L[i]?=some (.cells (C++rest))
def ao4(f:FuncId)(caps:List AV)(L:List Blk)(el:Nat->AV)(tg:AV)(n:Nat)(c:Nat->Int):Prop:=∀(h:Nat) (K:AV->List Blk->Prop),h<n->K (.int .i64 (c h)) L->apq f ([el h,tg]++caps) L K
theorem aoM{n m:Nat}{y:AV}{c:Nat->Int}{L:List Blk}(S:n<=1100000)(s:C.length=n*2)(J:m<=n)(B:aig L C n 2 v)(A:ao4 f caps L (λh=>.agg ((C.drop (h*2)).take 2)) y n c)(E:∀h,h<n->(c h<0↔h<m)){K:apr}(h:K (.tup [.int .i64 (m:Nat),.bool (decide (m<n)&&decide (c m=0))]) L):
  apq 158 [v,y,.func f caps] L K:=by
 replace h:=hid h;replace A:=hid A;replace E:=hid E;rcases B with⟨cap,rfl⟩|⟨Q,cp,rest,rfl,R⟩;refine apo cA ?_;refine aj (λq T' L'=>∃a b:Nat,q=b-a/\a<=m/\m<=b/\b<=n/\T'=[(10,.int .i64 (b:Int)),(9,.int .i64 (a:Int)),(8,.int .i64 (n:Nat)),(0,.sl C n cap),(1,y),(2,.func f caps)]/\L=L') (CutS (b:=apt _)) ⟨0,n,rfl,apv _,J,apt _,rfl,rfl⟩ ?_;rintro _ _ L' ⟨a,b,rfl,u,x,F,rfl,e⟩;subst e;by_cases H:a<b;have g1:(a:Int)<(b:Int):=asP;obtain⟨z,I⟩:∃z,z=(a+b)/2:=⟨_,rfl⟩;have D:IntKind.i64.wrap ((a:Int)+b)=(a:Int)+b:=ae asP asP;have g3:IntKind.u64.wrap ((a:Int)+b)=(a:Int)+b:=EF asP asP;have g4:Int.fdiv ((a:Int)+b) (2^(min 1 IntKind.u64.bits))=(z:Int):=by have:(2:Int)^(min 1 IntKind.u64.bits)=2:=(by decide);rw[this,asp _ asP];omega
 have P:IntKind.i64.wrap (z:Int)=z:=ae asP asP;have N:=apn z asP;have r:a<=z/\z<b:=asP;have M:(z:Int)<(n:Int):=asP;have p:z<n:=asP;have d:=E.o z p;have G:z*2+2<=C.length:=asP;replace r:=hid r;replace d:=hid d;replace s:=hid s;clear I;refine wk ?_;refine A.o z _ p ?_;refine sk ?_;obtain⟨w,k⟩:=apl (c z);rw[k]at d;simp only[k];by_cases i:w<0;have j:=d.o.1 i;clear d k;have t:=r.o;refine wk ?_;exact asU asP asS ⟨z+1,b,rfl,j,x,F,rfl,rfl⟩;have j:m<=z:=by rcases apV z m with e|e;exact absurd (d.o.2 e) i;exact e
 clear d k;have t:=r.o;refine wk ?_;exact asU asP asS ⟨a,z,rfl,u,j,asP,rfl,rfl⟩;obtain rfl:a=m:=asP;obtain rfl:b=a:=asP;have g1:¬(b:Int)<(b:Int):=asP;by_cases l:b<n;have D:(b:Int)<(n:Int):=asP;have g:=h.o;rw[decide_eq_true l,ap0]at g;obtain⟨w,k⟩:=apl (c b);rw[k]at g;replace g:=hid g;have G:b*2+2<=C.length:=asP;replace s:=hid s;have kk1:Hid (∀{K:apr},K (.int .i64 w) L->apq f (AV.agg ((C.drop (b*2)).take 2)::y::caps) L K):=hid λq=>A.o b _ l (by rw[k];exact q)
 refine wk ?_;exact aa g.o;have D:¬(b:Int)<(n:Int):=asP;have g:=h.o;rw[decide_eq_false l,aqg]at g;replace g:=hid g;refine wk ?_;exact aa g.o;refine apo cA ?_;refine aj (λq T' L'=>∃a b:Nat,q=b-a/\a<=m/\m<=b/\b<=n/\T'=[(10,.int .i64 (b:Int)),(9,.int .i64 (a:Int)),(8,.int .i64 (n:Nat)),(0,.lsl Q 0 n cp 2),(1,y),(2,.func f caps)]/\L=L') (CutS (b:=apt _)) ⟨0,n,rfl,apv _,J,apt _,rfl,rfl⟩ ?_;rintro _ _ L' ⟨a,b,rfl,u,x,F,rfl,e⟩;subst e;by_cases H:a<b;have g1:(a:Int)<(b:Int):=asP;obtain⟨z,I⟩:∃z,z=(a+b)/2:=⟨_,rfl⟩;have D:IntKind.i64.wrap ((a:Int)+b)=(a:Int)+b:=ae asP asP;have g3:IntKind.u64.wrap ((a:Int)+b)=(a:Int)+b:=EF asP asP;have g4:Int.fdiv ((a:Int)+b) (2^(min 1 IntKind.u64.bits))=(z:Int):=by have:(2:Int)^(min 1 IntKind.u64.bits)=2:=(by decide);rw[this,asp _ asP];omega
 have P:IntKind.i64.wrap (z:Int)=z:=ae asP asP;have N:=apn z asP;have r:a<=z/\z<b:=asP;have M:(z:Int)<(n:Int):=asP;have p:z<n:=asP;have d:=E.o z p;have O:((C++rest).drop (z*2)).take 2=(C.drop (z*2)).take 2:=by rw[List.drop_append_of_le_length asP,asE (by simp;omega)]
 have G:z*2+2<=C.length+rest.length:=asP;replace r:=hid r;replace d:=hid d;replace s:=hid s;clear I;refine wk ?_;refine A.o z _ p ?_;refine sk ?_;obtain⟨w,k⟩:=apl (c z);rw[k]at d;simp only[k];by_cases i:w<0;have j:=d.o.1 i;clear d k;have t:=r.o;refine wk ?_;exact asU asP asS ⟨z+1,b,rfl,j,x,F,rfl,rfl⟩;have j:m<=z:=by rcases apV z m with e|e;exact absurd (d.o.2 e) i;exact e
 clear d k;have t:=r.o;refine wk ?_;exact asU asP asS ⟨a,z,rfl,u,j,asP,rfl,rfl⟩;obtain rfl:a=m:=asP;obtain rfl:b=a:=asP;have g1:¬(b:Int)<(b:Int):=asP;by_cases l:b<n;have D:(b:Int)<(n:Int):=asP;have g:=h.o;rw[decide_eq_true l,ap0]at g;obtain⟨w,k⟩:=apl (c b);rw[k]at g;replace g:=hid g;have O:((C++rest).drop (b*2)).take 2=(C.drop (b*2)).take 2:=by rw[List.drop_append_of_le_length asP,asE (by simp;omega)]
 have G:b*2+2<=C.length+rest.length:=asP;replace s:=hid s;have kk1:Hid (∀{K:apr},K (.int .i64 w) L->apq f (AV.agg ((C.drop (b*2)).take 2)::y::caps) L K):=hid λq=>A.o b _ l (by rw[k];exact q)
 refine wk ?_;exact aa g.o;have D:¬(b:Int)<(n:Int):=asP;have g:=h.o;rw[decide_eq_false l,aqg]at g;replace g:=hid g;refine wk ?_;exact aa g.o
theorem aoL{n m:Nat}{y:AV}{c:Nat->Int}{L:List Blk}(S:n<=1100000)(s:C.length=n*1)(J:m<=n)(B:aig L C n 1 v)(A:ao4 f caps L (λh=>C.getD h .undef) y n c)(E:∀h,h<n->(c h<0↔h<m)){K:apr}(h:K (.tup [.int .i64 (m:Nat),.bool (decide (m<n)&&decide (c m=0))]) L):
  apq 165 [v,y,.func f caps] L K:=by
 replace h:=hid h;replace A:=hid A;replace E:=hid E;rcases B with⟨cap,rfl⟩|⟨Q,cp,rest,rfl,R⟩;refine apo cW ?_;refine aj (λq T' L'=>∃a b:Nat,q=b-a/\a<=m/\m<=b/\b<=n/\T'=[(10,.int .i64 (b:Int)),(9,.int .i64 (a:Int)),(8,.int .i64 (n:Nat)),(0,.sl C n cap),(1,y),(2,.func f caps)]/\L=L') (CutS (b:=apt _)) ⟨0,n,rfl,apv _,J,apt _,rfl,rfl⟩ ?_;rintro _ _ L' ⟨a,b,rfl,u,x,F,rfl,e⟩;subst e;by_cases H:a<b;have g1:(a:Int)<(b:Int):=asP;obtain⟨z,I⟩:∃z,z=(a+b)/2:=⟨_,rfl⟩;have D:IntKind.i64.wrap ((a:Int)+b)=(a:Int)+b:=ae asP asP;have g3:IntKind.u64.wrap ((a:Int)+b)=(a:Int)+b:=EF asP asP;have g4:Int.fdiv ((a:Int)+b) (2^(min 1 IntKind.u64.bits))=(z:Int):=by have:(2:Int)^(min 1 IntKind.u64.bits)=2:=(by decide);rw[this,asp _ asP];omega
 have P:IntKind.i64.wrap (z:Int)=z:=ae asP asP;have N:=apn z asP;have r:a<=z/\z<b:=asP;have M:(z:Int)<(n:Int):=asP;have p:z<n:=asP;have d:=E.o z p;have G:z<C.length:=asP;replace r:=hid r;replace d:=hid d;replace s:=hid s;clear I;refine wk ?_;refine A.o z _ p ?_;refine sk ?_;obtain⟨w,k⟩:=apl (c z);rw[k]at d;simp only[k];by_cases i:w<0;have j:=d.o.1 i;clear d k;have t:=r.o;refine wk ?_;exact asU asP asS ⟨z+1,b,rfl,j,x,F,rfl,rfl⟩;have j:m<=z:=by rcases apV z m with e|e;exact absurd (d.o.2 e) i;exact e
 clear d k;have t:=r.o;refine wk ?_;exact asU asP asS ⟨a,z,rfl,u,j,asP,rfl,rfl⟩;obtain rfl:a=m:=asP;obtain rfl:b=a:=asP;have g1:¬(b:Int)<(b:Int):=asP;by_cases l:b<n;have D:(b:Int)<(n:Int):=asP;have g:=h.o;rw[decide_eq_true l,ap0]at g;obtain⟨w,k⟩:=apl (c b);rw[k]at g;replace g:=hid g;have G:b<C.length:=asP;replace s:=hid s;have kk1:Hid (∀{K:apr},K (.int .i64 w) L->apq f (C.getD b .undef::y::caps) L K):=hid λq=>A.o b _ l (by rw[k];exact q)
 refine wk ?_;exact aa g.o;have D:¬(b:Int)<(n:Int):=asP;have g:=h.o;rw[decide_eq_false l,aqg]at g;replace g:=hid g;refine wk ?_;exact aa g.o;refine apo cW ?_;refine aj (λq T' L'=>∃a b:Nat,q=b-a/\a<=m/\m<=b/\b<=n/\T'=[(10,.int .i64 (b:Int)),(9,.int .i64 (a:Int)),(8,.int .i64 (n:Nat)),(0,.lsl Q 0 n cp 1),(1,y),(2,.func f caps)]/\L=L') (CutS (b:=apt _)) ⟨0,n,rfl,apv _,J,apt _,rfl,rfl⟩ ?_;rintro _ _ L' ⟨a,b,rfl,u,x,F,rfl,e⟩;subst e;by_cases H:a<b;have g1:(a:Int)<(b:Int):=asP;obtain⟨z,I⟩:∃z,z=(a+b)/2:=⟨_,rfl⟩;have D:IntKind.i64.wrap ((a:Int)+b)=(a:Int)+b:=ae asP asP;have g3:IntKind.u64.wrap ((a:Int)+b)=(a:Int)+b:=EF asP asP;have g4:Int.fdiv ((a:Int)+b) (2^(min 1 IntKind.u64.bits))=(z:Int):=by have:(2:Int)^(min 1 IntKind.u64.bits)=2:=(by decide);rw[this,asp _ asP];omega
 have P:IntKind.i64.wrap (z:Int)=z:=ae asP asP;have N:=apn z asP;have r:a<=z/\z<b:=asP;have M:(z:Int)<(n:Int):=asP;have p:z<n:=asP;have d:=E.o z p;have O:(C++rest).getD z .undef=C.getD z .undef:=by rw[apO,apx asP];rfl
 have G:z<C.length+rest.length:=asP;replace r:=hid r;replace d:=hid d;replace s:=hid s;clear I;refine wk ?_;refine A.o z _ p ?_;refine sk ?_;obtain⟨w,k⟩:=apl (c z);rw[k]at d;simp only[k];by_cases i:w<0;have j:=d.o.1 i;clear d k;have t:=r.o;refine wk ?_;exact asU asP asS ⟨z+1,b,rfl,j,x,F,rfl,rfl⟩;have j:m<=z:=by rcases apV z m with e|e;exact absurd (d.o.2 e) i;exact e
 clear d k;have t:=r.o;refine wk ?_;exact asU asP asS ⟨a,z,rfl,u,j,asP,rfl,rfl⟩;obtain rfl:a=m:=asP;obtain rfl:b=a:=asP;have g1:¬(b:Int)<(b:Int):=asP;by_cases l:b<n;have D:(b:Int)<(n:Int):=asP;have g:=h.o;rw[decide_eq_true l,ap0]at g;obtain⟨w,k⟩:=apl (c b);rw[k]at g;replace g:=hid g;have O:(C++rest).getD b .undef=C.getD b .undef:=by rw[apO,apx asP];rfl
 have G:b<C.length+rest.length:=asP;replace s:=hid s;have kk1:Hid (∀{K:apr},K (.int .i64 w) L->apq f (C.getD b .undef::y::caps) L K):=hid λq=>A.o b _ l (by rw[k];exact q)
 refine wk ?_;exact aa g.o;have D:¬(b:Int)<(n:Int):=asP;have g:=h.o;rw[decide_eq_false l,aqg]at g;replace g:=hid g;refine wk ?_;exact aa g.o
variable {L:List Blk}{K:apr}
theorem ah6(h:K (.sl [] 0 (some 0)) L):apq 47 [.sl [] 0 cap] L K:=by
 refine ab gl (by simp[cq]) ?_;simp only[cq,ag]
 repeat' first
  |refine bG ?_
  | (first|refine bw asR ?_|refine aN asR ?_|refine aQ ?_|refine cS ?_|refine bJ (fun _=>?_)|refine aF ?_|refine bA ?_)
    refine sm ?_
  | (first|refine bq asR ?_|refine bm ?_|refine aP ?_|refine bz ?_|refine bO (aE ?_))
    refine sl ?_
  |exact bK
  |first|apply bL|apply br|apply bM|apply bu|apply bN|apply bv
  |refine aT ?_
  |refine aO ?_
  |first|refine aR rfl ?_|refine aS rfl ?_|refine aB rfl ?_ ?_|refine aW rfl (λ_=>?_) (λ_=>?_)|refine aV rfl (λ_=>?_) (λ_=>?_)
  |((first|refine aA (λ_=>?_) (λ_=>?_)|refine aD (λ_=>?_) (λ_=>?_))<;>try refine sm ?_)
  |refine And.intro trivial ?_
  |refine And.intro asP ?_
  |refine bd rfl (λ_=>?_) (λ_=>?_)
  |refine And.intro ?_ ?_
 all_goals (first|refine ac rfl (Kto h ?_)|refine aa (Kto h ?_)|refine ac (by simp only[AV.refs,AV.refsL, *];rfl) (Kto h ?_)|refine aY (ac rfl (Kto h ?_))|(trace_state;fail))
 all_goals (first|(simp[*];done)|(simp[*];omega)|(simp[*];intros;omega)|(simp_all[Hid,Hid];done)|(simp_all[Hid,Hid];omega))
theorem akr{xs:List (List UInt8)}(c:xs.length≠0)(b:xs.length<=1100000)(h:K (.lsl L.length 0 xs.length none 1) (L++[.cells (xs.map AV.str)])):
  apq 47 [.sl (xs.map AV.str) xs.length cap] L K:=by
 have a:=ajp xs;refine apo gl ?_;refine amA L.length (.cells (xs.map AV.str)) rfl (apt _) asQ (by simp[AV.refs]) (jb _ _) ?_;simpa[AV.ren]using h
abbrev bS(s:List UInt8):Prop:=(s.length:Int)<=140737488351232
theorem aeA(a b:List UInt8):Lib.compareBytes a b<0↔a<b:=by rw[acX];by_cases h:a<b;simp[h];by_cases c:b<a<;>simp[h,c]
theorem ab0(a b:List UInt8):Lib.compareBytes a b=0↔a=b:=by rw[acX];by_cases h:a<b;simp only[h,if_true];exact⟨λe=>asP,λe=>by subst e;exact absurd h (aq9 _)⟩;by_cases c:b<a;simp only[h,c,if_true,if_false];exact⟨λe=>asP,λe=>by subst e;exact absurd c (aq9 _)⟩;simp only[h,c,if_false,true_iff];exact asq (arA.1 c) (arA.1 h)
def amS(w:AV):Prop:=(∃l n cap,w=.sl l n cap)\/∃i off n cp s,w=.lsl i off n cp s
theorem aji{x:List UInt8}{w:AV}(a:bS x)(b:amS w)(h:K (.int .i64 (Lib.compareBytes (ak x) n)) L):
  apq 159 [.agg [.str x,w],.str n] L K:=by
 replace h:=hid h;rcases b with⟨l,m,cap,rfl⟩|⟨i,off,m,cp,s,rfl⟩;refine ab tH (by simp[iH]) ?_;simp only[iH,ag];have kk1:=@asW _ _ _ _ (jD a);have kk2:=@hid _ @rR;refine wk ?_;exact ac rfl h.o;refine ab tH (by simp[iH]) ?_;simp only[iH,ag];have kk1:=@asW _ _ _ _ (jD a);have kk2:=@hid _ @rR;refine wk ?_;exact ac rfl h.o
def ao6(l:List Atr)(C:List AV):Prop:=C.length=l.length*2/\∀h:Nat,h<l.length->∃w,amS w/\(C.drop (h*2)).take 2=[.str (l.getD h ([],[])).1,w]
def acO{α:Type}(key:α->List UInt8)(l:List α)(k:List UInt8):Bool:=l.any λa=>decide (key a=k)
theorem Z6{α:Type}{key:α->List UInt8}{l:List α}{k:List UInt8}(b:ph key l){d:α}:acO key l k=(decide (jg key l k<l.length)&&decide (key (l.getD (jg key l k) d)=k)):=by rw[acO,ah5 b];by_cases a:jg key l k<l.length;rw[apD a,decide_eq_true a,ap0];simp[a];rw[ard asP,decide_eq_false a];rfl
theorem agw{l:List Atr}{L:List Blk}(t:l.length<=1100000)(j:ao6 l C)(f:aig L C l.length 2 v)(p:ph hG l)(i:bS n)(u:∀a∈l,bS a.1){K:apr}(h:K (.tup [.int .i64 (jg hG l (ak n):Nat),.bool (acO hG l (ak n))]) L):
  apq 103 [v,.str n] L K:=by
 have b:∀{K:apr},K (.tup [.int .i64 (jg hG l (ak n):Nat),.bool (acO hG l (ak n))]) L->apq 158 [v,.str (ak n),.func 159 []] L K:=λ{K} q=>by refine aoM (m:=jg hG l (ak n)) (c:=λh=>Lib.compareBytes (hG (l.getD h ([],[]))) (ak n)) t j.1 (acW _ _ _) f (λh K g s=>?_) (λh g=>?_) ?_;obtain⟨w,r,e⟩:=j.2 h g;simp only[e];refine aji (u _ ?_) r s;simp[g];simp only[aeA];have:=afU (key:=hG) (k:=ak n) p h g;simpa[g]using this;have:=Z6 (key:=hG) (k:=ak n) p (d:=([],[]));rw[this]at q;simpa only[ab0]using q
 replace b:=@hid _ @b;replace h:=hid h;rcases f with⟨cap,rfl⟩|⟨x,cp,rest,rfl,y⟩;refine ab Ey (by simp[jC]) ?_;simp only[jC,ag];have kk2:=@hid _ @b.o;have kk1:=@asW _ _ _ _ (jD i);refine wk ?_;exact aa h.o;refine ab Ey (by simp[jC]) ?_;simp only[jC,ag];have kk2:=@hid _ @b.o;have kk1:=@asW _ _ _ _ (jD i);refine wk ?_;exact aa h.o
abbrev tyC(ty:Typ):List AV:=[.str ty.1,.int .i64 ty.2.1,.bool ty.2.2.1,.bool ty.2.2.2]
theorem ah0{x:List UInt8}{p:Nat}{L:List Blk}(a:L[p]?=some (.cells (tyC ty))){K:apr}(h:K (.int .i64 (Lib.compareBytes (gm ty.2.1 x) n)) L):
  apq 166 [.str x,.str n,.ptr p 0] L K:=by
 unfold gm at h;refine apo Ta ?_;refine iT ?_;rcases hm:dm ty.2.1 x with _|m
 all_goals rw[hm]at h
 replace h:Hid (K (.int .i64 (Lib.compareBytes [] n)) L):=hid h;simp only[kj];refine sk ?_;have kk1:=@hid _ @rR;refine wk ?_;exact aa h.o;replace h:Hid (K (.int .i64 (Lib.compareBytes m n)) L):=hid h;simp only[kj];refine sk ?_;have kk1:=@hid _ @rR;refine wk ?_;exact aa h.o
def ak5(syn:Int)(l:List (List UInt8))(v:List UInt8):AV:=match dm syn v with
 |none=>.tup [.int .i64 0,.bool false,.bool false]
 |some n=>.tup [.int .i64 (jg (gm syn) l n:Nat),.bool (acO (gm syn) l n),.bool true]
theorem akk{l:List (List UInt8)}{w:AV}{v:List UInt8}{L:List Blk}(s:l.length<=1100000)(b:aig L (l.map AV.str) l.length 1 w)(p:ph (gm ty.2.1) l){K:apr}(h:K (ak5 ty.2.1 l v) L):
  apq 111 [.agg (tyC ty),w,.str v] L K:=by
 have a:∀(X:List Blk) (n:List UInt8){K:apr},K (.tup [.int .i64 (jg (gm ty.2.1) l n:Nat),.bool (acO (gm ty.2.1) l n)]) (L++(.cells (tyC ty)::X))->apq 165 [w,.str n,.func 166 [.ptr L.length 0]] (L++(.cells (tyC ty)::X)) K:=λX n {K} q=>by
  have f:aig (L++(.cells (tyC ty)::X)) (l.map AV.str) l.length 1 w:=by rcases b with⟨cap,rfl⟩|⟨i,cp,rest,rfl,j⟩;exact .inl ⟨cap,rfl⟩;exact .inr ⟨i,cp,rest,rfl,apm j⟩
  refine aoL (m:=jg (gm ty.2.1) l n) (c:=λh=>Lib.compareBytes (gm ty.2.1 (l.getD h [])) n) s asQ (acW _ _ _) f (λh K g r=>?_) (λh g=>?_) ?_;have e:(l.map AV.str).getD h .undef=.str (l.getD h []):=(by simp[g]);simp only[e];exact ah0 (by rw[apH (apt _),aqR];rfl) r;simp only[aeA];have:=afU (key:=gm ty.2.1) (k:=n) p h g;simpa[g]using this;have:=Z6 (key:=gm ty.2.1) (k:=n) p (d:=[]);rw[this]at q;simpa only[ab0]using q
 replace a:=@hid _ @a;unfold ak5 at h;rcases b with⟨cap,rfl⟩|⟨i,cp,rest,rfl,j⟩;refine apo Ex ?_;refine iT ?_;rcases hn:dm ty.2.1 v with _|n;rw[hn]at h;simp only at h;replace h:=hid h;simp only[kj];refine asX ?_;exact ac rfl h.o;rw[hn]at h;simp only at h;replace h:=hid h;simp only[kj];refine asX ?_;refine a.o [] n ?_;refine asX ?_;exact ac rfl h.o;refine apo Ex ?_;refine iT ?_;rcases hn:dm ty.2.1 v with _|n;rw[hn]at h;simp only at h;replace h:=hid h;simp only[kj];refine asX ?_;exact ac rfl h.o;rw[hn]at h;simp only at h;replace h:=hid h;simp only[kj];refine asX ?_;refine a.o [] n ?_;refine asX ?_;exact ac rfl h.o
def cV(ts:List Typ):List AV:=ts.flatMap tyC
theorem Tx(ts:List Typ):(cV ts).length=ts.length*4:=by
 induction ts with
 |nil=>rfl
 |cons a l ih=>simp only[cV,ap5,apB,tyC,apC,ap9]at ih⊢;omega
abbrev Eg:Typ:=([],0,false,false)
theorem OH:∀{ts:List Typ}{k:Nat},k<ts.length->((cV ts).drop (k*4)).take 4=tyC (ts.getD k Eg)
 |a::l,0,_=>rfl
 |a::l,k+1,h=>by have b:=@OH l k (by simpa using h);rw[show(k+1)*4=k*4+1+1+1+1 by omega];simpa[cV,tyC]using b
theorem anr{a b:List UInt8}(d:bS a)(c:bS b)(h:K (.bool (decide (ak a=ak b))) L):apq 145 [.str a,.str b] L K:=by replace h:=hid h;refine ab WX (by simp[wq]) ?_;simp only[wq,ag];have kk1:=@asW _ _ _ _ (jD d);have kk2:=@asW _ _ _ _ (jD c);refine wk ?_;exact aa h.o
theorem alU{p:Nat}(b:bS ty.1)(d:bS n){L:List Blk}(a:L[p]?=some (.cells [.str n])){K:apr}(h:K (.bool (decide (ak ty.1=ak n))) L):
  apq 144 [.agg (tyC ty),.ptr p 0] L K:=by
 replace h:=hid h;have c:∀X:List Blk,(L++X)[p]?=some (.cells [.str n]):=λX=>by rw[apx (aps.1 a).1];exact a
 refine ab Ev (by simp[iX]) ?_;simp only[iX,ag];have kk1:=@asW _ _ _ _ (anr b d);refine wk ?_;exact ac rfl h.o
theorem anx{q:Typ->Bool}{L:List Blk}(x:ts.length<=1100000)(l:∀(ty:Typ) (K:AV->List Blk->Prop),ty∈ts->K (.bool (q ty)) L->apq f (.agg (tyC ty)::caps) L K){K:apr}(p:(∀ty∈ts,q ty=false)->K (.int .i64 (-1)) L)(r:∀k:Nat,k<ts.length->(∀j,j<k->q (ts.getD j Eg)=false)->q (ts.getD k Eg)=true->K (.int .i64 k) L):
  apq 143 [.sl (cV ts) ts.length cap,.func f caps] L K:=by
 replace l:=hid l;replace p:=hid p;replace r:=hid r;refine apo iR ?_;refine aj (λn T' L'=>∃k:Nat,n=ts.length-k/\k<=ts.length/\T'=[(8,.int .i64 (k:Int)),(7,.int .i64 ts.length),(0,.sl (cV ts) ts.length cap),(1,.func f caps)]/\L=L' /\
  ∀j,j<k->q (ts.getD j Eg)=false) (CutS (b:=apt _)) ⟨0,rfl,apv _,rfl,rfl,asQ⟩ ?_
 rintro _ _ L' ⟨k,rfl,u,rfl,e,i⟩;subst e;replace i:=hid i;by_cases g:k<ts.length;have g1:(k:Int)<(ts.length:Int):=asP;have w:=apn k asP;have v:k*4+4<=(cV ts).length:=by rw[Tx];omega
 have m:=OH g;obtain⟨ty,c⟩:=apl (ts.getD k Eg);have s:ty∈ts:=by rw[<- c];simp[g]
 rw[c]at m;replace c:=hid c;rcases d:q ty with _|_;have kk1:Hid (∀{K:apr},K (.bool false) L->apq f (.agg (tyC ty)::caps) L K):=hid λa=>l.o ty _ s (by rw[d];exact a)
 replace d:=hid d;simp only[tyC]at kk1 m;refine wk ?_;refine asU asP asS ⟨k+1,rfl,g,rfl,rfl,λj t=>?_⟩;rcases apV j k with h|h;exact i.o j h;have:j=k:=asP;subst this;rw[c.o];exact d.o;have kk1:Hid (∀{K:apr},K (.bool true) L->apq f (.agg (tyC ty)::caps) L K):=hid λa=>l.o ty _ s (by rw[d];exact a)
 replace d:=hid d;simp only[tyC]at kk1 m;refine wk ?_;exact aa (r.o k g i.o (by rw[c.o];exact d.o));have g1:¬(k:Int)<(ts.length:Int):=asP;refine wk ?_;refine aa (p.o λty c=>?_);obtain⟨j,t,e⟩:=aqn.1 c;have:=i.o j asP;simpa[t,e]using this
def tt(o:Option Typ):AV:=.tup [.agg (tyC (o.getD Eg)),.bool o.isSome]
theorem SS{α:Type}{q:α->Bool}{d:α}:∀{l:List α}{k:Nat},k<l.length->(∀j,j<k->q (l.getD j d)=false)->q (l.getD k d)=true->l.find? q=some (l.getD k d)
 |a::t,0,_,_,h=>by simp only[arj]at h⊢;rw[ars,h]
 |a::t,k+1,hk,hp,h=>by have b:=hp 0 asP;simp only[arj]at b;rw[ars,b];simp only[arM]at h⊢;exact SS (by simpa using hk) (λj c=>by simpa using hp (j+1) asP) h
theorem ans{b:Option Nat}{c2:List AV}{u:Nat}{c:Option Nat}(r:ts.length<=1100000)(g:∀t∈ts,bS t.1)(v:bS n)(h:K (tt (gV ts n)) L):
  apq 95 [.agg [.sl (cV ts) ts.length b,.sl c2 u c],.str n] L K:=by
 replace h:=hid h;refine apo J5 ?_;refine anx (q:=λt=>decide (ak t.1=ak n)) r (λty K s f=>?_) (λi=>?_) (λk f m l=>?_);exact alU (g ty s) v asQ f;have e:gV ts n=none:=aq2.2 λt p=>by simpa using i t p
 rw[e]at h;simp only[tt,arH,asg,tyC]at h;refine asX ?_;exact ac rfl h.o;have e:gV ts n=some (ts.getD k Eg):=SS (d:=Eg) f m l;have w:k*4+4<=(cV ts).length:=by rw[Tx];omega
 have j:=OH f;have g1:¬(k:Int)<0:=asP;have x:(k:Int)<(ts.length:Int):=asP;obtain⟨ty,a⟩:=apl (ts.getD k Eg);rw[a]at e j;rw[e]at h;simp only[tt,aql,asl,tyC]at h j;clear m l a e;refine asX ?_;exact ac rfl h.o
theorem acR{c:Option Nat}{c2:List AV}{i:Nat}{a:Option Nat}(g:ts.length<=1100000)(e:∀t∈ts,bS t.1)(j:bS n)(h:K (tt (gV ts n)) L):
  apq 45 [.agg [.sl (cV ts) ts.length c,.sl c2 i a],.str n] L K:=by
 unfold tt at h;refine apo WY ?_;refine ans g e j ?_;unfold tt;obtain⟨ty,d⟩:=apl ((gV ts n).getD Eg);obtain⟨b,f⟩:=apl ((gV ts n).isSome);rw[d,f]at h⊢;replace h:=hid h;refine asX ?_;exact ac rfl h.o
inductive Nd where
 |mk (tag:Int) (data:List UInt8) (kids:List Nd)
def Nd.tag:Nd->Int
 |.mk t _ _=>t
def Nd.data:Nd->List UInt8
 |.mk _ d _=>d
def Nd.kids:Nd->List Nd
 |.mk _ _ k=>k
abbrev ape:Nd:=.mk 0 [] []
instance:Inhabited Nd:=⟨ape⟩
def b8(n:Nat):UInt8:=UInt8.ofNat n
structure Upd where
 kind:Int
 dn:List Rdn
 tw:List Rdn
 attrs:List Atr
abbrev aju:Upd:=⟨0,[],[],[]⟩
abbrev dnA(d:List Rdn):AV:=.sl (d.map aq) d.length none
abbrev rA(u:Upd):List AV:=[.int .i64 u.kind,dnA u.dn,dnA u.tw,.sl (aJ u.attrs) u.attrs.length none]
def dnB(d:List Rdn):Prop:=d.length<=1100000/\∀r∈d,r.length<=1100000
end Go.Proofs.YtdnfjhflkkpokaaGreatDoor.Av
namespace Go.Proofs
open Go.Shelf
def Tryz.growD_ren:Go.Shelf.Ren:=⟨λ|4=>157|n=>n,λ|22=>24|25=>99|3=>3|4=>4|9=>9|20=>20|0=>0|n=>n,λ|n=>n⟩
theorem Tryz.growD:Go.Proofs.Lays8.n4 Tryz.prog Tryz.growD_ren:={
 mixed:=by kernel_rfl
 f4:=⟨Tryz.f157.name,by decide,Tryz.func157.trans (congrArg some (by kernel_rfl))⟩
 t0:=Tryz.underlying0
 a0:=Tryz.isAgg0
 z0:=Tryz.sizeOf0
 v0:=Tryz.zeroValue0
 t3:=Tryz.underlying3
 a3:=Tryz.isAgg3
 z3:=Tryz.sizeOf3
 v3:=Tryz.zeroValue3
 t4:=Tryz.underlying4
 a4:=Tryz.isAgg4
 z4:=Tryz.sizeOf4
 v4:=Tryz.zeroValue4
 t9:=Tryz.underlying9
 a9:=Tryz.isAgg9
 z9:=Tryz.sizeOf9
 v9:=Tryz.zeroValue9
 t20:=Tryz.underlying20
 a20:=Tryz.isAgg20
 z20:=Tryz.sizeOf20
 v20:=Tryz.zeroValue20
 t22:=Tryz.underlying24
 a22:=Tryz.isAgg24
 z22:=Tryz.sizeOf24
 v22:=Tryz.zeroValue24}
end Go.Proofs
set_option maxRecDepth 100000
namespace Go.Proofs.YtdnfjhflkkpokaaGreatDoor.Av
open Go
def XW:LSO:=[Ak 4]
def XV:LSO:=[Ak 5]
def XU:LSO:=[Aa 8 1,Aa 9 0,o1 10 (.bslice false 1 2 [(.sl [] 0 (some 0)),(.sl [] 0 (some 0))] [(0,(1,(tm 8))),(1,(1,(tm 9)))]),Aj 11 102 10,Ah 12 11,Ac 13 0]
def XT:LSO:=[Al 14 13 12]
def XS:LSO:=[Am 15 1 11 13,Ab 16 1 15,Aa 7 16]
def XR:LSO:=[Aa 17 5,Aa 18 7,o1 19 (.app 0 2 32 [(.str []),(.str [])] (.av (.sl [] 0 (some 0))) (tm 18)),Bm 20 19,Bj 21 17 20,Aa 5 21]
def XQ:LSO:=[Ai 22 13 1,Aa 13 22]
def XP:LSO:=[Aa 23 5,Aa 4 23]
def EA:aK:=⟨24,(asI XW [] (asI XV [] (.seq (asI XU CV (asL 0 (asI XT [] (.seq (asM 14 0) (.seq (.block 1 (asI XS C6 (.sreg XR CB))) (.sreg XQ C4)))))) (asI XP C4 .ret)))),[(.tmp 4)]⟩
attribute [push_cast] XW XV XU XT XS XR XQ XP
theorem Wo:aL Tryz.prog (λr i=>if r=5/\i=2 then 0 else 1) 59=some EA.raw:=asR
def fO:LSO:=[Ak 2]
def fN:LSO:=[Ac 3 0]
def fM:LSO:=[Aa 9 0,Ah 10 9,Ac 11 0]
def fL:LSO:=[Al 12 11 10]
def fK:LSO:=[Am 13 1 9 11,Ab 14 1 13,Aa 5 14]
def fJ:LSO:=[Aa 15 3,Aa 16 5,Ah 17 16,AX 18 15 17,Aa 3 18]
def fI:LSO:=[Aa 19 3,AJ 20 19 0]
def fH:LSO:=[o1 21 (.mkif 9 (.av (.str [108,101,110,32,111,117,116,32,111,102,32,114,97,110,103,101]))),
 .op ⟨none,.bad,none⟩]
def fG:LSO:=[Ai 22 11 1,Aa 11 22]
def fF:LSO:=[Aa 23 3,o1 24 (.call 157 [(.av (.sl [] 0 (some 0))),(tm 23)]),Aa 6 24]
def fz:LSO:=[Aa 25 0,Ah 26 25,Ac 27 0]
def fy:LSO:=[Al 28 27 26]
def fu:LSO:=[Am 29 1 25 27,Ab 30 1 29,Aa 8 30]
def ft:LSO:=[Aa 31 6,Aa 32 8,Bj 33 31 32,Aa 6 33]
def fo:LSO:=[Ai 34 27 1,Aa 27 34]
def fm:LSO:=[Aa 35 6,Aa 2 35]
def dK:aK:=⟨36,(asI fO [] (asI fN [] (.seq (asI fM [] (asL 0 (asI fL [] (.seq (asM 12 0) (.seq (.block 1 (asI fK C6 (asI fJ CA (asI fI C4 (asJ 20 (.sreg fH [false]) .skip))))) (.sreg fG C4)))))) (asI fF C6 (.seq (asI fz [] (asL 2 (asI fy [] (.seq (asM 28 2) (.seq (.block 3 (asI fu C6 (.sreg ft C7))) (.sreg fo C4)))))) (asI fm C4 .ret)))))),[(.tmp 2)]⟩
attribute [push_cast] fO fN fM fL fK fJ fI fH fG fF fz fy fu ft fo fm
theorem ku:asN 102=asO dK:=asR
def Ug:LSO:=[AU 2,Ac 3 0]
def Uf:LSO:=[Aa 7 0,Aj 8 36 7,Aa 6 8,Ao 9 6,Aq 10 6,Aa 4 9,Aa 5 10]
def Ue:LSO:=[Aa 11 5,AB 12 11 0]
def Ud:LSO:=[Aa 13 5,AU 2,Aa 3 13]
def Uc:LSO:=[Aa 14 0,Ah 15 14,An 16 15 0]
def Ub:LSO:=[AU 2,Ac 3 2]
def Ua:LSO:=[Aa 17 0,BW 18 59 17,
 .op ⟨(some 19),.mkmap,none⟩,
 .op ⟨(some 20),.mkmap,none⟩,o1 21 (.build [(.sl [] 0 (some 0)),.nilmap,.nilmap,(.int .i64 0)] [(0,(1,(tm 18))),(1,(1,(tm 19))),(2,(1,(tm 20))),(3,(1,(iv 0)))]),Az 22 21,
 o1 23 (.build [.nilptr] [(0,(1,(tm 22)))]),Az 24 23,Aa 2 24,Ac 3 0]
def jM:aK:=⟨25,(asI Ug [] (.seq (asI Uf CC (asI Ue C4 (asK 12 (.sreg Ud CD)))) (.seq (asI Uc C6 (asK 16 (.sreg Ub []))) (asI Ua Dl .ret)))),[(.tmp 2),(.tmp 3)]⟩
attribute [push_cast] Ug Uf Ue Ud Uc Ub Ua
theorem wn:asN 30=asO jM:=asR
def xb:LSO:=[Az 3 1,Ac 4 0]
def xa:LSO:=[Aa 17 0,B6 18 17]
def w9:LSO:=[Ac 4 1]
def w8:LSO:=[Aa 19 0,Au 20 19,Ad 21 0 20,Ab 22 1 21,Ar 23 4 3,As 24 78 22 23,Aa 5 24]
def w7:LSO:=[Aa 25 5,AB 26 25 0]
def wZ:LSO:=[Aa 27 5,Aa 4 27]
def wY:LSO:=[Aa 28 0,Au 29 28,Ad 30 0 29,Ab 31 1 30,Ad 32 1 3,Ab 33 1 32,As 34 24 31 33,Aa 6 34]
def wX:LSO:=[Ad 35 0 3,Ab 36 1 35]
def wW:LSO:=[An 38 36 1,Aa 37 38]
def wV:LSO:=[Aa 39 0,Au 40 39,Ad 41 0 40,Ab 42 1 41,Au 43 42,Ad 44 3 43,Ab 45 1 44,Ai 46 45 1,Au 47 42,Ad 48 3 47,Ap 1 48 46]
def uE:List (aw×Kd):=
 [AD 49 0,AT 50 49 0 1,A9 51 0 50,AA 52 1 51 0 1,AT 53 52 0 1,A9 54 1 53,AA 55 1 54 0 1,AD 56 0,AT 57 56 0 1,A9 58 0 57,AA 59 1 58 0 1,AT 60 59 0 1,A9 61 3 60,AA 62 1 61 0 1,
 A9 63 3 3,AA 64 1 63 0 0,Bf 65 60 64 0 0,od 66 (.build [(.sl [] 0 (some 0)),(.sl [] 0 (some 0)),(.sl [] 0 (some 0)),(.int .i64 0)] [(2,(1,(tm 65)))]) .pure,
 od 67 (.box (tm 66)) .eff]
def sG:List aw :=
 [⟨none,(.mset .int (tm 55) (tm 62) (tm 67)),none⟩]
def uD:List (aw×Kd):=
 [AD 68 0,AD 69 0,AT 70 69 0 0,A9 71 0 70,AA 72 1 71 0 0,AT 73 72 0 0,A9 74 3 73,AA 75 1 74 0 0,A9 76 1 3,AA 77 1 76 0 0]
def sF:List aw :=
 [⟨(some 78),(.call 79 [(tm 68),(tm 75),(tm 77)]),none⟩]
def uC:LSO:=[Aa 79 0,Ad 80 1 3,Ab 81 1 80,Bv 82 80 79 81 1]
def uB:LSO:=[An 84 36 2,Aa 83 84]
def uA:LSO:=[Ad 86 1 3,Ab 87 1 86,Aj 88 58 87,Aa 85 88,Ao 89 85,Aq 90 85,Aa 7 89,Aa 8 90]
def uz:LSO:=[Aa 91 0,Au 92 91,Ad 93 0 92,Ab 94 1 93,Au 95 94,Ad 96 2 95,Ab 97 1 96,Aa 98 7,o0 (.mdel .str (tm 97) (tm 98))]
def uy:LSO:=[Aa 99 0,Au 100 99,Ad 101 0 100,Ab 102 1 101,Au 103 102,Ad 104 1 103,Ab 105 1 104,Aa 106 6,o0 (.mdel .int (tm 105) (tm 106))]
def ux:LSO:=[Aa 107 0,Ad 108 1 3,Ab 109 1 108,Bv 110 80 107 109 (-1)]
def uw:LSO:=[An 112 36 3,Aa 111 112]
def uv:List (aw×Kd):=
 [AD 113 0,AT 114 113 0 0,A9 115 0 114,AA 116 1 115 0 0,AT 117 116 0 0,A9 118 1 117,AA 119 1 118 0 0,AD 120 6,od 121 (.mget .int false .nilptr (tm 119) (tm 120)) (.read 0 0),
 A9 122 3 3,AA 123 1 122 0 0,Bf 124 60 123 0 0]
def sE:List aw :=
 [⟨(some 125),(.nilchk (tm 121)),none⟩,⟨(some 126),(.faddr 2 (tm 125)),none⟩,⟨none,(.store 1 (tm 126) (tm 124)),none⟩]
def uu:LSO:=[An 128 36 4,Aa 127 128]
def ur:LSO:=[Aa 129 0,Au 130 129,Ad 131 0 130,Ab 132 1 131,Aa 133 6,Bv 134 23 132 133 2,Aa 9 134]
def uo:LSO:=[Aa 135 9,Ah 136 135,Ac 137 0]
def um:LSO:=[Al 138 137 136]
def ul:LSO:=[Am 139 1 135 137,Ab 140 1 139,Aa 11 140]
def uj:LSO:=[Aa 142 0,Au 143 142,Ad 144 0 143,Ab 145 1 144,Au 146 145,Ad 147 1 146,Ab 148 1 147,Aa 149 11,Bw 150 148 149,Au 151 150,Ad 152 0 151,Ab 153 1 152,
 Aj 154 58 153,Aa 141 154,Ao 155 141,Aq 156 141,Aa 12 155,Aa 13 156]
def ui:LSO:=[Aa 157 0,Au 158 157,Ad 159 0 158,Ab 160 1 159,Au 161 160,Ad 162 2 161,Ab 163 1 162,Aa 164 12,o0 (.mdel .str (tm 163) (tm 164))]
def uh:LSO:=[Ai 165 137 1,Aa 137 165]
def ug:LSO:=[Aa 166 0,Ad 167 1 3,Ab 168 1 167,Bv 169 80 166 168 (-1)]
def uf:LSO:=[Aa 170 9,Ah 171 170,Ac 172 0]
def ue:LSO:=[Al 173 172 171]
def uc:LSO:=[Am 174 1 170 172,Ab 175 1 174,Aa 15 175]
def ub:LSO:=[Aa 176 0,Au 177 176,Ad 178 0 177,Ab 179 1 178,Au 180 179,Ad 181 1 180,Ab 182 1 181,Aa 183 15,Bw 184 182 183,Au 185 184,Ad 186 0 185,Ab 187 1 186,
 Aa 16 187]
def t8:List (aw×Kd):=
 [AD 188 0,AD 189 15,A9 190 2 3,AA 191 1 190 0 0,AD 192 16,AD 193 16,od 194 (.len false (tm 193)) (.read 0 0),A9 195 1 3,AA 196 1 195 0 0,
 od 197 (.len false (tm 196)) (.read 0 0),od 198 (.bin .sub (tm 194) (tm 197)) .pure,od 199 (.slV 1 (tm 192) none (some (tm 198)) none) (.read 0 0),
 od 200 (.call 59 [(tm 191),(tm 199)]) (.read 0 0)]
def sD:List aw :=
 [⟨(some 201),(.call 79 [(tm 188),(tm 189),(tm 200)]),none⟩]
def t7:LSO:=[Ai 202 172 1,Aa 172 202]
def tZ:LSO:=[Aa 203 0,Ad 204 2 3,Ab 205 1 204,Bv 206 80 203 205 1]
def tY:List (aw×Kd):=
 [AD 207 0,AT 208 207 0 0,A9 209 0 208,AA 210 1 209 0 0,AT 211 210 0 0,A9 212 1 211,AA 213 1 212 0 0,AD 214 6,od 215 (.mget .int false .nilptr (tm 213) (tm 214)) (.read 0 0),
 A9 216 3 3,AA 217 1 216 0 0,Bf 218 60 217 0 0]
def sB:List aw :=
 [⟨(some 219),(.nilchk (tm 215)),none⟩,⟨(some 220),(.faddr 2 (tm 219)),none⟩,⟨none,(.store 1 (tm 220) (tm 218)),none⟩]
def tX:LSO:=[Ac 4 0]
def cT:aK:=⟨221,(asI xb [] (.seq (asI xa C4 (asK 18 (.sreg w9 []))) (.seq (.sdreg w8 [.pure,(.read 0 0),.pure,(.read 0 0),(.read 0 0)] CC) (.seq (asI w7 C4 (asK 26 (.sreg wZ C4))) (.seq (.sdreg wY [.pure,(.read 0 0),.pure,(.read 0 0),.pure,(.read 0 0)] CE) (.seq (asI wX C4 (.block 0 (asI wW C4 (asJ 37 (asI wV Dg (.seq (.dregM uE sG [false,false,false,false,false,false,false,false,false,false,false,false,false,false,false,false,false,false,false]) (.seq (.dregM uD sF [false,false,false,false,false,false,false,false,false,false,false]) (.sreg uC CN)))) (asI uB C4 (asJ 83 (asI uA CZ (asI uz CO (asI uy CO (.sreg ux CN)))) (asI uw C4 (asJ 111 (.dregM uv sE Dh) (asI uu C4 (asJ 127 (asI ur CC (.seq (asI uo [] (asL 1 (asI um [] (.seq (asM 138 1) (.seq (.block 2 (asI ul C6 (asI uj [false,true,false,false,false,false,false,false,false,false,false,false,false,false,false,false,false,false] (.sreg ui CO)))) (.sreg uh C4)))))) (asI ug CN (.seq (asI uf [] (asL 3 (asI ue [] (.seq (asM 173 3) (.seq (.block 4 (asI uc C6 (asI ub Dp (.dregM t8 sD Dh)))) (.sreg t7 C4)))))) (asI tZ CN (.dregM tY sB Dh)))))) .skip)))))))))) (asI tX [] .ret))))))),[(.tmp 4)]⟩
attribute [push_cast] xb xa w9 w8 w7 wZ wY wX wW wV uE sG uD sF uC uB uA uz uy ux uw uv sE uu ur uo um ul uj ui uh ug uf ue uc ub t8 sD t7 tZ tY sB tX
theorem fV:asN 34=asO cT:=asR
def sy:LSO:=[Az 3 1,Ac 4 0]
def sx:LSO:=[Aa 8 0,B6 9 8]
def sw:LSO:=[Ac 4 1]
def su:LSO:=[Aa 10 0,Ad 11 1 3,Ab 12 1 11,As 13 24 10 12,Aa 5 13]
def sq:LSO:=[Ad 14 0 3,Ab 15 1 14]
def sn:LSO:=[An 17 15 1,Aa 16 17]
def sj:LSO:=[Ad 19 1 3,Ab 20 1 19,Aj 21 36 20,Aa 18 21,Ao 22 18,Aq 23 18,Aa 6 22,Aa 7 23]
def sh:LSO:=[Aa 25 7,AB 26 25 0,Aa 24 26]
def sg:LSO:=[Ac 4 34]
def se:LSO:=[Aa 28 5,A8 29 28 0,Aa 27 29]
def qz:LSO:=[Ac 4 68]
def qw:LSO:=[Aa 31 0,Ad 32 1 3,Ab 33 1 32,Aa 34 0,Au 35 34,Ad 36 0 35,Ab 37 1 36,AI 38 123 31 33 37,A7 39 38,Aa 40 39,.grp none 40 true
 [A6 41 40 1 3,A5 42 40 1 41,AE 43 40 42,AP 44 40 43 0,Ae 45 40 44,.grp (some (40,true)) 45 false
 [Ag 46 45 0,A3 47 45 1 3,Ay 48 45 1 47,og 49 45 false (.slV 1 (tm 48) (some (iv 1)) none none),BX 50 45 24 46 49,AH 51 45 50 0]
 52 (tm 51)]
 53 (tm 52),Aa 30 53]
def qu:LSO:=[Ac 4 32]
def qt:LSO:=[Aa 55 0,Au 56 55,Ad 57 1 56,Ab 58 1 57,o1 59 (.mlen (tm 58)),AL 60 59 4096,Aa 54 60]
def qr:LSO:=[Ac 4 80]
def qq:LSO:=[Ac 4 0]
def qo:LSO:=[An 62 15 2,Aa 61 62]
def qn:LSO:=[An 63 15 3,Aa 61 63]
def qm:LSO:=[An 64 15 4,Aa 61 64]
def ql:LSO:=[Aa 65 5,An 66 65 0]
def qj:LSO:=[Ac 4 32]
def qi:LSO:=[Ad 67 0 3,Ab 68 1 67]
def qh:LSO:=[An 70 68 2,Aa 69 70]
def qg:LSO:=[Aa 71 0,Au 72 71,Ad 73 1 72,Ab 74 1 73,Aa 75 5,Bw 76 74 75,Au 77 76,Ad 78 3 77,Ab 79 1 78,A8 80 79 0]
def qf:LSO:=[Ac 4 66]
def qd:LSO:=[Ac 4 0]
def qc:LSO:=[An 82 68 3,Aa 81 82]
def p9:LSO:=[Ac 4 0]
def p0:LSO:=[An 84 68 4,Aa 83 84]
def pZ:LSO:=[Aa 85 0,Aa 86 5,Ar 87 4 3,AI 88 124 85 86 87,Aa 4 88]
def pY:LSO:=[Ac 4 1]
def ax:aK:=⟨89,(asI sy [] (.seq (asI sx C4 (asK 9 (.sreg sw []))) (asI su CA (.seq (asI sq C4 (.block 0 (asI sn C4 (asJ 16 (asI sj CE (.seq (.block 1 (asI sh C6 (asJ 24 (asI sg [] .ret) (asI se C6 (asJ 27 (asI qz [] .ret) (.seq (.sdreg qw [.pure,.pure,(.read 0 0),.pure,(.read 0 0),.pure,(.read 0 0),(.read 0 0),.pure,.pure,.pure,(.read 0 0),(.read 0 0),.pure,.pure,.pure,.pure,(.read 0 0),(.read 0 0)] CK) (asJ 30 (asI qu [] .ret) (asI qt CC (asK 54 (.sreg qr [])))))))))) (asI qq [] .ret))) (.seq (asI qo C4 (asJ 61 .skip (asI qn C4 (asJ 61 .skip (.sreg qm C4))))) (asJ 61 (asI ql C4 (asK 66 (.sreg qj []))) .skip)))))) (.seq (asI qi C4 (.block 2 (asI qh C4 (asJ 69 (.seq (asI qg CG (asK 80 (.sreg qf []))) (asI qd [] .ret)) (asI qc C4 (asJ 81 (asI p9 [] .ret) (asI p0 C4 (asK 83 (.sreg pZ CA))))))))) (asI pY [] .ret)))))),[(.tmp 4)]⟩
attribute [push_cast] sy sx sw su sq sn sj sh sg se qz qw qu qt qr qq qo qn qm ql qj qi qh qg qf qd qc p9 p0 pZ pY
theorem bj:asN 78=asO ax:=asR
def sb:LSO:=[Ac 4 0]
def sa:LSO:=[Aa 7 0,B6 8 7]
def rZ:LSO:=[Ac 4 0]
def rY:LSO:=[Aa 10 1,Aj 11 58 10,Aa 9 11,Ao 12 9,Aq 13 9,Aa 5 12,Aa 6 13]
def rX:LSO:=[Aa 14 6,AB 15 14 0]
def rW:LSO:=[Ac 4 0]
def rV:LSO:=[Aa 16 0,Au 17 16,Ad 18 2 17,Ab 19 1 18,Aa 20 5,o1 21 (.mget .str false (.int .i64 0) (tm 19) (tm 20)),Aa 4 21]
def bI:aK:=⟨22,(asI sb [] (.seq (asI sa C4 (asK 8 (.sreg rZ []))) (asI rY CH (.seq (asI rX C4 (asK 15 (.sreg rW []))) (asI rV CC .ret))))),[(.tmp 4)]⟩
attribute [push_cast] sb sa rZ rY rX rW rV
theorem dF:asN 24=asO bI:=asR
def Jz:LSO:=[Az 1 0,Af 2]
def Jy:LSO:=[Ad 9 1 1,Ab 10 1 9,Ad 11 2 1,Ab 12 1 11,o1 13 (.bslice false 1 2 [(.sl [] 0 (some 0)),(.sl [] 0 (some 0))] [(0,(1,(tm 10))),(1,(1,(tm 12)))]),Ah 14 13,
 Ac 15 0]
def Jx:LSO:=[Al 16 15 14]
def Jw:LSO:=[Am 17 1 13 15,Ab 18 1 17,Aa 4 18]
def Jv:LSO:=[Aa 19 4,Ah 20 19,A8 21 20 40]
def Ju:LSO:=[Af 2]
def Jt:LSO:=[Aa 22 4,Ah 23 22,Ac 24 0]
def Js:LSO:=[Al 25 24 23]
def Jr:LSO:=[Am 26 1 22 24,Ab 27 1 26,Aa 6 27]
def Jq:LSO:=[Aa 28 6,Ah 29 28,Ac 30 0]
def DY:LSO:=[Al 31 30 29]
def DX:LSO:=[Am 32 2 28 30,Ar 33 2 32,Bn 8,Ap 2 8 33]
def DW:LSO:=[Aa 34 6,Ah 35 34,A8 36 35 10,Aa 37 36,.grp none 37 false
 [A3 38 37 1 8,Ay 39 37 1 38,Bt 40 37 39,AC 41 37 40 5000]
 42 (tm 41)]
def DV:LSO:=[Af 2]
def DU:LSO:=[Ai 43 30 1,Aa 30 43]
def DT:LSO:=[Ai 44 24 1,Aa 24 44]
def DS:LSO:=[Ai 45 15 1,Aa 15 45]
def DR:LSO:=[Ad 46 3 1,Ab 47 1 46,Aj 48 13 47,Aa 2 48]
def wN:aK:=⟨49,(asI Jz [] (.seq (asI Jy Dq (asL 0 (asI Jx [] (.seq (asM 16 0) (.seq (.block 1 (asI Jw C6 (.seq (asI Jv C6 (asK 21 (.sreg Ju []))) (asI Jt [] (asL 2 (asI Js [] (.seq (asM 25 2) (.seq (.block 3 (asI Jr C6 (asI Jq [] (asL 4 (asI DY [] (.seq (asM 31 4) (.seq (.block 5 (asI DX C6 (asI DW CA (asK 42 (.sreg DV []))))) (.sreg DU C4)))))))) (.sreg DT C4))))))))) (.sreg DS C4)))))) (asI DR C7 .ret))),[(.tmp 2)]⟩
attribute [push_cast] Jz Jy Jx Jw Jv Ju Jt Js Jr Jq DY DX DW DV DU DT DS DR
theorem Xf:asN 8=asO wN:=asR
attribute [push_cast] EA dK jM cT ax bI wN
open Go Go.Sort Go.Proofs
variable {L:List Blk}{K:apr}
set_option maxHeartbeats 8000000
set_option maxRecDepth 100000
theorem aeU(z:Array Value):∀k,(Builtin.zeroCells z k).size=k*z.size:=by intro k;simp[Builtin.zeroCells]
theorem ajQ:∃i0,Tryz.prog.info? 99=some i0/\i0.zero=some (.slice none 0 0)/\i0.size=1/\i0.bytes=24:=by
 have h:(Tryz.prog.info? 99).map (λi=>(i.zero,i.size,i.bytes))=some (some (.slice none 0 0),1,24):=asR;cases hi:Tryz.prog.info? 99 with
 |none=>rw[hi]at h;cases h
 | some i0 =>
   rw[hi]at h;simp only[apN,apu,apI]at h;exact⟨i0,rfl,h⟩
theorem aj0{L:List Blk}{K:apr}(h:K (.sl [] 0 (some 0)) L):apq 157 [.sl [] 0 (some 0),.int .i64 0] L K :=
 dE Tryz.func157 rfl asR (λw0 S0 E w vs k a=>by simp only[VRL]at a;obtain⟨v,_,rfl,a,_,_,rfl,d,rfl⟩:=a;have b:=a;simp only[VR]at a d;obtain⟨p,c,rfl,_,f,_⟩:=a;have i:c=0:=f 0 rfl;subst i;subst d;exact(Any8.slices_Grow_room Tryz.growD p 0 0 0 w (apt _) asP asP asP).mono λe w' ⟨j,g⟩=>⟨_,j,b,by subst g;exact EC.refl _⟩) h
theorem al1{n:Nat}(u:0<n)(x:n<=4000000)(h:K (.lsl L.length 0 0 none 1) (L++[.cells []])):apq 157 [.sl [] 0 (some 0),.int .i64 (n:Int)] L K:=λw0 S0 E w vs m d=>by
 simp only[VRL,VR]at d;obtain⟨_,_,rfl,⟨p,c,rfl,_,g,_⟩,_,_,rfl,rfl,rfl⟩:=d;have l:c=0:=g 0 rfl;subst l;obtain⟨i0,r,i2,i3,i4⟩:=ajQ;refine .inl ⟨jE Tryz.func157 rfl asR _ _,(Any8.slices_Grow_grow Tryz.growD i0 (.slice none 0 0) r i2 asP p 0 0 n [] w (apt _) asP (by rw[i4];omega) asP asQ (λ_=>rfl) (λa _ j v t=>by simp at t)).mono ?_⟩;rintro e w' ⟨rfl,rfl⟩;have i:Rel w0 S0 E L w.drew:=m.grown ⟨λ_ _=>rfl,apt _,rfl,rfl,rfl⟩
 let cs:Array Value:=([]:List Value).toArray++Builtin.zeroCells (Value.slice none 0 0).cells (0+n-0)++Builtin.zeroCells (Value.slice none 0 0).cells (grownCap w (0+n) 0 99-(0+n))
 have b:cs.size=n+(grownCap w (0+n) 0 99-n):=by simp only[cs,Array.size_append,aeU];have:(Value.slice none 0 0).cells.size=1:=rfl;rw[this];simp
 have f:=i.push (.cells cs 99) (.cells []) ⟨w.heap.size,0,cs.size⟩ rfl rfl ⟨⟨w.heap.size,0,cs.size⟩,cs,99,(0,0),asQ,(show(w.heap.push (Obj.cells cs 99))[w.heap.size]?=some (Obj.cells cs 99 (0,0))by simp),rfl,asQ,(λj a s=>by simp at s),λo _ _=>asP⟩;refine⟨_,_,_,_,rfl,f.1,h,?_,f.2⟩;simp only[VR];exact⟨⟨w.heap.size,0,cs.size⟩,grownCap w (0+n) 0 99,0,asQ,rfl,λ_=>rfl,apv _,(λk q=>by cases q),by simp only[b];omega⟩
abbrev aaZ(l:List AV):AV:=.sl l l.length none
theorem alw{a:List (List AV)}{k:Nat}(h:k<a.length):(a.map aaZ).getD k .undef=aaZ (a.getD k []):=by simp[h]
theorem afP{a:List (List AV)}{k:Nat}(h:k<a.length):(a.take (k+1)).flatten=(a.take k).flatten++a.getD k []:=by rw[apK h,List.flatten_append];simp[h]
theorem akg(a:List (List AV))(k:Nat):(a.take k).flatten.length<=a.flatten.length:=by
 have h:a.flatten=(a.take k).flatten++(a.drop k).flatten:=by rw[<- List.flatten_append,aq5]
 rw[h];simp
theorem abZ{a:List (List AV)}{cap:Option Nat}(P:a.length<=1100000)(M:a.flatten.length<=1100000)(g:∀l∈a,l.all AV.one=true)(f:∀p,AV.refsL p a.flatten=true){L:List Blk}{K:apr}(h:K (.sl a.flatten a.flatten.length none) L):
  apq 102 [.sl (a.map aaZ) a.length cap] L K:=by
 replace h:=hid h;have y:=hid (λk=>@afP a k);have A:=hid (akg a);have x:=hid (λk=>@alw a k);replace g:=hid g;replace f:=hid f;refine apo ku ?_;refine aj (λn T' L'=>∃k:Nat,n=a.length-k/\k<=a.length/\T'=[(11,.int .i64 (k:Int)),(10,.int .i64 a.length),(9,.sl (a.map aaZ) a.length cap),(3,.int .i64 ((a.take k).flatten.length:Int)),(2,.sl [] 0 (some 0)),(0,.sl (a.map aaZ) a.length cap)]/\L=L') (CutS (b:=apt _)) ⟨0,rfl,apv _,rfl,rfl⟩ ?_;rintro _ _ _ ⟨k,rfl,F,rfl,rfl⟩;by_cases d:k<a.length;have g1:(k:Int)<(a.length:Int):=asP;have G:=apn k asP;have j:=y.o k d;have v:=x.o k d;have s:=A.o (k+1);obtain⟨l,t⟩:=apl (a.getD k []);rw[t]at j v;have C:(a.take (k+1)).flatten.length=(a.take k).flatten.length+l.length:=by rw[j,apB]
 rw[C]at s;obtain⟨m,r⟩:=apl ((a.take k).flatten.length);rw[r]at s C⊢;replace j:=hid j;replace r:=hid r;replace t:=hid t;have g3:IntKind.i64.wrap ((m:Int)+(l.length:Int))=(m:Int)+(l.length:Int):=ae asP asP;have g4:¬((m:Int)+(l.length:Int)<0):=asP;refine wk ?_;exact asU asP (CutL (b:=apt _)) ⟨k+1,rfl,d,rfl,rfl⟩;have q:k=a.length:=asP;subst q;clear d F;have g1:¬(a.length:Int)<(a.length:Int):=asP;obtain⟨m,r⟩:=apl (a.flatten.length);rw[apJ,r];rw[r]at h M;rcases aqQ m with N|B;subst N;have u:=hid (aqc.1 r);have kk1:=@hid _ @aj0;refine wk ?_;refine bR (l:=[]) (n:=0) 6 1 rfl (apU 1).symm ?_;refine aj (λn T' L'=>∃k:Nat,n=a.length-k/\k<=a.length/\T'=[(27,.int .i64 (k:Int)),(26,.int .i64 a.length),(25,.sl (a.map aaZ) a.length cap),(6,.gsl [] 0 L.length 1)]/\L'=L++[.spare 0 1]) asT ⟨0,rfl,apv _,rfl,rfl⟩ ?_;rintro _ _ _ ⟨k,rfl,F,rfl,rfl⟩;by_cases d:k<a.length;have g1:(k:Int)<(a.length:Int):=asP;have G:=apn k asP;have v:=x.o k d;have s:a.getD k []=[]:=List.flatten_eq_nil_iff.1 u.o _ (by rw[apO,apD d];exact aqr _);rw[s]at v;replace v:(a.map aaZ).getD k .undef=.sl [] 0 none:=v;clear s;refine wk ?_;exact asU asP asS ⟨k+1,rfl,d,rfl,rfl⟩;have q:k=a.length:=asP;subst q;have g1:¬(a.length:Int)<(a.length:Int):=asP;refine wk ?_;refine aY (ac (by rfl) ?_);have:=h.o;rw[u.o]at this;exact this;have kk1:=@hid _ (λL K=>al1 B asP (K:=K) (L:=L));refine wk ?_;refine aj (λn T' L'=>∃(k i:Nat) (X:List Blk) (c:List AV),n=a.length-k/\k<=a.length/\Hid (c=(a.take k).flatten)/\c.length<=m/\i=L.length+X.length/\T'=[(27,.int .i64 (k:Int)),(26,.int .i64 a.length),(25,.sl (a.map aaZ) a.length cap),(6,.lsl i 0 c.length none 1)]/\L'=L++(X++[.cells c])) asT ⟨0,L.length,[],[],rfl,apv _,hid rfl,apv _,rfl,rfl,rfl⟩ ?_;rintro _ _ _ ⟨k,i,X,c,rfl,F,I,J,w,rfl,rfl⟩;have z:(L++(X++[Blk.cells c]))[i]?=some (.cells c):=by subst w;simp
 replace w:=hid w;by_cases d:k<a.length;have g1:(k:Int)<(a.length:Int):=asP;have G:=apn k asP;have j:=y.o k d;have v:=x.o k d;have s:=A.o (k+1);obtain⟨l,t⟩:=apl (a.getD k []);have E:l.all AV.one=true:=g.o l (by rw[<- t];simp[d]);rw[t]at j v;rw[<- I.o]at j;have C:c.length+l.length<=m:=by rw[j,apB,r]at s;exact s
 have Q:(c.length+l.length)*24<=140737488355328:=asP;have R:c.length+l.length<=140737488355328:=asP;replace j:=hid j;replace t:=hid t;clear s;have D:(L++(X++[Blk.cells c])).set i .dead=L++(X++[.dead]):=by rw[w.o];simp
 have H:(L++(X++[Blk.dead])).length=i+1:=by rw[w.o];simp;omega
 refine wk ?_;refine asU ?_ asS ⟨k+1,i+1,X++[.dead],c++l,rfl,d,hid j.o.symm,by simpa using C,by rw[w.o];simp;omega,rfl,?_⟩;omega;simp[ap2];have q:k=a.length:=asP;subst q;have g1:¬(a.length:Int)<(a.length:Int):=asP;refine wk ?_;refine EE (i:=i) (l:=c) z ?_;rw[show(L++(X++[Blk.cells c])).set i .dead=L++(X++[.dead])by rw[w.o];simp];have e:=I.o;rw[apJ]at e;have O:(AV.lsl i 0 c.length none 1).snap i c=.sl c c.length none:=by simp[AV.snap,ap2]
 rw[O,e,r];exact ac (by simp only[AV.refs,f.o]) h.o
theorem acF{d:List Rdn}{cap cap':Option Nat}(x:d.length<=1100000)(i:∀r∈d,r.length<=1100000)(h:K (.sl (d.map aq) d.length none) L):
  apq 59 [.sl (d.map aq) d.length cap,.sl [] 0 cap'] L K:=by
 replace h:=hid h;have s:=hid (λk=>@nv d k);replace i:=hid i;have kk1:Hid (Ctr Tryz.prog 102 [.sl [.sl [] 0 cap',.sl (d.map aq) d.length cap] 2 (some 2)] (.sl (d.map aq) d.length none)):=@hid _ (by
  intro L K q;refine iL ?_;simp only[AV.frzL,AV.frz,bB];have:=@abZ [[],d.map aq] none asQ (by simpa using x) (λl t=>by simp at t;rcases t with rfl|rfl;rfl;rw[apF];intro a u;obtain⟨r,_,rfl⟩:=apz.1 u;rfl) (λp=>by simpa using fD p d) L K
  simp only[ast,asu,ap4,apZ,apX,ara,apQ,ap9,apC,aaZ]at this;exact this q)
 refine apo Wo ?_;refine bR (l:=[]) (n:=0) 5 1 rfl (apU 1).symm ?_;refine aj (λm T' L'=>∃(k:Nat) (C:List AV) (X:List Blk),m=d.length-k/\k<=d.length/\Hid (C=(d.take k).map aq)/\T'=[(13,.int .i64 (k:Int)),(12,.int .i64 d.length),(11,.sl (d.map aq) d.length none),(5,.gsl C k L.length 1)]/\L'=L++(.spare k 1::X)) asT ⟨0,[],[],rfl,apv _,hid rfl,rfl,asQ⟩ ?_;rintro _ _ _ ⟨k,C,X,rfl,z,g,rfl,rfl⟩;by_cases b:k<d.length;have g1:(k:Int)<(d.length:Int):=asP;have D:=apn k asP;have v:=s.o k b;have A:k<(d.map aq).length:=by simpa using b
 obtain⟨r,c⟩:=apl (d.getD k []);have w:=i.o r (by rw[<- c];simp[b]);have e:(d.take (k+1)).map aq=C++[.sl (bg r) r.length none]:=by rw[g.o,apK b,ap1,show d[k]=r by rw[<- c];simp[b]];rfl
 rw[c]at v;have y:=gP r;have B:=dp r;replace e:=hid e;clear c g;refine wk ?_;exact asU asP asS ⟨k+1,_,_,rfl,b,hid e.o.symm,rfl,rfl⟩;have j:k=d.length:=asP;subst j;have g1:¬(d.length:Int)<(d.length:Int):=asP;have f:=g.o;rw[apJ]at f;subst f;clear g;refine wk ?_;refine aY ?_;simp only[AV.frz,bB];exact ac (by simp only[AV.refs,fD]) h.o
def smA(n:Nat)(a:Ava):Bool:=decide (n<=10)&&decide (a.2.length<=5000)
def smR(r:Rdn):Bool:=r.all (smA r.length)
def smD(d:List Rdn):Bool:=decide (d.length<=40)&&d.all smR
def smU(u:Upd):Bool:=smD u.dn&&(smD u.tw&&afR u.attrs)
def OZ(d:List Rdn):Prop:=(d.length:Int)<=9223372036854775807/\∀r∈d,(r.length:Int)<=9223372036854775807
theorem Zd{u:Upd}(hd:OZ u.dn)(ht:OZ u.tw)(hl:(u.attrs.length:Int)<=9223372036854775807)(hz:∀a∈u.attrs,(a.2.length:Int)<=9223372036854775807)(h:K (.bool (smU u)) L):
  apq 8 [.agg (rA u)] L K:=by
 obtain⟨k,d,t,l⟩:=u;simp only[rA,smU]at hd ht hl hz h⊢;obtain⟨J,F⟩:=apl (afR l);have kk1:Hid (Ctr Tryz.prog 13 [.sl (aJ l) l.length none] (.bool J)):=@hid _ (by intro L K q;exact aov hl hz (by rw[F];exact q));rw[F]at h;obtain⟨n,z⟩:∃n,n=[d,t]:=⟨_,rfl⟩;obtain⟨R,O⟩:=apl ((n.all smD&&J));have N:(smD d&&(smD t&&J))=R:=by rw[<- O,z];simp[asz]
 rw[N]at h;replace h:=hid h;have a9:n.length=2:=by rw[z];rfl
 have E:∀x∈n,OZ x:=λx D=>by rw[z]at D;simp at D;rcases D with rfl|rfl<;>assumption
 have v:AV.sl [dnA d,dnA t] 2 (some 2)=.sl (n.map dnA) 2 (some 2):=by rw[z];rfl
 replace E:=hid E;obtain⟨U,I⟩:∃U,U=[AV.int .i64 k,dnA d,dnA t,.sl (aJ l) l.length none]:=⟨_,rfl⟩;have a5:U.getD 3 .undef=.sl (aJ l) l.length none:=by rw[I];rfl
 have a0:U.length=4:=by rw[I];rfl
 clear F hz N hd ht;replace v:=hid v;replace I:=hid I;replace z:=hid z;refine apo Xf ?_;rw[v.o,<- I.o];clear v;refine aj (λm T' L'=>∃(i:Nat) (X:List Blk),m=2-i/\i<=2/\Hid (((n.drop i).all smD&&J)=R)/\T'=[(15,.int .i64 (i:Int)),(14,.int .i64 2),(13,.sl (n.map dnA) 2 (some 2)),(1,.ptr L.length 0)]/\L'=L++(.cells U::X)) asT ⟨0,[],rfl,asP,hid (by simpa using O),rfl,asQ⟩ ?_;rintro _ _ _ ⟨i,X,rfl,hi,T,rfl,rfl⟩;by_cases an:i<2;have g1:(i:Int)<2:=asP;have g2:=apn i asP;obtain⟨x,D⟩:=apl (n.getD i []);have A:i<n.length:=asP;have M:=E.o x (by rw[<- D];simp[A]);have e2:(n.map dnA).getD i .undef=dnA x:=by rw[<- D];simp[A]
 have e3:i<(n.map dnA).length:=by simpa using A
 have g:n.drop i=x::n.drop (i+1):=by rw[apY A,<- D];simp[A]
 have f:=T.o;rw[g,aqE]at f;obtain⟨S,H⟩:=apl (((n.drop (i+1)).all smD&&J));rw[asz,H]at f;clear T g D O;by_cases a6:(40:Int)<(x.length:Int);have s:=h.o;rw[<- f,smD,decide_eq_false asP]at s;replace s:=hid s;clear f H;refine wk ?_;exact ac rfl s.o;have G:(x.all smR&&S)=R:=by rw[<- f,smD,decide_eq_true asP,ap0]
 have a1:x.length<=40:=asP;have ad:=hid M.2;clear f M;have av:=hid (λk=>@nv x k);refine wk ?_;refine aj (λm T' L'=>∃(j:Nat) (Y:List Blk),m=x.length-j/\j<=x.length/\X.length<=Y.length/\Hid (((x.drop j).all smR&&S)=R)/\T'=[(24,.int .i64 (j:Int)),(23,.int .i64 x.length),(22,dnA x),(15,.int .i64 (i:Int)),(14,.int .i64 2),(13,.sl (n.map dnA) 2 (some 2)),(1,.ptr L.length 0)]/\L'=L++(.cells U::Y)) asT ⟨0,_,rfl,asP,apt _,hid (by simpa using G),rfl,rfl⟩ ?_;rintro _ _ _ ⟨j,Y,rfl,hj,a4,P,rfl,rfl⟩;by_cases w:j<x.length;have j1:(j:Int)<(x.length:Int):=asP;have j2:=apn j asP;have e4:=av.o j w;have e5:j<(x.map aq).length:=by simpa using w
 obtain⟨r,V⟩:=apl (x.getD j []);have a8:=ad.o r (by rw[<- V];simp[w]);have g:x.drop j=r::x.drop (j+1):=by rw[apY w,<- V];simp[w]
 rw[V]at e4;have e:=P.o;rw[g,aqE]at e;obtain⟨S2,B⟩:=apl (((x.drop (j+1)).all smR&&S));rw[asz,B,smR]at e;clear P g V G;refine wk ?_;refine aj (λm T' L'=>∃(p:Nat) (Z:List Blk),m=r.length-p/\p<=r.length/\Y.length<=Z.length/\Hid (((r.drop p).all (smA r.length)&&S2)=R)/\T'=[(30,.int .i64 (p:Int)),(29,.int .i64 r.length),(28,aq r),(6,aq r),(24,.int .i64 (j:Int)),(23,.int .i64 x.length),(22,dnA x),(15,.int .i64 (i:Int)),(14,.int .i64 2),(13,.sl (n.map dnA) 2 (some 2)),(1,.ptr L.length 0)]/\L'=L++(.cells U::Z)) asT ⟨0,_,rfl,asP,apt _,hid (by simpa using e),rfl,rfl⟩ ?_;rintro _ _ _ ⟨p,Z,rfl,hp,a3,Q,rfl,rfl⟩;by_cases C:p<r.length;have p1:(p:Int)<(r.length:Int):=asP;have p2:=apn p asP;have e6:=gQ C;have e7:p*2+2<=(bg r).length:=by rw[dp];omega
 obtain⟨⟨ty,va⟩,W⟩:∃a,r.getD p ([],[])=a:=⟨_,rfl⟩;have g:r.drop p=(ty,va)::r.drop (p+1):=by rw[apY C,<- W];simp[C]
 rw[W]at e6;simp only[pD]at e6;have c:=Q.o;rw[g,aqE,asz]at c;obtain⟨S3,y⟩:=apl (((r.drop (p+1)).all (smA r.length)&&S2));rw[y]at c;clear Q g W e H B;by_cases a2:(10:Int)<(r.length:Int);have s:=h.o;rw[<- c,smA,decide_eq_false asP]at s;replace s:=hid s;clear c y;refine wk ?_;exact ac rfl s.o;by_cases a7:(5000:Int)<(va.length:Int);have s:=h.o;rw[<- c,smA,decide_eq_true asP,decide_eq_false (by simp only;omega)]at s;replace s:=hid s;clear c y;refine wk ?_;exact ac rfl s.o;have ar:S3=R:=by rw[<- c,smA,decide_eq_true asP,decide_eq_true (by simp only;omega)];rfl
 subst ar;replace y:=hid y;clear c;refine wk ?_;exact asU asP (CutL (b:=by simp;omega)) ⟨p+1,_,rfl,C,by simp;omega,y,rfl,rfl⟩;have al:p=r.length:=asP;subst al;have p1:¬(r.length:Int)<(r.length:Int):=asP;have c:=Q.o;rw[aqe,art,ap0,<- B]at c;replace c:=hid c;clear Q e H B;refine wk ?_;exact asU asP (CutL (b:=by simp;omega)) ⟨j+1,_,rfl,w,asP,c,rfl,rfl⟩;have ap:j=x.length:=asP;subst ap;have j1:¬(x.length:Int)<(x.length:Int):=asP;have e:=P.o;rw[aqe,art,ap0,<- H]at e;replace e:=hid e;clear P H G;refine wk ?_;exact asU asP asS ⟨i+1,_,rfl,an,e,rfl,rfl⟩;have ai:i=2:=asP;subst ai;have f:=T.o;rw[aro asP,art,ap0]at f;subst f;clear T O;refine wk ?_;exact ac rfl h.o
end Go.Proofs.YtdnfjhflkkpokaaGreatDoor.Av
set_option maxRecDepth 100000
namespace Go.Proofs.YtdnfjhflkkpokaaGreatDoor.Av
open Go
def P0:LSO:=[Ak 2]
def PZ:LSO:=[Ak 3]
def PY:LSO:=[Aa 6 0,Ah 7 6,Ac 8 0]
def PX:LSO:=[Al 9 8 7]
def PW:LSO:=[Am 10 2 6 8,Ar 11 2 10,Bo 5,Ap 2 5 11]
def PV:List (aw×Kd):=
 [AD 12 3,A9 13 0 5,AA 14 1 13 0 0,A9 15 1 5,AA 16 1 15 0 0,Bf 17 47 16 0 0,Cv 18 14 17,Cw 19 18 0 0]
def Kr:List aw :=
 [⟨(some 20),(.app 1 2 40 [(.str []),(.sl [] 0 (some 0))] (tm 12) (tm 19)),none⟩,⟨(some 3),(.mv (tm 20)),none⟩]
def PU:LSO:=[Ai 21 8 1,Aa 8 21]
def PT:LSO:=[Aa 22 3,Aa 2 22]
def Og:aK:=⟨23,(asI P0 [] (asI PZ [] (.seq (asI PY [] (asL 0 (asI PX [] (.seq (asM 9 0) (.seq (.block 1 (asI PW C6 (.dregM PV Kr CG))) (.sreg PU C4)))))) (asI PT C4 .ret)))),[(.tmp 2)]⟩
attribute [push_cast] P0 PZ PY PX PW PV Kr PU PT
theorem aao:asN 60=asO Og:=asR
def pX:LSO:=[Ak 4,Ak 5]
def pW:LSO:=[Aa 7 0,B6 8 7,Aa 9 8,.grp none 9 false
 [Ag 10 9 0,og 11 9 false (.nilchk (tm 10)),A3 12 9 1 11,Ay 13 9 1 12,Ag 14 9 1,og 15 9 false (.mget .int false .nilptr (tm 13) (tm 14)),BV 16 9 15]
 17 (tm 16)]
def pV:LSO:=[Ak 4,Ak 5]
def pU:LSO:=[Aa 18 0,Au 19 18,Ad 20 1 19,Ab 21 1 20,Aa 22 1,Bw 23 21 22,Aa 6 23]
def pT:LSO:=[Aa 24 6,Au 25 24,Ad 26 0 25,Ab 27 1 26,BW 28 59 27,Aa 29 6,Au 30 29,Ad 31 2 30,Ab 32 1 31,Aj 33 60 32,Aa 4 28,Aa 5 33]
def fU:aK:=⟨34,(asI pX [] (.seq (asI pW C7 (asK 17 (.sreg pV []))) (asI pU CC (.seq (.sdreg pT [.pure,(.read 0 0),.pure,(.read 0 0),(.read 0 0),.pure,(.read 0 0),.pure,(.read 0 0)] Dc) .ret)))),[(.tmp 4),(.tmp 5)]⟩
attribute [push_cast] pX pW pV pU pT
theorem o9:asN 25=asO fU:=asR
def P7:LSO:=[Ak 2]
def P6:LSO:=[o1 3 (.alloc [(.sl [] 0 (some 0))])]
def P5:LSO:=[Aa 8 0,Aj 9 179 8]
def P4:LSO:=[Aa 5 11]
def P3:LSO:=[Aa 13 5,Bm 14 13,Aj 15 58 14,Aa 12 15,Ao 16 12,Aq 17 12,Aa 6 16,Aa 7 17]
def P2:LSO:=[Ab 18 1 3,Aa 19 6,B5 20 19,BK 21 18 20,Ap 1 3 21]
def P1:LSO:=[Ab 22 1 3,Aa 2 22]
def Oh:aK:=⟨23,(asI P7 [] (asI P6 [] (.seq (asI P5 C4 (.block 0 (.rangeF (tm 9) [10,11] (.sreg P4 []) (.block 1 (asI P3 CZ (.sreg P2 CN)))))) (asI P1 C4 .ret)))),[(.tmp 2)]⟩
attribute [push_cast] P7 P6 P5 P4 P3 P2 P1
theorem aap:aL Tryz.prog (λr i=>if r=5/\i=3 then 2 else 1) 125=some Oh.raw:=asR
def pS:LSO:=[Az 3 0,Ak 6]
def pR:LSO:=[Ab 12 1 3,B6 13 12,Aa 14 13,.grp none 14 false
 [Ay 15 14 1 3,og 16 14 false (.nilchk (tm 15)),A3 17 14 1 16,Ay 18 14 1 17,Ag 19 14 1,og 20 14 false (.mget .int false .nilptr (tm 18) (tm 19)),BV 21 14 20]
 22 (tm 21),Aa 23 22,.grp none 23 false
 [Ag 24 23 2,Bh 25 23 24 0]
 26 (tm 25),Aa 27 26,.grp none 27 false
 [Ag 28 27 2,AC 29 27 28 2]
 30 (tm 29)]
def pQ:LSO:=[Ak 6]
def pP:LSO:=[Ab 31 1 3,Au 32 31,Ad 33 1 32,Ab 34 1 33,Aa 35 1,Bw 36 34 35,Au 37 36,Ad 38 1 37,Ab 39 1 38,Aa 7 39]
def pO:LSO:=[Ak 8]
def pN:LSO:=[Ab 40 1 3,Au 41 40,Ad 42 1 41,Ab 43 1 42,o1 44 (.mrange (tm 43))]
def pM:LSO:=[o1 45 (.mnext (tm 44)),Ao 46 45]
def pL:LSO:=[o1 47 (.mentry (tm 44)),Ao 48 47,Aq 49 47,Aa 9 48,Aa 10 49]
def pK:LSO:=[Aa 50 10,Au 51 50,Ad 52 1 51,Ab 53 1 52,Ah 54 53,Aa 55 7,Ah 56 55,BF 57 54 56,Aa 11 57]
def pJ:LSO:=[Aa 58 11,AL 59 58 0,Aa 60 59,.grp none 60 true
 [Ae 61 60 10,Bx 62 60 61,A6 63 60 1 62,A5 64 60 1 63,Ae 65 60 7,AE 66 60 65,og 67 60 true (.slV 1 (tm 64) none (some (tm 66)) none),Ae 68 60 7,AS 69 60 54 67 68]
 70 (tm 69),Aa 71 70,.grp none 71 true
 [Ae 72 71 2,AP 73 71 72 2,Ae 74 71 73,.grp (some (71,true)) 74 false
 [Ag 75 74 11,Ag 76 74 2,BB 77 74 75 76]
 78 (tm 77)]
 79 (tm 78)]
def nS:LSO:=[Aa 80 8,Aa 81 9,Cx 82 81,o1 83 (.app 2 1 8 [(.int .i64 0)] (tm 80) (tm 82)),Aa 8 83]
def nR:LSO:=[Aa 84 8,o1 85 (.mkfn 56 [(tm 3)]),As 86 55 84 85]
def nQ:LSO:=[Aa 87 8,Aa 6 87]
def cP:aK:=⟨88,(asI pS [] (.seq (asI pR CE (asK 30 (.sreg pQ []))) (asI pP CG (asI pO [] (.seq (asI pN CA (asL 0 (asI pM C4 (.seq (asM 46 0) (.block 1 (asI pL CF (asI pK CM (asI pJ CB (asJ 79 (.sreg nS CA) .skip))))))))) (asI nR De (asI nQ C4 .ret))))))),[(.tmp 6)]⟩
attribute [push_cast] pS pR pQ pP pO pN pM pL pK pJ nS nR nQ
theorem fT:aL Tryz.prog (λr i=>if r=10/\i=3 then 2 else 1) 23=some cP.raw:=asR
def rU:LSO:=[Af 6]
def rT:LSO:=[Aa 7 1,Ah 8 7,Aa 9 2,Ah 10 9,AF 11 8 10,Aa 12 11,.grp none 12 true
 [Ae 13 12 1,Ae 14 12 2,AS 15 12 62 13 14]
 16 (tm 15),Aa 6 16]
def gN:aK:=⟨17,(asI rU [] (asI rT CE .ret)),[(.tmp 6)]⟩
attribute [push_cast] rU rT
theorem rz:asN 123=asO gN:=asR
def mm:LSO:=[Az 5 2,Ac 6 0]
def ml:LSO:=[Ad 16 2 5,Ab 17 1 16,Aj 18 36 17,Aa 15 18,Ao 19 15,Aq 20 15,Aa 7 19,Aa 8 20]
def mj:LSO:=[Aa 22 0,Ad 23 1 5,Ab 24 1 23,Aa 25 0,Au 26 25,Ad 27 0 26,Ab 28 1 27,AI 29 123 22 24 28,Aa 21 29]
def mh:LSO:=[Ac 6 53]
def mg:LSO:=[Aa 31 8,AB 32 31 0,Aa 33 32,.grp none 33 false
 [A3 34 33 2 5,Ay 35 33 1 34,AM 36 33 35,AH 37 33 36 0]
 38 (tm 37),Aa 30 38]
def mf:LSO:=[Ac 6 34]
def me:LSO:=[Ad 40 2 5,Ab 41 1 40,BG 42 41 1,Ad 43 1 5,Ab 44 1 43,As 45 62 42 44,Aa 39 45]
def md:LSO:=[Ac 6 53]
def mc:LSO:=[Aa 47 0,Ad 48 2 5,Ab 49 1 48,BG 50 49 1,As 51 24 47 50,An 52 51 0,Aa 46 52]
def ma:LSO:=[Ac 6 32]
def kX:LSO:=[Aa 53 0,Ad 54 2 5,Ab 55 1 54,As 56 24 53 55,Aa 9 56]
def kW:LSO:=[Aa 57 9,A8 58 57 0,Aa 59 58,.grp none 59 true
 [Ae 60 59 9,Ae 61 59 1,og 62 59 true (.bin .neq (tm 60) (tm 61))]
 63 (tm 62)]
def kV:LSO:=[Ac 6 68]
def kT:LSO:=[Aa 64 0,Aa 65 1,Bv 66 23 64 65 2,Ah 67 66,Ac 68 0]
def kS:LSO:=[Al 69 68 67]
def kR:LSO:=[Am 70 1 66 68,Ab 71 1 70,Aa 11 71]
def kQ:LSO:=[Aa 72 0,Au 73 72,Ad 74 1 73,Ab 75 1 74,Aa 76 11,Bw 77 75 76,Au 78 77,Ad 79 0 78,Ab 80 1 79,Aa 12 80]
def kP:LSO:=[Ad 82 2 5,Ab 83 1 82,Aa 84 12,Aa 85 12,Ah 86 85,Ad 87 1 5,Ab 88 1 87,Ah 89 88,BF 90 86 89,Cq 91 84 90,As 92 59 83 91,Aj 93 36 92,Aa 81 93,
 Ao 94 81,Aq 95 81,Aa 13 94,Aa 14 95]
def kO:LSO:=[Aa 96 14,AB 97 96 0]
def kN:LSO:=[Ac 6 34]
def kL:LSO:=[Ai 98 68 1,Aa 68 98]
def kK:LSO:=[Ac 6 0]
def ba:aK:=⟨99,(asI mm [] (asI ml CE (.seq (.block 0 (.seq (.sdreg mj [.pure,.pure,(.read 0 0),.pure,(.read 0 0),.pure,(.read 0 0)] CM) (asJ 21 (asI mh [] .ret) (asI mg CA (asJ 30 (asI mf [] .ret) (.seq (.sdreg me [.pure,(.read 0 0),(.read 0 0),.pure,(.read 0 0)] CC) (asJ 39 (asI md [] .ret) (asI mc CC (asK 46 (.sreg ma [])))))))))) (.seq (asI kX CA (asI kW C7 (asK 63 (.sreg kV [])))) (.seq (asI kT CW (asL 1 (asI kS [] (.seq (asM 69 1) (.seq (.block 2 (asI kR C6 (asI kQ CG (.seq (.sdreg kP [.pure,(.read 0 0),.pure,.pure,(.read 0 0),.pure,(.read 0 0),(.read 0 0),.pure,(.read 0 0),(.read 0 0),(.read 0 0),.pure,.pure,.pure,.pure] Df) (asI kO C4 (asK 97 (.sreg kN []))))))) (.sreg kL C4)))))) (asI kK [] .ret)))))),[(.tmp 6)]⟩
attribute [push_cast] mm ml mj mh mg mf me md mc ma kX kW kV kT kS kR kQ kP kO kN kL kK
theorem b7:asN 124=asO ba:=asR
def tW:LSO:=[Aa 7 0,Au 8 7,Ad 9 0 8,Ab 10 1 9,Au 11 10,Ad 12 1 11,Ab 13 1 12,Aa 14 1,Bw 15 13 14,Aa 6 15]
def tV:LSO:=[Aa 16 6,Aa 17 6,Aa 18 2,BW 19 59 18,Aa 20 2,Aj 21 125 20,Au 22 16,Ad 23 0 22,Ap 1 23 19,Au 24 17,Ad 25 1 24,Ap 1 25 21]
def tU:List (aw×Kd):=
 [AD 26 0,AT 27 26 0 1,A9 28 0 27,AA 29 1 28 0 1,AT 30 29 0 1,A9 31 2 30,AA 32 1 31 0 1,AD 33 6,AT 34 33 0 0,A9 35 1 34,AA 36 1 35 0 0,od 37 (.call 128 [(tm 36)]) .eff,
 Bf 38 127 37 0 0,od 39 (.call 126 [(tm 38),(.av (.str [44]))]) (.read 0 0),AD 40 1]
def sA:List aw :=
 [⟨none,(.mset .str (tm 32) (tm 39) (tm 40)),none⟩]
def pn:aK:=⟨41,(asI tW CG (asI tV Dg (.dregM tU sA [false,false,false,false,false,false,false,false,false,false,false,false,false,false,false]))),[]⟩
attribute [push_cast] tW tV tU sA
theorem SY:aL Tryz.prog (λr i=>if r=2/\i=11 then 3 else 1) 79=some pn.raw:=asR
def tT:LSO:=[Az 1 0,o1 2 (.mv (.av .nilfunc))]
def tS:LSO:=[o1 3 (.mkfn 184 [(tm 1)]),Aa 2 3]
def pm:aK:=⟨4,(asI tT [] (asI tS C4 .ret)),[(.tmp 2)]⟩
attribute [push_cast] tT tS
theorem SX:asN 128=asO pm:=asR
def pI:LSO:=[Az 2 0]
def pH:LSO:=[Ab 5 1 1,Aj 6 185 5]
def pG:LSO:=[Aa 4 8]
def pF:LSO:=[Ab 9 1 2,Aa 10 4,B1 11 9 10,A7 12 11]
def lR:aK:=⟨13,(asI pI [] (asI pH C4 (.block 0 (.rangeF (tm 6) [7,8] (.sreg pG []) (.block 1 (asI pF C7 (asJ 12 .ret .skip))))))),[]⟩
attribute [push_cast] pI pH pG pF
theorem Oi:asN 184=asO lR:=asR
def nV:LSO:=[Aa 7 0,Au 8 7,Ad 9 0 8,Ab 10 1 9,Aa 11 1,BG 12 11 1,As 13 24 10 12,Aa 6 13]
def nU:LSO:=[Aa 14 6,A8 15 14 0]
def nT:LSO:=[Aa 16 0,Au 17 16,Ad 18 0 17,Ab 19 1 18,Au 20 19,Ad 21 1 20,Ab 22 1 21,Aa 23 6,Bw 24 22 23,Au 25 24,Ad 26 3 25,Ab 27 1 26,Aa 28 2,AX 29 27 28,
 Au 30 24,Ad 31 3 30,Ap 1 31 29]
def fe:aK:=⟨32,(.seq (.sdreg nV [.pure,(.read 0 0),.pure,(.read 0 0),.pure,(.read 0 0)] CE) (asI nU C4 (asJ 15 (.sreg nT [false,false,false,false,false,false,false,false,false,false,false,false,false,false,false,false]) .skip))),[]⟩
attribute [push_cast] nV nU nT
theorem ni:asN 80=asO fe:=asR
def Ve:LSO:=[Af 4]
def Vd:LSO:=[Aa 10 0,Aj 11 36 10,Aa 9 11,Ao 12 9,Aq 13 9,Aa 5 12,Aa 6 13]
def Vc:LSO:=[Aa 15 1,Aj 16 58 15,Aa 14 16,Ao 17 14,Aq 18 14,Aa 7 17,Aa 8 18]
def Vb:LSO:=[Aa 19 6,AB 20 19 0,Aa 21 20,.grp none 21 false
 [Ag 22 21 8,Bk 23 21 22 0]
 24 (tm 23),Aa 25 24,.grp none 25 false
 [Ag 26 25 0,AM 27 25 26,Ag 28 25 1,AM 29 25 28,og 30 25 false (.bin .lss (tm 27) (tm 29))]
 31 (tm 30)]
def Va:LSO:=[Af 4]
def U9:LSO:=[Aa 32 0,Aa 33 0,Ah 34 33,Aa 35 1,Ah 36 35,BF 37 34 36,Cy 38 32 37,o1 39 (.call 85 [(tm 38),(.av (.bool true))]),Aa 40 7,AF 41 39 40,Aa 4 41]
def ic:aK:=⟨42,(asI Ve [] (asI Vd CC (asI Vc CH (.seq (asI Vb CB (asK 31 (.sreg Va []))) (asI U9 CU .ret))))),[(.tmp 4)]⟩
attribute [push_cast] Ve Vd Vc Vb Va U9
theorem nN:asN 62=asO ic:=asR
def eT:LSO:=[Az 1 0,o1 2 (.mv (.av .nilfunc))]
def eS:LSO:=[o1 3 (.mkfn 206 [(tm 1)]),Aa 2 3]
def dC:aK:=⟨4,(asI eT [] (asI eS C4 .ret)),[(.tmp 2)]⟩
attribute [push_cast] eT eS
theorem jz:asN 179=asO dC:=asR
def eC:LSO:=[Ab 4 1 1,Ah 5 4,Bb 6 5 1,Aa 3 6]
def eB:LSO:=[Aa 7 3,AL 8 7 0]
def eA:LSO:=[Aa 11 0,Aa 12 3,Ab 13 1 1,Aa 14 3,Am 15 1 13 14,Ab 16 1 15,BJ 17 11 12 16,A7 18 17]
def ez:LSO:=[Aa 9 3,Bb 10 9 1,Aa 3 10]
def dw:aK:=⟨19,(asI eC C7 (asL 0 (.seq (asI eB C4 (asM 8 0)) (.seq (.block 1 (asI eA CE (asJ 18 .ret .skip))) (.sreg ez C6))))),[]⟩
attribute [push_cast] eC eB eA ez
theorem jj:asN 206=asO dw:=asR
def fC:LSO:=[Az 1 0,o1 2 (.mv (.av .nilfunc))]
def fB:LSO:=[o1 3 (.mkfn 209 [(tm 1)]),Aa 2 3]
def dG:aK:=⟨4,(asI fC [] (asI fB C4 .ret)),[(.tmp 2)]⟩
attribute [push_cast] fC fB
theorem jN:asN 185=asO dG:=asR
def eI:LSO:=[Ab 4 1 1,Ah 5 4,Bb 6 5 1,Aa 3 6]
def eH:LSO:=[Aa 7 3,AL 8 7 0]
def eG:LSO:=[Aa 11 0,Aa 12 3,Ab 13 1 1,Aa 14 3,Am 15 1 13 14,Ab 16 1 15,BJ 17 11 12 16,A7 18 17]
def eF:LSO:=[Aa 9 3,Bb 10 9 1,Aa 3 10]
def dz:aK:=⟨19,(asI eI C7 (asL 0 (.seq (asI eH C4 (asM 8 0)) (.seq (.block 1 (asI eG CE (asJ 18 .ret .skip))) (.sreg eF C6))))),[]⟩
attribute [push_cast] eI eH eG eF
theorem jq:asN 209=asO dz:=asR
def jm:LSO:=[Ak 2]
def jl:LSO:=[Aa 3 0,o1 4 (.call 183 [(.av (.sl [] 0 (some 0))),(tm 3)]),Aa 2 4]
def gO:aK:=⟨5,(asI jm [] (asI jl C6 .ret)),[(.tmp 2)]⟩
attribute [push_cast] jm jl
theorem tz:asN 127=asO gO:=asR
def eY:LSO:=[Az 2 0,Ak 4]
def eX:LSO:=[Aa 6 1]
def eW:LSO:=[Aa 5 7]
def eV:LSO:=[Ab 8 1 2,Aa 9 5,B5 10 9,BK 11 8 10,Ap 1 2 11]
def eU:LSO:=[Ab 12 1 2,Aa 4 12]
def dD:aK:=⟨13,(asI eY [] (.seq (asI eX [] (.block 0 (.rangeF (tm 6) [7] (.sreg eW []) (.block 1 (.sreg eV CN))))) (asI eU C4 .ret))),[(.tmp 4)]⟩
attribute [push_cast] eY eX eW eV eU
theorem jA:aL Tryz.prog (λr i=>if r=3/\i=3 then 2 else 1) 183=some dD.raw:=asR
def gG:LSO:=[Af 4]
def gE:LSO:=[Aa 6 0,Ah 7 6,Aa 8 1,Ah 9 8,Be 10 7 9]
def gD:LSO:=[Af 4]
def gC:LSO:=[Aa 11 0,Ah 12 11,Ac 13 0]
def gz:LSO:=[Al 14 13 12]
def gy:LSO:=[Aa 15 13,Aa 5 15]
def gx:LSO:=[Aa 16 0,Aa 17 5,Am 18 1 16 17,Ab 19 1 18,Aa 20 1,Aa 21 5,Am 22 1 20 21,Ab 23 1 22,Be 24 19 23]
def gw:LSO:=[Af 4]
def gu:LSO:=[Ai 25 13 1,Aa 13 25]
def gr:LSO:=[A0 4]
def cj:aK:=⟨26,(asI gG [] (.seq (asI gE CA (asK 10 (.sreg gD []))) (.seq (asI gC CD (asL 0 (asI gz [] (.seq (asM 14 0) (.seq (.block 1 (asI gy C4 (.seq (.sdreg gx [.pure,.pure,(.read 0 0),(.read 0 0),.pure,.pure,(.read 0 0),(.read 0 0)] CM) (asK 24 (.sreg gw []))))) (.sreg gu C4)))))) (asI gr [] .ret)))),[(.tmp 4)]⟩
attribute [push_cast] gG gE gD gC gz gy gx gw gu gr
theorem gk:asN 54=asO cj:=asR
attribute [push_cast] Og fU Oh cP gN ba pn pm lR fe ic dC dw dG dz gO dD cj
end Go.Proofs.YtdnfjhflkkpokaaGreatDoor.Av
set_option maxRecDepth 100000
namespace Go.Proofs.YtdnfjhflkkpokaaGreatDoor.Av
open Go
def Qo:LSO:=[AU 2,Ac 3 0]
def Qn:LSO:=[Aa 7 0,Aj 8 37 7,Aa 6 8,Ao 9 6,Aq 10 6,Aa 4 9,Aa 5 10]
def Qm:LSO:=[Aa 11 5,AB 12 11 0]
def Ql:LSO:=[Aa 13 5,AU 2,Aa 3 13]
def Qk:LSO:=[Aa 14 0,Ah 15 14,An 16 15 0]
def Qj:LSO:=[AU 2,Ac 3 2]
def Qi:LSO:=[Aa 17 0,Aj 18 40 17,o1 19 (.build [(.sl [] 0 (some 0)),(.sl [] 0 (some 0)),(.int .i64 0)] [(0,(1,(tm 18)))]),Az 20 19,Aa 2 20,Ac 3 0]
def iZ:aK:=⟨21,(asI Qo [] (asI Qn CC (.seq (asI Qm C4 (asK 12 (.sreg Ql CD))) (.seq (asI Qk C6 (asK 16 (.sreg Qj []))) (asI Qi CP .ret))))),[(.tmp 2),(.tmp 3)]⟩
attribute [push_cast] Qo Qn Qm Ql Qk Qj Qi
theorem tB:asN 32=asO iZ:=asR
def vw:LSO:=[Ac 4 0]
def vv:LSO:=[Aa 11 1,Aj 12 89 11,Aa 10 12,Ao 13 10,Aq 14 10,Aa 5 13,Aa 6 14]
def vu:LSO:=[Ac 7 0]
def vt:LSO:=[Aa 15 6,An 16 15 0,Aa 17 16,.grp none 17 true
 [Ae 18 17 7,Ae 19 17 0,Bx 20 17 19,A6 21 17 1 20,A5 22 17 1 21,AE 23 17 22,Cu 24 17 18 23]
 25 (tm 24)]
def vr:LSO:=[Aa 29 0,Au 30 29,Ad 31 1 30,Ab 32 1 31,Aa 33 7,Am 34 3 32 33,Ad 35 1 34,Ab 36 1 35,Aj 37 89 36,Aa 28 37,Ao 38 28,Aq 39 28,Aa 8 38,Aa 9 39]
def vq:LSO:=[Aa 40 5,Aa 41 8,AF 42 40 41]
def vp:LSO:=[Aa 43 7,Aa 4 43]
def vm:LSO:=[Aa 26 7,Ai 27 26 1,Aa 7 27]
def vk:LSO:=[Ac 4 (-1)]
def iG:aK:=⟨44,(asI vw [] (asI vv CH (.seq (asI vu [] (asL 0 (.seq (asI vt C7 (asM 25 0)) (.seq (.block 1 (asI vr [false,true,false,false,false,false,false,false,false,false,false,false,false,false] (asI vq C6 (asK 42 (.sreg vp C4))))) (.sreg vm C6))))) (asI vk [] .ret)))),[(.tmp 4)]⟩
attribute [push_cast] vw vv vu vt vr vq vp vm vk
theorem tA:asN 82=asO iG:=asR
def qU:LSO:=[Ac 4 0]
def qT:LSO:=[Aa 6 0,Au 7 6,Ad 8 1 7,Ab 9 1 8,Ah 10 9,Ac 11 0]
def qS:LSO:=[Al 12 11 10]
def qR:LSO:=[Aa 13 11,Aa 5 13]
def qQ:LSO:=[Aa 14 0,Au 15 14,Ad 16 1 15,Ab 17 1 16,Aa 18 5,Am 19 3 17 18,Ad 20 0 19,Ab 21 1 20,Aa 22 1,AF 23 21 22]
def qP:LSO:=[Aa 24 5,Aa 4 24]
def qO:LSO:=[Ai 25 11 1,Aa 11 25]
def qN:LSO:=[Ac 4 (-1)]
def lV:aK:=⟨26,(asI qU [] (.seq (asI qT CP (asL 0 (asI qS [] (.seq (asM 12 0) (.seq (.block 1 (asI qR C4 (asI qQ CG (asK 23 (.sreg qP C4))))) (.sreg qO C4)))))) (asI qN [] .ret))),[(.tmp 4)]⟩
attribute [push_cast] qU qT qS qR qQ qP qO qN
theorem Ol:asN 186=asO lV:=asR
def qL:LSO:=[Ac 4 0]
def qK:LSO:=[Aa 8 0,Aa 9 1,As 10 186 8 9,Aa 5 10]
def qJ:LSO:=[Ac 6 0]
def qI:LSO:=[Aa 11 0,Au 12 11,Ad 13 1 12,Ab 14 1 13,Ah 15 14,Ac 16 0]
def qH:LSO:=[Al 17 16 15]
def qG:LSO:=[Aa 18 16,Aa 7 18]
def qF:LSO:=[Aa 19 5,AL 20 19 0,Aa 21 20,.grp none 21 true
 [Ae 22 21 0,Bx 23 21 22,A6 24 21 1 23,A5 25 21 1 24,Ae 26 21 7,Bg 27 21 3 25 26,A6 28 21 1 27,A5 29 21 1 28,AE 30 21 29,Ae 31 21 0,Bx 32 21 31,A6 33 21 1 32,A5 34 21 1 33,
 Ae 35 21 5,Bg 36 21 3 34 35,A6 37 21 1 36,A5 38 21 1 37,AE 39 21 38,Cj 40 21 39 1,B0 41 21 30 40]
 42 (tm 41),Aa 43 42,.grp none 43 true
 [Ae 44 43 0,Bx 45 43 44,A6 46 43 1 45,A5 47 43 1 46,Ae 48 43 7,Bg 49 43 3 47 48,A6 50 43 1 49,A5 51 43 1 50,Ae 52 43 0,Bx 53 43 52,A6 54 43 1 53,A5 55 43 1 54,Ae 56 43 5,
 Bg 57 43 3 55 56,A6 58 43 1 57,A5 59 43 1 58,AS 60 43 38 51 59]
 61 (tm 60)]
def qE:LSO:=[Aa 62 6,Ai 63 62 1,Aa 6 63]
def qD:LSO:=[Ai 64 16 1,Aa 16 64]
def qC:LSO:=[Aa 65 6,Aa 4 65]
def fX:aK:=⟨66,(asI qL [] (asI qK C7 (asI qJ [] (.seq (asI qI CP (asL 0 (asI qH [] (.seq (asM 17 0) (.seq (.block 1 (asI qG C4 (.seq (.sdreg qF [.pure,.pure,.pure,.pure,(.read 0 0),.pure,(.read 0 0),.pure,(.read 0 0),.pure,(.read 0 0),(.read 0 0),.pure,(.read 0 0),.pure,(.read 0 0),.pure,(.read 0 0),.pure,(.read 0 0),(.read 0 0),.pure,.pure,.pure,.pure,.pure,(.read 0 0),.pure,(.read 0 0),.pure,(.read 0 0),.pure,(.read 0 0),.pure,(.read 0 0),.pure,(.read 0 0),.pure,(.read 0 0),.pure,(.read 0 0)] CB) (asJ 61 (.sreg qE C6) .skip)))) (.sreg qD C4)))))) (asI qC C4 .ret))))),[(.tmp 4)]⟩
attribute [push_cast] qL qK qJ qI qH qG qF qE qD qC
theorem pg:asN 130=asO fX:=asR
def KC:LSO:=[Af 4]
def KB:LSO:=[Aa 5 0,Ah 6 5,Aa 7 1,Ah 8 7,AF 9 6 8,Aa 10 9,.grp none 10 true
 [Ae 11 10 0,Ae 12 10 1,AS 13 10 38 11 12]
 14 (tm 13),Aa 4 14]
def lU:aK:=⟨15,(asI KC [] (asI KB CE .ret)),[(.tmp 4)]⟩
attribute [push_cast] KC KB
theorem JZ:asN 129=asO lU:=asR
def Ga:LSO:=[Ak 6]
def F9:LSO:=[Ak 7]
def F8:LSO:=[Aa 8 7,Aa 9 0,Aa 10 0,Ah 11 10,Aa 12 1,BF 13 11 12,Cq 14 9 13,Bj 15 8 14,Aa 7 15]
def F7:LSO:=[Aa 16 7,Aa 17 2,Bj 18 16 17,Aa 6 18]
def ww:aK:=⟨19,(asI Ga [] (asI F9 [] (asI F8 CM (asI F7 C7 .ret)))),[(.tmp 6)]⟩
attribute [push_cast] Ga F9 F8 F7
theorem W0:asN 83=asO ww:=asR
def rf:LSO:=[Az 3 1,Ac 4 0]
def re:LSO:=[Ad 14 0 3,Ab 15 1 14,AJ 16 15 1,Aa 17 16,.grp none 17 false
 [A3 18 17 0 3,Ay 19 17 1 18,AC 20 17 19 4]
 21 (tm 20)]
def rd:LSO:=[Ac 4 1]
def rb:LSO:=[Aa 22 0,Ad 23 1 3,Ab 24 1 23,As 25 82 22 24,Aa 5 25]
def q9:LSO:=[Ad 26 0 3,Ab 27 1 26,An 28 27 1]
def qZ:LSO:=[Ad 30 1 3,Ab 31 1 30,Aj 32 37 31,Aa 29 32,Ao 33 29,Aq 34 29,Aa 6 33,Aa 7 34]
def qY:LSO:=[Aa 35 7,AB 36 35 0]
def qX:LSO:=[Ac 4 34]
def qW:LSO:=[Aa 37 5,AL 38 37 0]
def qV:LSO:=[Ac 4 68]
def oL:LSO:=[Ad 39 1 3,Ab 40 1 39,Aa 41 0,Au 42 41,Ad 43 0 42,Ab 44 1 43,As 45 129 40 44,A7 46 45,Aa 47 46,.grp none 47 true
 [A6 48 47 1 3,A5 49 47 1 48,AE 50 47 49,AP 51 47 50 0,Ae 52 47 51,.grp (some (47,true)) 52 false
 [Ag 53 52 0,A3 54 52 1 3,Ay 55 52 1 54,og 56 52 false (.slV 1 (tm 55) (some (iv 1)) none none),BX 57 52 82 53 56,Bh 58 52 57 0]
 59 (tm 58)]
 60 (tm 59)]
def oK:LSO:=[Ac 4 32]
def oJ:LSO:=[Aa 61 0,Au 62 61,Ad 63 1 62,Ab 64 1 63,Ah 65 64,AL 66 65 4096]
def oI:LSO:=[Ac 4 80]
def oH:LSO:=[Ac 4 0]
def oG:LSO:=[Aa 67 5,AJ 68 67 0]
def oF:LSO:=[Ac 4 32]
def oE:LSO:=[Ad 69 0 3,Ab 70 1 69,An 71 70 2,Aa 72 71,.grp none 72 true
 [Ae 73 72 0,Ae 74 72 0,Bx 75 72 74,A6 76 72 1 75,A5 77 72 1 76,Ae 78 72 5,Bg 79 72 3 77 78,A6 80 72 0 79,A5 81 72 1 80,AS 82 72 130 73 81,BD 83 72 82 0]
 84 (tm 83)]
def oD:LSO:=[Ac 4 66]
def oC:LSO:=[Ad 85 0 3,Ab 86 1 85,An 87 86 4]
def oB:LSO:=[Ad 89 2 3,Ab 90 1 89,Aj 91 37 90,Aa 88 91,Ao 92 88,Aq 93 88,Aa 8 92,Aa 9 93]
def oA:LSO:=[Ad 94 1 3,Ab 95 1 94,Aa 96 0,Au 97 96,Ad 98 0 97,Ab 99 1 98,As 100 129 95 99]
def oz:LSO:=[Ac 4 53]
def oy:LSO:=[Aa 101 9,AB 102 101 0,Aa 103 102,.grp none 103 false
 [A3 104 103 2 3,Ay 105 103 1 104,AM 106 103 105,AH 107 103 106 0]
 108 (tm 107)]
def ox:LSO:=[Ac 4 34]
def ow:LSO:=[Ad 109 2 3,Ab 110 1 109,BG 111 110 1,Ad 112 1 3,Ab 113 1 112,As 114 38 111 113]
def ov:LSO:=[Ac 4 53]
def ou:LSO:=[Aa 115 0,Ad 116 2 3,Ab 117 1 116,BG 118 117 1,As 119 82 115 118,AJ 120 119 0]
def ot:LSO:=[Ac 4 32]
def oq:LSO:=[Aa 121 0,Ad 122 2 3,Ab 123 1 122,As 124 82 121 123,AL 125 124 0,Aa 126 125,.grp none 126 true
 [Ae 127 126 0,A6 128 126 2 3,A5 129 126 1 128,AS 130 126 82 127 129,Ae 131 126 5,og 132 126 true (.bin .neq (tm 130) (tm 131))]
 133 (tm 132)]
def oo:LSO:=[Ac 4 68]
def om:LSO:=[Aa 134 0,Au 135 134,Ad 136 1 135,Ab 137 1 136,Ah 138 137,Ac 139 0]
def ol:LSO:=[Al 140 139 138]
def oj:LSO:=[Am 141 3 137 139,Ar 142 3 141,o1 11 (.alloc [(.int .i64 0),(.sl [] 0 (some 0)),(.sl [] 0 (some 0))]),Ap 3 11 142]
def oi:LSO:=[Ad 143 1 11,Ab 144 1 143,Ad 145 1 3,Ab 146 1 145,As 147 38 144 146]
def oh:LSO:=[Ad 149 1 11,Ab 150 1 149,Ad 151 1 3,Ab 152 1 151,Ah 153 152,Ad 154 2 3,Ab 155 1 154,AI 156 83 150 153 155,Aj 157 37 156,Aa 148 157,Ao 158 148,
 Aq 159 148,Aa 12 158,Aa 13 159]
def oe:LSO:=[Aa 160 13,AB 161 160 0]
def oc:LSO:=[Ac 4 34]
def n9:LSO:=[Ai 162 139 1,Aa 139 162]
def n8:LSO:=[Ac 4 0]
def am:aK:=⟨163,(asI rf [] (.seq (asI re CA (asK 21 (.sreg rd []))) (asI rb CA (.seq (asI q9 C6 (asJ 28 (asI qZ CE (.seq (asI qY C4 (asK 36 (.sreg qX []))) (.seq (asI qW C4 (asK 38 (.sreg qV []))) (.seq (.seq (.sdreg oL [.pure,(.read 0 0),.pure,(.read 0 0),.pure,(.read 0 0),(.read 0 0),.pure,.pure,.pure,(.read 0 0),(.read 0 0),.pure,.pure,.pure,.pure,(.read 0 0),(.read 0 0)] CG) (asK 60 (.sreg oK []))) (.seq (asI oJ CB (asK 66 (.sreg oI []))) (asI oH [] .ret)))))) .skip)) (.seq (asI oG C4 (asK 68 (.sreg oF []))) (.seq (asI oE CA (asK 84 (.sreg oD []))) (.seq (asI oC C6 (asJ 87 (asI oB CE (.seq (.seq (.sdreg oA [.pure,(.read 0 0),.pure,(.read 0 0),.pure,(.read 0 0)] CC) (asK 100 (.sreg oz []))) (.seq (asI oy C7 (asK 108 (.sreg ox []))) (.seq (.seq (.sdreg ow [.pure,(.read 0 0),(.read 0 0),.pure,(.read 0 0)] CB) (asK 114 (.sreg ov []))) (.seq (asI ou CB (asK 120 (.sreg ot []))) (.seq (asI oq CC (asK 133 (.sreg oo []))) (asI om CV (asL 0 (asI ol [] (.seq (asM 140 0) (.seq (.block 1 (asI oj C6 (asI oi CA (asJ 147 (asI oh Da (asI oe C4 (asK 161 (.sreg oc [])))) .skip)))) (.sreg n9 C4)))))))))))) .skip)) (asI n8 [] .ret)))))))),[(.tmp 4)]⟩
attribute [push_cast] rf re rd rb q9 qZ qY qX qW qV oL oK oJ oI oH oG oF oE oD oC oB oA oz oy ox ow ov ou ot oq oo om ol oj oi oh oe oc n9 n8
theorem az:asN 81=asO am:=asR
def vj:LSO:=[Az 3 1,Ac 4 0]
def vh:LSO:=[Aa 10 0,Ar 11 4 3,As 12 81 10 11,Aa 5 12]
def vg:LSO:=[Aa 13 5,AB 14 13 0]
def vf:LSO:=[Aa 15 5,Aa 4 15]
def ve:LSO:=[Aa 16 0,Ad 17 1 3,Ab 18 1 17,As 19 82 16 18,Aa 6 19]
def vd:LSO:=[Ak 7]
def vc:LSO:=[Aa 20 0,Au 21 20,Ad 22 1 21,Ab 23 1 22,Ah 24 23,Ac 25 0]
def u9:LSO:=[Al 26 25 24]
def u7:LSO:=[Aa 27 25,Am 28 3 23 25,Ar 29 3 28,o1 9 (.alloc [(.int .i64 0),(.sl [] 0 (some 0)),(.sl [] 0 (some 0))]),Aa 8 27,Ap 3 9 29]
def u6:LSO:=[Ad 30 0 3,Ab 31 1 30,An 32 31 4,Aa 33 32,.grp none 33 true
 [A6 34 33 1 9,A5 35 33 1 34,A6 36 33 1 3,A5 37 33 1 36,AS 38 33 38 35 37]
 39 (tm 38)]
def sY:LSO:=[Ad 40 1 9,Ab 41 1 40,Ad 42 1 3,Ab 43 1 42,Ah 44 43,Ad 45 2 3,Ab 46 1 45,AI 47 83 41 44 46,Aj 48 40 47,Ad 49 1 9,Ap 1 49 48]
def sX:LSO:=[Aa 50 8,Aa 51 6,AF 52 50 51,Aa 53 52,.grp none 53 true
 [A6 54 53 0 3,A5 55 53 1 54,AP 56 53 55 3,Ae 57 53 56,.grp (some (53,true)) 57 false
 [A3 58 57 0 3,Ay 59 57 1 58,AH 60 57 59 4]
 61 (tm 60)]
 62 (tm 61)]
def sW:LSO:=[Ad 63 3 3,Ab 64 1 63,Aj 65 16 64,Ad 66 2 9,Ap 1 66 65]
def sV:LSO:=[Aa 67 8,Aa 68 6,Be 69 67 68,Aa 70 69,.grp none 70 false
 [A3 71 70 0 3,Ay 72 70 1 71,Bk 73 70 72 2]
 74 (tm 73)]
def sU:LSO:=[Aa 75 7,Ar 76 3 9,o1 77 (.bslice false 3 1 [(.int .i64 0),(.sl [] 0 (some 0)),(.sl [] 0 (some 0))] [(0,(3,(tm 76)))]),
 o1 78 (.app 1 3 56 [(.int .i64 0),(.sl [] 0 (some 0)),(.sl [] 0 (some 0))] (tm 75) (tm 77)),Aa 7 78]
def sT:LSO:=[Ai 79 25 1,Aa 25 79]
def sS:LSO:=[Ad 80 0 3,Ab 81 1 80,An 82 81 1]
def sR:LSO:=[Aa 83 0,Au 84 83,Ad 85 2 84,Ab 86 1 85,Ai 87 86 1,Au 88 83,Ad 89 2 88,Ap 1 89 87]
def sQ:List (aw×Kd):=
 [AD 90 7,AD 91 0,AT 92 91 0 0,A9 93 2 92,AA 94 1 93 0 0,A9 95 1 3,AA 96 1 95 0 0,Bf 97 40 96 0 0,A9 98 3 3,AA 99 1 98 0 0,Bf 100 16 99 0 0,
 od 101 (.build [(.int .i64 0),(.sl [] 0 (some 0)),(.sl [] 0 (some 0))] [(0,(1,(tm 94))),(1,(1,(tm 97))),(2,(1,(tm 100)))]) .pure,
 od 102 (.bslice false 3 1 [(.int .i64 0),(.sl [] 0 (some 0)),(.sl [] 0 (some 0))] [(0,(3,(tm 101)))]) (.read 0 0)]
def qM:List aw :=
 [⟨(some 103),(.app 1 3 56 [(.int .i64 0),(.sl [] 0 (some 0)),(.sl [] 0 (some 0))] (tm 90) (tm 102)),none⟩,⟨(some 7),(.mv (tm 103)),none⟩]
def sP:LSO:=[Aa 104 0,Aa 105 7,Au 106 104,Ad 107 1 106,Ap 1 107 105]
def sO:LSO:=[Ac 4 0]
def cz:aK:=⟨108,(asI vj [] (asI vh C7 (.seq (asI vg C4 (asK 14 (.sreg vf C4))) (asI ve CA (asI vd [] (.seq (asI vc CV (asL 0 (asI u9 [] (.seq (asM 26 0) (.seq (.block 1 (asI u7 CF (.seq (asI u6 CA (asJ 39 (.sreg sY Dg) .skip)) (.seq (asI sX CA (asJ 62 (.sreg sW CN) .skip)) (asI sV CA (asJ 74 (.sreg sU CA) .skip)))))) (.sreg sT C4)))))) (.seq (asI sS C6 (asJ 82 (asI sR CT (.dregM sQ qM Dm)) .skip)) (asI sP CN (asI sO [] .ret))))))))),[(.tmp 4)]⟩
attribute [push_cast] vj vh vg vf ve vd vc u9 u7 u6 sY sX sW sV sU sT sS sR sQ qM sP sO
theorem fg:asN 35=asO cz:=asR
def HP:LSO:=[Af 4]
def HO:LSO:=[Aa 10 0,Aj 11 37 10,Aa 9 11,Ao 12 9,Aq 13 9,Aa 5 12,Aa 6 13]
def HN:LSO:=[Aa 15 1,Aj 16 89 15,Aa 14 16,Ao 17 14,Aq 18 14,Aa 7 17,Aa 8 18]
def HM:LSO:=[Aa 19 6,AB 20 19 0,Aa 21 20,.grp none 21 false
 [Ag 22 21 8,Bk 23 21 22 0]
 24 (tm 23),Aa 25 24,.grp none 25 false
 [Ag 26 25 0,AM 27 25 26,Ag 28 25 1,AM 29 25 28,og 30 25 false (.bin .lss (tm 27) (tm 29))]
 31 (tm 30)]
def HL:LSO:=[Af 4]
def HK:LSO:=[Aa 32 0,Aa 33 0,Ah 34 33,Aa 35 1,Ah 36 35,BF 37 34 36,Cy 38 32 37,Aj 39 90 38,Aj 40 88 39,Aa 41 7,AF 42 40 41,Aa 4 42]
def dN:aK:=⟨43,(asI HP [] (asI HO CC (asI HN CH (.seq (asI HM CB (asK 31 (.sreg HL []))) (asI HK CK .ret))))),[(.tmp 4)]⟩
attribute [push_cast] HP HO HN HM HL HK
theorem jk:asN 38=asO dN:=asR
def MM:LSO:=[Af 4]
def ML:LSO:=[Aa 7 0,Ah 8 7,Aa 9 1,Ah 10 9,Be 11 8 10]
def MK:LSO:=[Af 4]
def MJ:LSO:=[Aa 12 0,Ah 13 12,Ac 14 0]
def MI:LSO:=[Al 15 14 13]
def MH:LSO:=[Aa 16 14,Aa 5 16]
def MG:LSO:=[Aa 17 0,Aa 18 5,Am 19 1 17 18,Ab 20 1 19,Ah 21 20,Aa 22 1,Aa 23 5,Am 24 1 22 23,Ab 25 1 24,Ah 26 25,Be 27 21 26]
def MF:LSO:=[Af 4]
def ME:LSO:=[Aa 28 0,Aa 29 5,Am 30 1 28 29,Ab 31 1 30,Ah 32 31,Ac 33 0]
def MD:LSO:=[Al 34 33 32]
def HV:LSO:=[Aa 35 33,Aa 6 35]
def HU:LSO:=[Aa 36 0,Aa 37 5,Am 38 1 36 37,Ab 39 1 38,Aa 40 6,Am 41 2 39 40,Ar 42 2 41,Aa 43 1,Aa 44 5,Am 45 1 43 44,Ab 46 1 45,Aa 47 6,Am 48 2 46 47,Ar 49 2 48,
 o1 50 (.eq2 true (tm 42) (tm 49))]
def HT:LSO:=[Af 4]
def HS:LSO:=[Ai 51 33 1,Aa 33 51]
def HR:LSO:=[Ai 52 14 1,Aa 14 52]
def HQ:LSO:=[A0 4]
def Fg:aK:=⟨53,(asI MM [] (.seq (asI ML CA (asK 11 (.sreg MK []))) (.seq (asI MJ CD (asL 0 (asI MI [] (.seq (asM 15 0) (.seq (.block 1 (asI MH C4 (.seq (.seq (.sdreg MG [.pure,.pure,(.read 0 0),(.read 0 0),(.read 0 0),.pure,.pure,(.read 0 0),(.read 0 0),(.read 0 0)] CU) (asK 27 (.sreg MF []))) (asI ME CP (asL 2 (asI MD [] (.seq (asM 34 2) (.seq (.block 3 (asI HV C4 (.seq (.sdreg HU [.pure,.pure,(.read 0 0),(.read 0 0),.pure,(.read 0 0),(.read 0 0),.pure,.pure,(.read 0 0),(.read 0 0),.pure,(.read 0 0),(.read 0 0)] Dm) (asK 50 (.sreg HT []))))) (.sreg HS C4))))))))) (.sreg HR C4)))))) (asI HQ [] .ret)))),[(.tmp 4)]⟩
attribute [push_cast] MM ML MK MJ MI MH MG MF ME MD HV HU HT HS HR HQ
theorem YE:asN 12=asO Fg:=asR
def MC:LSO:=[Ak 2]
def MB:LSO:=[Ak 3]
def MA:LSO:=[Aa 6 0,Ah 7 6,Ac 8 0]
def Mz:LSO:=[Al 9 8 7]
def My:LSO:=[Am 10 1 6 8,Ab 11 1 10,Aa 5 11]
def Mx:LSO:=[Aa 12 3,o1 13 (.bslice false 2 0 [] []),Aa 14 5,o1 15 (.app 0 2 32 [(.str []),(.str [])] (tm 13) (tm 14)),Bm 16 15,Bj 17 12 16,Aa 3 17]
def Mw:LSO:=[Ai 18 8 1,Aa 8 18]
def Mv:LSO:=[Aa 19 3,Aa 2 19]
def Ff:aK:=⟨20,(asI MC [] (asI MB [] (.seq (asI MA [] (asL 0 (asI Mz [] (.seq (asM 9 0) (.seq (.block 1 (asI My C6 (.sreg Mx CC))) (.sreg Mw C4)))))) (asI Mv C4 .ret)))),[(.tmp 2)]⟩
attribute [push_cast] MC MB MA Mz My Mx Mw Mv
theorem YD:aL Tryz.prog (λr i=>if r=5/\i=3 then 0 else 1) 40=some Ff.raw:=asR
attribute [push_cast] iZ iG lV fX lU ww am cz dN Fg Ff
end Go.Proofs.YtdnfjhflkkpokaaGreatDoor.Av
